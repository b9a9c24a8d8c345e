/- Aids for the walks, part 4: a symbolic state of the machine, and that each step of the machine keeps it. -/
import Derived.MapKept
import Derived.RangeFuncRecord
import Derived.RangeFuncIn
import Derived.Maps.RangeRun
import Derived.Lib.Overlaps
import Derived.Lib.AppendZerosOnto
import Derived.Laws.Externs
import Derived.Test.YtploppegiebboaaGreatDoorFlowApartCore3
set_option linter.all false
open Go renaming World→lQ,Value→lR,TypeId→lS,execOp→lT,Program→lU,Operand→lV,Oper→lW,FuncId→lX,Act→lZ,MapEntry→l3,setRow_other→l5,run_loadCells_list→l6,Frame→l7
open List renaming mem_singleton→aC,getElem?_eq_some_iff→aE,all_eq_true→aH,map_cons→aI,getElem?_map→aK,length_take→aL,mem_map→aM,length_map→aN,replicate→aQ,mem_cons→aV,length_append→ae,getElem?_take→aj,eq_nil_of_length_eq_zero→ar,map_nil→au,cons_append→bJ,map_congr_left→bK,map_toArray→bT,size_toArray→bW,length_drop→bg,length_set→bz,getElem_mem→b9,mem_range→cB,map_map→cG,range→cO,nodup_cons→cR,range'→cV,getElem?_toArray→cW,pairwise_cons→cY,length_pos_iff→fV,getElem?_reverse→gJ,length_range→iP
open Go.Result renaming andThen_ok→aD,andThen→eW
open Nat renaming beq→aF,blt→aO,mul_le_mul_right→aT,ble→aY,lt_succ_self→ab,zero_add→aw,add_mul→bD,le_add_right→bR,le_trans→bV,lt_irrefl→bj,min_eq_left→cS,one_pos→ef,beq_refl→eu,mul_le_mul→iJ
open Go.Sem renaming run_bind→aG,run_pure→aJ
open Option.some renaming injEq→aR
open Array renaming getElem?_eq_some_iff→aW,length_toList→aq,replicate→cQ,getElem?_append_left→cX,getElem?_eq_getElem→dQ,getElem?_modify→eI,size_append→fw
open Int renaming toNat_natCast→a8,natCast_nonneg→da
open Option renaming isSome_iff_exists→bC,getD_some→bX,map_some→bb,map_none→ez
open Go.IntKind renaming i64→bG
open Go.Builtin renaming firstCells→bQ,zeroCells→bZ,lenOf→eA,copy_→gW
open Go.Sort renaming putRow→bU,ahead→bY,putCells→cH,grow→cP,mapBlock→cm,heap_grow_old→eJ,Holds→gX
open Prod.mk renaming inj→cC
open Go.Instr renaming findNow→cz,loadAt→ej,lookup→ew,sliceAt→fC,mapUpdate→jq,sameNow→kG
open Go.MapKept renaming run_getObj_map→dH,run_findKey→eU,run_checkKey→fL,run_setObj_map→ja
open Go.Value renaming int→dP
open Go.World renaming putObj_heap_other→df,shape?→jZ,putObj_heap_same→jb,alloc_heap_new→jx
open Go.ChangeMaps renaming setBlock→dv
open ULift renaming down→eE
open Go.Deferred renaming ofValue→fR
open Bool renaming eq_iff_iff→fY
open Go.Steps renaming one→gN
open Go.Extern.SlicesOverlaps renaming overlaps→gS
open Go renaming heap_alloc_old→iQ
open Go.Region renaming wanted→iU
open Go.Value.slice renaming injEq→kN
open Go.Frame renaming round→kX
namespace Go.Kx
section
variable [kv]
class ke (κ:Type) where
 eq:κ->κ->Bool
 eq_iff:∀a b,eq a b=true↔a=b
 val:κ->lR
 sc:κ->SC
 den_sc:∀E a,Yn E (sc a)=val a
 ty:TypeDesc
 same:∀a k,kG ty (val a) (val k)=some (eq k a)
 key:∀a,MapKept.IsKey ty (val a)
omit [kv] in
theorem Zmh(a b:be):(a.data.toList==b.data.toList)=true↔a=b:=by
 rw[lk];constructor
 ·intro h;have⟨x⟩:=a;have⟨y⟩:=b;have:x=y:=Array.toList_inj.1 h;rw[this]
 ·rintro rfl;rfl
instance keyS:ke be where
 eq a b:=a.data.toList==b.data.toList
 eq_iff:=Zmh
 val:=.string
 sc:=.s
 den_sc _ _:=rfl
 ty:=.string
 same a k:=by show some (a==k)=some (k.data.toList==a.data.toList);congr 1;rw[fY,MapKept.bytes_beq,Zmh];exact eq_comm
 key _:=trivial
instance keyI:ke Int where
 eq a b:=a==b
 eq_iff a b:=lk
 val:=.int .i64
 sc:=.i .i64
 den_sc _ _:=rfl
 ty:=.int .i64
 same a k:=by show (if bG=bG then some (a==k) else none)=_;rw[mD rfl];congr 1;rw[fY,lk,lk];exact eq_comm
 key _:=rfl
section
variable {κ:Type}[ke κ]
variable {α:Type}
def YR:List (κ×α)->κ->Option α
 | [],_=>none
 | (k,v)::r,a=>bif ke.eq k a then some v else YR r a
def Xf:List (κ×α)->κ->α->List (κ×α)
 | [],a,x=>[(a,x)]
 | (k,v)::r,a,x=>bif ke.eq k a then (k,x)::r else (k,v)::Xf r a x
def W2(ag:Bool)(vs:List lR):lR:=bif ag then .agg vs.toArray else vs.headD undef
def ko(R:k6 α)(ag:Bool)(F:YJ)(w:lQ):List l3->List (κ×α)->Prop
 | [],[]=>True
 |e::es,(k,x)::r=>e.key=ke.val k/\(∃vs,R.rep F w x vs/\e.val=W2 ag vs)/\ko R ag F w es r
 |_,_=>False
omit [kv] in
theorem ko.mono{R:k6 α}{ag F w F' w'}(g:X3 F w F' w'):∀ {es:List l3} {lM:List (κ×α)},ko R ag F w es lM->ko R ag F' w' es lM
 | [],[],_=>trivial
 | [],_::_,h=>h.elim
 |_::_,[],h=>h.elim
 |e::es,(k,x)::r,⟨h1,⟨vs,h2,h3⟩,h4⟩=>⟨h1,⟨vs,R.mono g h2,h3⟩,ko.mono g h4⟩
def StOk(es:List l3)(clock:Nat):Prop:=(∀e,e∈es->e.born<clock)/\(es.map (·.born)).Nodup
omit [ke κ] [kv] in
theorem StOk.push{es:List l3}{d:Nat}{k v:lR}(h:StOk es d):StOk (es++[{ key:=k,val:=v,born:=d }]) (d+1):=by
 refine⟨fun e g=>?_,?_⟩
 ·rcases List.mem_append.1 g with g|g
  ·have:=h.1 e g;omega
  ·rw[aC.1 g];exact ab _
 ·rw[List.map_append,List.nodup_append];refine⟨h.2,by simp,fun a j b i=>?_⟩;obtain⟨e,g,rfl⟩:=aM.1 j;have i:b=d:=by simpa using i
  have:=h.1 e g;omega
omit [ke κ] [kv] in
theorem StOk.modify{es:List l3}{d:Nat}{k v:lR}(h:StOk es d)(j:Nat):StOk (es.modify j fun e=>{ e with key:=k,val:=v }) d:=by
  have g:(es.modify j fun e=>{ e with key:=k,val:=v }).map (·.born)=es.map (·.born):=by
    apply List.ext_getElem?;intro i;rw[aK,aK,List.getElem?_modify];cases es[i]? with
    |none=>rfl
    |some e=>
      show some _=some _;congr 1;split<;>rfl
  refine⟨fun e m=>?_,by rw[g];exact h.2⟩;have:e.born∈es.map (·.born):=by rw[<-g];exact aM.2 ⟨e,m,rfl⟩
  have⟨n,o,p⟩:=aM.1 this;rw[<-p];exact h.1 n o
def ZhH(R:k6 α)(ag nl:Bool)(lM:List (κ×α))(F:YJ)(w:lQ)(v:lR):Prop:=
 (nl=true/\lM=[]/\v=.map none)\/∃b es clock,v=.map (some b)/\w.heap[b]?=some (.map es clock)/\ko R ag F w es.toList lM/\StOk es.toList clock
def Xr(R:k6 α)(ag nl:Bool)(lM:List (κ×α)):Lx where
 ok F w v:=ZhH R ag nl lM F w v
 mono g hb h:=by
  rcases h with h|⟨b,es,clock,hv,hh,hl,hst⟩
  ·exact .inl h
  ·exact .inr ⟨b,es,clock,hv,by rw[hb b (by rw[hv];rfl)];exact hh,hl.mono g,hst⟩
 one h:=by rcases h with⟨_,_,hv⟩|⟨_,_,_,hv,_⟩<;>rw[hv]<;>rfl
omit [kv] in
theorem ZjZ{R:k6 α}{ag F w}(a:κ):∀(es:List l3) (lM:List (κ×α)) (i:Nat),ko R ag F w es lM ->
  (YR lM a=none/\cz (ke.ty κ) (ke.val a) es i=some none)\/∃x j e g,YR lM a=some x/\cz (ke.ty κ) (ke.val a) es i=some (some (i+j,e.val))/\es[j]?=some e/\e.key=ke.val a/\R.rep F w x g/\e.val=W2 ag g
 | [],[],i,_=>.inl ⟨rfl,rfl⟩
 | [],_::_,_,h=>h.elim
 |_::_,[],_,h=>h.elim
 |e::es,(k,x)::r,i,⟨h1,⟨g,h2,h3⟩,h4⟩=>by
  have p:kG (ke.ty κ) (ke.val a) e.key=some (ke.eq k a):=by rw[h1];exact ke.same a k
  by_cases q:a=k
  ·subst q;have d:ke.eq a a=true:=(ke.eq_iff a a).2 rfl;exact .inr ⟨x,0,e,g,by rw[YR,d];rfl,by unfold cz;rw[p,d];rfl,rfl,h1,h2,h3⟩
  ·have d:ke.eq k a=false:=by
    cases C:ke.eq k a with
    |false=>rfl
    |true=>exact absurd ((ke.eq_iff k a).1 C).symm q
   rcases ZjZ a es r (i+1) h4 with⟨m,n⟩|⟨y,j,u,o,m,n,v,z,A,B⟩
   ·exact .inl ⟨by rw[YR,d];exact m,by unfold cz;rw[p,d];exact n⟩
   ·refine .inr ⟨y,j+1,u,o,by rw[YR,d];exact m,?_,by simpa using v,z,A,B⟩;unfold cz;rw[p,d];show cz (ke.ty κ) (ke.val a) es (i+1)=_;rw[n,show i+1+j=i+(j+1) by omega]
section
variable {P:lU}{t kt et:lS}
variable {a:κ}{w:lQ}
theorem ZrG{g:lR}(i:P.underlying t=some (.map kt et))(h:P.underlying kt=some (ke.ty κ))(hz:∀w,(zeroValue et).run P w=.ok g w)(d:Bool) :
  (ew t (.map none) (ke.val a) d).run P w=.ok (bif d then .tuple #[g,.bool false] else g) w:=by have j:=eU (P:=P) (w:=w) (k:=ke.val a) (l:=[]) (a:=none) h rfl;have m:=fun e n=>fL (P:=P) (w:=w) (k:=ke.val a) h (ke.key a) e n;cases d<;>simp[ew,Xl i,m,j,hz,eW]
variable {α:Type}{R:k6 α}
theorem ZkE{ag nl:Bool}{F:YJ}{lM:List (κ×α)}{v m:lR}(o:P.underlying t=some (.map kt et))(g:P.underlying kt=some (ke.ty κ))(hz:∀w,(zeroValue et).run P w=.ok m w)
  (h:(Xr R ag nl lM).ok F w v) (d:Bool) :
  (YR lM a=none/\(ew t v (ke.val a) d).run P w=.ok (bif d then .tuple #[m,.bool false] else m) w) \/
  ∃x i,YR lM a=some x/\R.rep F w x i/\(ew t v (ke.val a) d).run P w=.ok (bif d then .tuple #[W2 ag i,.bool true] else W2 ag i) w:=by
 rcases h with⟨_,rfl,rfl⟩|⟨b,es,p,rfl,z,A,_⟩
 ·exact .inl ⟨rfl,ZrG o g hz d⟩
 rcases ZjZ a es.toList lM 0 A with⟨q,r⟩|⟨x,j,e,i,q,r,D,G,B,C⟩
 ·refine .inl ⟨q,?_⟩;have u:=eU (P:=P) (w:=w) g r;have y:=fun e n=>fL (P:=P) (w:=w) (k:=ke.val a) g (ke.key a) e n;cases d<;>simp[ew,Xl o,dH z,y,u,hz,eW]
 ·refine .inr ⟨x,i,q,B,?_⟩;have u:=eU (P:=P) (w:=w) g r;have y:=fun e n=>fL (P:=P) (w:=w) (k:=ke.val a) g (ke.key a) e n;rw[<-C];cases d<;>simp[ew,Xl o,dH z,y,u,eW]
omit [kv] in
theorem ko.put{ag F w}{x:α}{m:List lR}(n:R.rep F w x m):∀(es:List l3) (lM:List (κ×α)) (i d:Nat),ko R ag F w es lM ->
  (cz (ke.ty κ) (ke.val a) es i=some none/\ko R ag F w (es++[{ key:=ke.val a,val:=W2 ag m,born:=d }]) (Xf lM a x)) \/
  ∃j e,cz (ke.ty κ) (ke.val a) es i=some (some (i+j,e.val))/\es[j]?=some e/\e.key=ke.val a/\ko R ag F w (es.modify j fun e=>{ e with key:=ke.val a,val:=W2 ag m }) (Xf lM a x)
 | [],[],i,d,_=>.inl ⟨rfl,rfl,⟨m,n,rfl⟩,trivial⟩
 | [],_::_,_,_,h=>h.elim
 |_::_,[],_,_,h=>h.elim
 |e::es,(k,y)::r,i,d,⟨h1,h2,h4⟩=>by
  have q:kG (ke.ty κ) (ke.val a) e.key=some (ke.eq k a):=by rw[h1];exact ke.same a k
  by_cases u:a=k
  ·subst u;have g:ke.eq a a=true:=(ke.eq_iff a a).2 rfl;refine .inr ⟨0,e,by unfold cz;rw[q,g];rfl,rfl,h1,?_⟩;rw[Xf,g];exact⟨rfl,⟨m,n,rfl⟩,h4⟩
  ·have g:ke.eq k a=false:=by
    cases B:ke.eq k a with
    |false=>rfl
    |true=>exact absurd ((ke.eq_iff k a).1 B).symm u
   rcases ko.put n es r (i+1) d h4 with⟨o,p⟩|⟨j,v,o,p,z,A⟩
   ·refine .inl ⟨by unfold cz;rw[q,g];exact o,?_⟩;rw[Xf,g];exact⟨h1,h2,p⟩
   ·refine .inr ⟨j+1,v,?_,by simpa using p,z,?_⟩
    ·unfold cz;rw[q,g];show cz (ke.ty κ) (ke.val a) es (i+1)=_;rw[o,show i+1+j=i+(j+1) by omega]
    ·rw[Xf,g];exact⟨h1,h2,A⟩
theorem Zlo{ag nl:Bool}(D:nl=false){F:YJ}{lM:List (κ×α)}{v:lR}{x:α}{C:List lR}(T:P.underlying t=some (.map kt et))(G:P.underlying kt=some (ke.ty κ))
  (h:(Xr R ag nl lM).ok F w v) (W:R.rep F w x C) (hF:∀b,YV v=some b->¬ F b) :
  ∃w',(jq t v (ke.val a) (W2 ag C)).run P w=.ok () w'/\(Xr R ag nl (Xf lM a x)).ok F w' v/\w'.os=w.os/\w'.tape=w.tape/\Oq w w'/\w.heap.size<=w'.heap.size/\(∀b,YV v≠some b->w'.heap[b]?=w.heap[b]?):=by
 obtain⟨b,es,i,rfl,y,Y,z⟩:∃b es i,v=.map (some b)/\w.heap[b]?=some (.map es i)/\ko R ag F w es.toList lM/\StOk es.toList i:=by
  rcases h with⟨h,_⟩|h
  ·rw[D]at h;cases h
  ·exact h
 have V:=fun e n=>fL (P:=P) (w:=w) (k:=ke.val a) G (ke.key a) e n;have B:∀(o:Array l3) (p:Nat),ko R ag F w o.toList (Xf lM a x)->StOk o.toList p->(Xr R ag nl (Xf lM a x)).ok F { w with heap:=w.heap.setIfInBounds b (.map o p) } (.map (some b)) /\
   w.heap.size<=({ w with heap:=w.heap.setIfInBounds b (.map o p) }:lQ).heap.size/\∀q,YV (.map (some b))≠some q->({ w with heap:=w.heap.setIfInBounds b (.map o p) }:lQ).heap[q]?=w.heap[q]?:= by
  intro o p N A;have⟨Z,U⟩:=MapKept.heap_set (o':=.map o p) y;have g:X3 F w F { w with heap:=w.heap.setIfInBounds b (.map o p) }:=⟨fun _ h=>h,fun q r=>U q (fun e=>hF b rfl (e▸r))⟩
  exact⟨.inr ⟨b,o,p,rfl,Z,N.mono g,A⟩,by simp,fun q r=>U q (fun e=>r (by rw[e];rfl))⟩
 rcases ko.put (a:=a) W es.toList lM 0 i Y with⟨L,M⟩|⟨j,e,L,M,g3,g4⟩
 ·have O:=eU (P:=P) (w:=w) G L;obtain⟨H,I,K⟩:=B (es.push { key:=ke.val a,val:=W2 ag C,born:=i }) (i+1) (by simpa using M) (by simpa using z.push);exact⟨_,by simp[jq,Xl T,dH y,V,O,ja _ y,eW],H,rfl,rfl,.m,I,K⟩
 ·have O:=eU (P:=P) (w:=w) G L;have hj:es[j]?=some e:=by simpa using M
  have u:(Instr.keyThatStays (ke.val a) (ke.val a)).run P w=.ok (ke.val a) w:=MapKept.run_keyThatStays (d:=ke.ty κ) (ke.key a);obtain⟨H,I,K⟩:=B (es.modify j fun e=>{ e with key:=ke.val a,val:=W2 ag C }) i (by simpa using g4) (by simpa using z.modify j);exact⟨_,by simp[jq,Xl T,dH y,V,O,hj,g3,u,ja _ y,eW],H,rfl,rfl,.m,I,K⟩
end
end
end
section
variable [kv]
variable {α:Type}
def V6(κ:Type)[ke κ](P:lU)(R:k6 α)(t:lS)(ag:Bool)(z:α):Prop:=
 ∃kt et zs,P.underlying t=some (.map kt et)/\P.underlying kt=some (ke.ty κ)/\(∀w,(zeroValue et).run P w=.ok (W2 ag zs) w)/\∀F w,R.rep F w z zs
theorem Zhz{P:lU}{et:lS}{d:lR}(h:(P.info? et).bind (·.zero)=some d):∀w,(zeroValue et).run P w=.ok d w:=by
  intro w;cases hi:P.info? et with
  |none=>rw[hi]at h;cases h
  |some i=>
    rw[hi]at h;have hz:i.zero=some d:=h;simp[zeroValue,typeInfo,hi,hz]
def Tb(ag:Bool)(cs:List SC):SV:=bif ag then .a cs else .c (cs.headD .nil)
def DV(ag:Bool)(cs:List SC)(b:Bool):SV:=.t [bif ag then .inr cs else .inl (cs.headD .nil),.inl (.b b)]
variable {ag:Bool}
theorem Zgt{cs:List SC}{E:lC}{d:List lR}(h:d=cs.map (Yn E))(e:0<d.length):Yt E (Tb ag cs)=W2 ag d:=by
 subst h;cases ag with
 |true=>rfl
 |false=>
  cases cs with
  |nil=>simp at e
  |cons c r=>rfl
theorem ZuH{cs:List SC}{E:lC}{d:List lR}{b:Bool}(h:d=cs.map (Yn E))(e:0<d.length):Yt E (DV ag cs b)=.tuple #[W2 ag d,.bool b]:=by
 subst h;cases ag with
 |true=>rfl
 |false=>
  cases cs with
  |nil=>simp at e
  |cons c r=>rfl
theorem Zmr{cs:List SC}{n:Nat}(h:∀c∈cs,SC.kb n c):(Tb ag cs).kb n:=by
 cases ag with
 |true=>exact h
 |false=>
  cases cs with
  |nil=>trivial
  |cons c r=>exact h c (Zj ..)
theorem ZuI{cs:List SC}{b:Bool}{n:Nat}(h:∀c∈cs,SC.kb n c):(DV ag cs b).kb n:=by
 intro v d;rcases aV.1 d with rfl|d
 ·cases ag with
  |true=>exact h
  |false=>
   cases cs with
   |nil=>trivial
   |cons c r=>exact h c (Zj ..)
 ·rcases aV.1 d with rfl|d
  ·trivial
  ·cases d
section
variable {X:lB}{s:St}{ops:Array lW}{lL:lZ->lQ->Prop}{tt:List (Nat×TD)}
variable {E:lC}
theorem ky.newAv{F:YJ}{w:lQ}{a:lZ}{A:Lx}{v:lR}(e:ky X s E F w a)(m:A.ok F w v)
  (g:∀b,YV v=some b->¬ F b/\¬ X.Z b/\b<w.heap.size/\∀k m',Yg s.M k=some m'->¬ m'.fp E k b) :
  ∃p,p.ρ s.nx=v/\ky X ⟨s.L,(s.nx,.av A)::s.M,s.V,s.nx+1⟩ p F w a:=by
 have o:E.Eqb s.nx (E.setρ s.nx v):=E.eqb_setρ _ _ _ (Zq _);have i:(E.setρ s.nx v).ρ s.nx=v:=by simp[lC.setρ]
 have z:=e.env o (fun j=>by
  simp only[lC.setρ];split
  ·exact A.one m
  ·exact e.one j)
 refine⟨_,i,z.addM' ?_ trivial ?_ (fun h=>by cases h)⟩
 ·show A.ok F w ((E.setρ s.nx v).ρ s.nx);rw[i];exact m
 ·intro b d;have d:YV ((E.setρ s.nx v).ρ s.nx)=some b:=d;rw[i]at d;have⟨r,u,x,y⟩:=g b d;exact⟨r,u,x,fun k m' n q=>y k m' n ((MO.fp_eqb o (e.wf.hM k m' n).1).1 q)⟩
variable {d i:Nat}{o:lW}{lK:List Nat}{t:lS}{α:Type}
theorem kg.mmk(κ:Type)[ke κ](R:k6 α)(ag:Bool)(r:ops[i]?=some o)(u:Y3 ops s.L o=some true)(n:o.op=.makeMap t none)(x:o.dst=some d)(y:aO d X.fn.ntmps=true)
  (z:kg X ops lK lL ⟨(d,.c (.sl s.nx))::s.L,(s.nx,.av (Xr R ag false ([]:List (κ×α))))::s.M,s.V,s.nx+1⟩):kg X ops (i::lK) lL s:=by
 refine kg.op r u (fun E F w a e=>?_) z;have g:(Instr.makeMap t none).run X.P w=.ok (.map (some w.heap.size)) (w.alloc (.map #[] 0)):=rfl;refine XD (v:=.map (some w.heap.size)) (w':=w.alloc (.map #[] 0)) ?_ ?_
 ·simp only[lT,n];exact Xe g
 ·have⟨D,G⟩:=MapKept.heap_alloc w (.map #[] 0);have N:=e.world (w':=w.alloc (.map #[] 0)) rfl rfl .m (by show _<=(w.heap.push _).size;simp) (fun b p=>G b p);have⟨H,I,K⟩:=N.newAv (A:=Xr R ag false ([]:List (κ×α))) (v:=.map (some w.heap.size)) (.inr ⟨w.heap.size,#[],0,rfl,D,trivial,fun _ h=>(by cases h),List.nodup_nil⟩) (fun b p=>by cases p;exact⟨fun hF=>bj _ (e.hF _ hF),fun hz=>bj _ (Zh (e.hZ _ hz) e.ext.size),by show _<(w.heap.push _).size;simp,fun j m' B C=>bj _ (e.mF j m' B _ C).2.2⟩)
  have q:=K.setL (d:=d) (v:=.c (.sl s.nx)) (ab _) (Y9 y);simp only[Yt,Yn]at q;rw[I]at q;rw[x];exact⟨H,F,q⟩
variable {ag:Bool}{k:Nat}{x y:lV}{κ:Type}{R:k6 α}{lM:List (κ×α)}{q:κ}{z:α}
theorem kg.mlk(O:ki R){nl:Bool}{e:α}[ke κ](K:V6 κ X.P R t ag z)
  (u:(YR lM q).getD z=e) (N:ops[i]?=some o) (T:Y3 ops s.L o=some true) (A:o.op=.lookup t x y false) (U:o.dst=some d) (W:aO d X.fn.ntmps=true)
  (Y:Yr s.L x=some (.c (.sl k))) (Z:Yg s.M k=some (.av (Xr R ag nl lM))) (hy:Yr s.L y=some (.c (ke.sc q)))
  (kk:kg X ops lK lL ⟨(d,Tb ag (O.cells s.nx e))::s.L,s.M,O.facts s.nx e++s.V,s.nx+O.nk⟩):kg X ops (i::lK) lL s:=by
 refine kg.op N T (fun E F w a j=>?_) kk;have⟨kt,et,zs,hu,hk,hz,B⟩:=K;have⟨e1,_⟩:=j.eval Y;have⟨C,_⟩:=j.eval hy;have H:(Xr R ag nl lM).ok F w (E.ρ k):=j.hM k _ Z;obtain⟨h,g,m⟩:∃h,R.rep F w e h/\(ew t (E.ρ k) (ke.val q) false).run X.P w=.ok (W2 ag h) w:=by
  rcases ZkE (a:=q) hu hk hz H false with⟨D,G⟩|⟨x,h,D,G,g3⟩
  ·rw[D]at u;cases u;exact⟨zs,B F w,G⟩
  ·rw[D]at u;cases u;exact⟨h,G,g3⟩
 have⟨E2,a1,_,_,a3,a4,a5,a6⟩:=O.ok g s.nx E j.one;have r:0<h.length:=by rw[R.len g];exact R.pos
 refine XD (v:=W2 ag h) (w':=w) ?_ ?_
 ·have C:a.eval y=ke.val q:=C.trans (ke.den_sc E q);simp only[lT,A,e1,C,Yt,Yn];exact Xe m
 ·have s1:=j.env a1 a3;have s2:=s1.addF (fs:=O.facts s.nx e) (n:=O.nk) (fun p hp=>a5 p hp);have I:=s2.setL (d:=d) (v:=Tb ag (O.cells s.nx e)) (Zmr a6) (Y9 W);rw[Zgt a4 r]at I;rw[U];exact⟨E2,F,I⟩
theorem kg.mlo(O:ki R){nl:Bool}{e:α}[ke κ](K:V6 κ X.P R t ag z)
  (u:(YR lM q).getD z=e) (N:ops[i]?=some o) (T:Y3 ops s.L o=some true) (A:o.op=.lookup t x y true) (U:o.dst=some d) (W:aO d X.fn.ntmps=true)
  (Y:Yr s.L x=some (.c (.sl k))) (Z:Yg s.M k=some (.av (Xr R ag nl lM))) (hy:Yr s.L y=some (.c (ke.sc q)))
  (kk:kg X ops lK lL ⟨(d,DV ag (O.cells s.nx e) (YR lM q).isSome)::s.L,s.M,O.facts s.nx e++s.V,s.nx+O.nk⟩):kg X ops (i::lK) lL s:=by
 refine kg.op N T (fun E F w a j=>?_) kk;have⟨kt,et,zs,hu,hk,hz,B⟩:=K;have⟨e1,_⟩:=j.eval Y;have⟨C,_⟩:=j.eval hy;have H:(Xr R ag nl lM).ok F w (E.ρ k):=j.hM k _ Z;obtain⟨h,g,m⟩:∃h,R.rep F w e h/\(ew t (E.ρ k) (ke.val q) true).run X.P w=.ok (.tuple #[W2 ag h,.bool (YR lM q).isSome]) w:=by
  rcases ZkE (a:=q) hu hk hz H true with⟨D,G⟩|⟨x,h,D,G,g3⟩
  ·rw[D]at u ⊢;cases u;exact⟨zs,B F w,G⟩
  ·rw[D]at u ⊢;cases u;exact⟨h,G,g3⟩
 have⟨E2,a1,_,_,a3,a4,a5,a6⟩:=O.ok g s.nx E j.one;have r:0<h.length:=by rw[R.len g];exact R.pos
 refine XD (v:=.tuple #[W2 ag h,.bool (YR lM q).isSome]) (w':=w) ?_ ?_
 ·have C:a.eval y=ke.val q:=C.trans (ke.den_sc E q);simp only[lT,A,e1,C,Yt,Yn];exact Xe m
 ·have s1:=j.env a1 a3;have s2:=s1.addF (fs:=O.facts s.nx e) (n:=O.nk) (fun p hp=>a5 p hp);have I:=s2.setL (d:=d) (v:=DV ag (O.cells s.nx e) (YR lM q).isSome) (ZuI a6) (Y9 W);rw[ZuH a4 r]at I;rw[U];exact⟨E2,F,I⟩
def G9(ag:Bool):SV->Bool
 | .a _=>ag
 | .c _=> !ag
 |_=>false
theorem ZhW{v:SV}{ps:List SC}(h:G9 ag v=true)(d:WI v=some ps):Yt E v=W2 ag (ps.map (Yn E)):=by
 cases v with
 |c x=>
  cases d;cases ag with
  |true=>cases h
  |false=>rfl
 |a cs=>
  cases d;have h:ag=true:=h;subst h;rfl
 |t _=>cases d
 |u=>cases d
theorem kg.mup(O:ki R){u:lV}[ke κ]{v:SV}{ps:List SC}(e:α)(T:V6 κ X.P R t ag z)
  (U:ops[i]?=some o) (W:Y3 ops s.L o=some true) (n:o.op=.mapUpdate t x y u) (Y:o.dst=none)
  (Z:Yr s.L x=some (.c (.sl k))) (p:Yg s.M k=some (.av (Xr R ag false lM))) (hy:Yr s.L y=some (.c (ke.sc q))) (hu:Yr s.L u=some v) (hp:WI v=some ps) (hc:G9 ag v=true) (hk:O.chk (Yg s.V) e ps)
  (kk:kg X ops lK lL ⟨s.L,(k,.av (Xr R ag false (Xf lM q e)))::s.M,s.V,s.nx⟩):kg X ops (i::lK) lL s:=by
 refine kg.op U W (fun E F w a d=>?_) kk;have⟨kt,et,zs,B,C,hz,hzr⟩:=T;have⟨D,_⟩:=d.eval Z;have⟨G,_⟩:=d.eval hy;have⟨H,_⟩:=d.eval hu;have K:(Xr R ag false lM).ok F w (E.ρ k):=d.hM k _ p;have N:=d.mF k _ p;have m:R.rep F w e (ps.map (Yn E)):=O.cok hk E F w (fun j f hj=>d.hV j f hj);obtain⟨w',g,I,g1,g2,g3,g4,g5⟩:=Zlo (nl:=false) rfl (a:=q) B C K m (fun b r=>(N b r).1);refine HW (w':=w') ?_ ?_
 ·have D:a.eval x=E.ρ k:=D;have G:a.eval y=ke.val q:=G.trans (ke.den_sc E q);have H:a.eval u=W2 ag (ps.map (Yn E)):=H.trans (ZhW hc hp);simp only[lT,n,D,G,H,aG,g,aD,aJ]
 ·have s1:=d.setM (m':=.av (Xr R ag false (Xf lM q e))) p g1 g2 g3 g4 (fun b _ A=>g5 b (fun h=>A h)) (fun b r=>r) I trivial (fun h=>by cases h);rw[Y];exact⟨E,F,s1⟩
theorem ky.mapW[ke κ]{F:YJ}{w:lQ}{a:lZ}(e:ky X s E F w a)(g:Yg s.M k=some (.av (Xr R ag false lM))) :
  ky X ⟨s.L,(k,.av (Xr R ag true lM))::s.M,s.V,s.nx⟩ E F w a:=by
 have d:(Xr R ag false lM).ok F w (E.ρ k):=e.hM k _ g;refine e.setM (m':=.av (Xr R ag true lM)) g rfl rfl .m (Zq _) (fun _ _ _=>rfl) (fun b i=>i) ?_ trivial (fun h=>by cases h);rcases d with⟨h,_⟩|h
 ·cases h
 ·exact .inr h
end
section
variable {X:lB}{tt:List (Nat×TD)}
variable {α:Type}
def dMm(κ:Type)[ke κ](R:k6 α)(ag:Bool)(c:Cf):Dl:=⟨[(YS c,.c (.sl (Yk c).nx))],[((Yk c).nx,.av (Xr R ag false ([]:List (κ×α))))],[],1⟩
def nMm(κ:Type)[ke κ](R:k6 α)(ag:Bool)(c:Cf):Cf:=Xh (dMm κ R ag c) c
variable {c:Cf}
theorem Ze6(κ:Type)[ke κ](R:k6 α)(ag:Bool)(k:Wc X (nMm κ R ag c))
  (e:(hB X.fn.ntmps c,(Yf c).dst,(Yf c).op)=(true,some (YS c),.makeMap (Yq (Yf c).op) none):=by kernel_rfl):Wc X c:=by simp only[Zr]at e;have⟨m,g,n⟩:=e;have⟨o,p⟩:=Xm m;exact Wc.ev (d:=dMm κ R ag c) o (Xs g rfl) (fun nk E0 F0 w0 n0 Z lK K i j h=>kg.mmk κ (X:=X.var nk E0 F0 w0 n0 Z) R ag i j n g p h) k
theorem eMm(R:k6 α)(ag:Bool)(k:Wc X (nMm be R ag c))
  (d:(hB X.fn.ntmps c,(Yf c).dst,(Yf c).op)=(true,some (YS c),.makeMap (Yq (Yf c).op) none):=by kernel_rfl):Wc X c:=Ze6 be R ag k d
variable {R:k6 α}
def dMl(O:ki R)(ag:Bool)(e:α)(c:Cf):Dl:=⟨[(YS c,Tb ag (O.cells (Yk c).nx e))],[],O.facts (Yk c).nx e,O.nk⟩
def nMl(O:ki R)(ag:Bool)(e:α)(c:Cf):Cf:=Xh (dMl O ag e c) c
variable {ag:Bool}{t:lS}{κ:Type}{lM:List (κ×α)}{q:κ}{z:α}
theorem PP{nl:Bool}{e:α}[ke κ](O:ki R)(j:V6 κ X.P R t ag z)(m:(YR lM q).getD z=e)(k:Wc X (nMl O ag e c))
  (g:(hB X.fn.ntmps c,(Yf c).dst,(Yf c).op,Yo c 0,Yg (Yk c).M (YA (Yo c 0)),Yo c 1)=(true,some (YS c),.lookup t (Yx (Yf c).op 0) (Yx (Yf c).op 1) false,some (.c (.sl (YA (Yo c 0)))),some (.av (Xr R ag nl lM)),some (.c (ke.sc q))):=by kernel_rfl):Wc X c:=by simp only[Zr]at g;have⟨p,i,r,u,v,w⟩:=g;have⟨x,y⟩:=Xm p;exact Wc.ev (d:=dMl O ag e c) x (Xs i rfl) (fun nk E0 F0 w0 n0 Z lK K n o h=>kg.mlk (X:=X.var nk E0 F0 w0 n0 Z) O j m n o r i y u v w h) k
def dMo(O:ki R)(ag:Bool)(e:α)(b:Bool)(c:Cf):Dl:=⟨[(YS c,DV ag (O.cells (Yk c).nx e) b)],[],O.facts (Yk c).nx e,O.nk⟩
def nMo(O:ki R)(ag:Bool)(e:α)(b:Bool)(c:Cf):Cf:=Xh (dMo O ag e b c) c
theorem eMo{nl:Bool}{e:α}[ke κ](O:ki R)(j:V6 κ X.P R t ag z)(m:(YR lM q).getD z=e)(k:Wc X (nMo O ag e (YR lM q).isSome c))
  (g:(hB X.fn.ntmps c,(Yf c).dst,(Yf c).op,Yo c 0,Yg (Yk c).M (YA (Yo c 0)),Yo c 1)=(true,some (YS c),.lookup t (Yx (Yf c).op 0) (Yx (Yf c).op 1) true,some (.c (.sl (YA (Yo c 0)))),some (.av (Xr R ag nl lM)),some (.c (ke.sc q))):=by kernel_rfl):Wc X c:=by simp only[Zr]at g;have⟨p,i,r,u,v,w⟩:=g;have⟨x,y⟩:=Xm p;exact Wc.ev (d:=dMo O ag e (YR lM q).isSome c) x (Xs i rfl) (fun nk E0 F0 w0 n0 Z lK K n o h=>kg.mlo (X:=X.var nk E0 F0 w0 n0 Z) O j m n o r i y u v w h) k
def dMu[ke κ](R:k6 α)(ag:Bool)(lM:List (κ×α))(fz:List Nat)(c:Cf):Dl:=⟨[],[(YA (Yr (Yv (Yk c) fz).L (Yx (Yf c).op 0)),.av (Xr R ag false lM))],[],0⟩
def nMu[ke κ](R:k6 α)(ag:Bool)(lM:List (κ×α))(fz:List Nat)(c:Cf):Cf:=Xh ((dMu R ag lM fz c).fz (Yk c) fz) c
theorem PQ[ke κ](fz:List Nat)(O:ki R)(e:α)(n:V6 κ X.P R t ag z)(k:Wc X (nMu R ag (Xf lM q e) fz c))
  (j:(VI c,(Yf c).dst,Uz (Yk c) fz,(Yf c).op,Yr (Yv (Yk c) fz).L (Yx (Yf c).op 0),Yg (Yv (Yk c) fz).M (YA (Yr (Yv (Yk c) fz).L (Yx (Yf c).op 0))),Yr (Yv (Yk c) fz).L (Yx (Yf c).op 1),Yr (Yv (Yk c) fz).L (Yx (Yf c).op 2),WI (Ul (Yr (Yv (Yk c) fz).L (Yx (Yf c).op 2))),G9 ag (Ul (Yr (Yv (Yk c) fz).L (Yx (Yf c).op 2))),O.lq (Yg (Yv (Yk c) fz).V) e (Ws (Yr (Yv (Yk c) fz).L (Yx (Yf c).op 2)))) =
   (true,none,true,.mapUpdate t (Yx (Yf c).op 0) (Yx (Yf c).op 1) (Yx (Yf c).op 2),some (.c (.sl (YA (Yr (Yv (Yk c) fz).L (Yx (Yf c).op 0))))),some (.av (Xr R ag false lM)),some (.c (ke.sc q)),some (Ul (Yr (Yv (Yk c) fz).L (Yx (Yf c).op 2))),some (Ws (Yr (Yv (Yk c) fz).L (Yx (Yf c).op 2))),true,O.rq (Yg (Yv (Yk c) fz).V) e (Ws (Yr (Yv (Yk c) fz).L (Yx (Yf c).op 2)))):=by kernel_rfl):Wc X c:=by simp only[Zr]at j;have⟨r,m,u,v,w,x,y,A,B,g,i⟩:=j;exact Wc.evz (d:=dMu R ag (Xf lM q e) fz c) fz r u (by rw[m];rfl) (fun nk E0 F0 w0 n0 Z lK K o p h=>kg.mup (X:=X.var nk E0 F0 w0 n0 Z) O e n o p v m w x y A B g (O.eqn i) h) k
theorem eMw[ke κ](K:Nat)(k:Wc X (W8 (fun s=>⟨s.L,(K,.av (Xr R ag true lM))::s.M,s.V,s.nx⟩) c))
  (d:Yg c.st.M K=some (.av (Xr R ag false lM)):=by kernel_rfl):Wc X c:=VG (fun E F w a e=>⟨E,F,e.mapW d⟩) k
end
abbrev G1:={ v:lR // v.oneCell'=true }
def Xn:G1:=⟨.slice none 0 0,rfl⟩
def Xx(u:G1)(v:lR):Prop:=v=u.1
def rNl(α:Type):k6 α where
 sz:=1
 pos:=ef
 rep _ _ _ vs:=vs=[.slice none 0 0]
 len h:=by rw[h];rfl
 mono _ h:=h
 one h:=by rw[h];intro v hv;rw[aC.1 hv];rfl
def oNl(α:Type):ki (rNl α) where
 nk:=0
 cells _ _:=[.nil]
 facts _ _:=[]
 ok h j E ho:=⟨E,lC.Eqb.refl _ _,fun _=>rfl,fun _ _=>rfl,ho,h,by simp,by simp[SC.kb]⟩
 chk _ _ cs:=cs=[.nil]
 cok h E F w _:=by rw[h];rfl
 T:=ULift.{1,0} (List SC)
 lq _ _ cs:=⟨cs⟩
 rq _ _ _:=⟨[.nil]⟩
 eqn h:=mG eE h
def rOp(α:Type):k6 α where
 sz:=1
 pos:=ef
 rep _ _ _ vs:=∃v:G1,vs=[v.1]
 len h:=by have⟨v,h⟩:=h;rw[h];rfl
 mono _ h:=h
 one h:=by have⟨v,h⟩:=h;rw[h];intro u hu;rw[aC.1 hu];exact v.2
def oOp(α:Type):ki (rOp α) where
 nk:=1
 cells k _:=[.sl k]
 facts _ _:=[]
 ok h k E ho:=by
  have⟨v,e⟩:=h;refine⟨E.setρ k v.1,E.eqb_setρ _ _ _ (Zq _),fun _=>rfl,fun j hj=>?_,fun j=>?_,?_,fun p hp=>(by cases hp),?_⟩
  ·have:¬ j=k:=by omega
   simp[lC.setρ,this]
  ·simp only[lC.setρ];split
   ·exact v.2
   ·exact ho j
  ·rw[e];simp[Yn,lC.setρ]
  ·intro c hc;rw[aC.1 hc];exact ab _
 chk _ _ cs:=cs=[.nil]
 cok h E F w _:=⟨Xn,by rw[h];rfl⟩
 T:=ULift.{1,0} (List SC)
 lq _ _ cs:=⟨cs⟩
 rq _ _ _:=⟨[.nil]⟩
 eqn h:=mG eE h
def rDs(R:k6 α):k6 (G1×Option (List α)) where
 sz:=1
 pos:=ef
 rep F w p vs:=vs=[p.1.1]/\∀xs,p.2=some xs->SlR R F w xs p.1.1
 len h:=by rw[h.1];rfl
 mono g h:=⟨h.1,fun xs e=>(h.2 xs e).mono g⟩
 one {F w p vs} h:=by rw[h.1];intro u hu;rw[aC.1 hu];exact p.1.2
def oDs(R:k6 α):ki (rDs R) where
 nk:=1
 cells k _:=[.sl k]
 facts k p:=[(k,.fn (Xx p.1))]
 ok {F w p vs} h k E ho:=by
  refine⟨E.setρ k p.1.1,E.eqb_setρ _ _ _ (Zq _),fun _=>rfl,fun j hj=>?_,fun j=>?_,?_,?_,?_⟩
  ·have:¬ j=k:=by omega
   simp[lC.setρ,this]
  ·simp only[lC.setρ];split
   ·exact p.1.2
   ·exact ho j
  ·rw[h.1];simp[Yn,lC.setρ]
  ·intro q hq;rw[aC.1 hq];exact⟨Zq _,ab _,rfl,by simp[lC.setρ,VF.ok,Xx]⟩
  ·intro c hc;rw[aC.1 hc];exact ab _
 chk V p cs:=∃k,cs=[.sl k]/\V k=some (.fn (Xx p.1))/\p.2=none
 cok h E F w hV:=by have⟨k,h1,h2,h3⟩:=h;have:E.ρ k=_:=hV k _ h2;refine⟨by rw[h1];simp[Yn,this],fun xs e=>by rw[h3]at e;cases e⟩
 T:=Option VF×ULift.{1,0} Bool
 lq V p cs:=match cs with
  | [.sl k]=>(V k,⟨p.2.isNone⟩)
  |_=>(none,⟨false⟩)
 rq _ p _:=(some (.fn (Xx p.1)),⟨true⟩)
 eqn {V p cs} h:=by
  split at h
  ·rename_i k;have h1:=(cC h).1;have h2:=mG eE (cC h).2;exact⟨k,rfl,h1,by simpa using h2⟩
  ·have h2:=mG eE (cC h).2;cases h2
theorem SlR.see{β:Type}{R:k6 α}{R':k6 β}{φ:α->β}(hz:R'.sz=R.sz)(W:∀ {F w x g},R.rep F w x g->R'.rep F w (φ x) g){F:YJ}{w:lQ}{xs:List α}{v:lR}(h:SlR R F w xs v):SlR R' F w (xs.map φ) v:=by
 rcases h with⟨m,e⟩|⟨b,off,cap,arr,el,fz,q,r,u,z,A⟩
 ·exact .inl ⟨by rw[m];rfl,e⟩
 ·refine .inr ⟨b,off,cap,arr,el,fz,by rw[aN];exact q,by rw[aN];exact r,u,z,?_⟩;intro i y d;rw[aK]at d;cases n:xs[i]? with
  |none=>rw[n]at d;cases d
  |some x=>
   rw[n]at d;cases d;have⟨g,m,p⟩:=A i x n;refine⟨g,W m,fun j v o=>?_⟩;rw[hz];exact p j v o
theorem Fn.see{P:lU}{f:lX}{β:Type}{R:k6 α}{R':k6 β}{φ:α->β}(hz:R'.sz=R.sz)(W:∀ {F w x vs},R.rep F w x vs->R'.rep F w (φ x) vs){xs:List α}{nk i k:Nat}{a:List SV}{V m:List (Nat×VF)}{M n:List (Nat×MO)}{d:SV}
  (p:Fn P f ⟨nk,a,(k,.sl R' (xs.map φ))::V,M,i,d,m,n⟩):Fn P f ⟨nk,a,(k,.sl R xs)::V,M,i,d,m,n⟩ where
 callable:=p.callable
 calls E F w hp:=by
  have o:Ct.Pre ⟨nk,a,(k,.sl R' (xs.map φ))::V,M,i,d,m,n⟩ E F w:=⟨hp.one,hp.hF,fun j f g=>by
   have g:Yg ((k,VF.sl R' (xs.map φ))::V) j=some f:=g;rw[YF]at g;split at g
   ·rename_i e;cases g;subst e;have:=hp.V k (.sl R xs) (by show Yg ((k,VF.sl R xs)::V) k=_;rw[YF,mD rfl]);exact SlR.see hz W this
   ·rename_i e;exact hp.V j f (by show Yg ((k,VF.sl R xs)::V) j=_;rw[YF,mE e];exact g),hp.M,hp.dis,hp.mF⟩
  refine Calls.mono (p.calls E F w o) fun e w' h=>?_;have⟨q,r,u,h⟩:=h;exact⟨q,r,u,h.env,h.one,h.V,h.M,h.dis,h.mF,h.fresh,h.F0,h.F1,h.Fs,h.ext⟩
section
variable {X:lB}
variable {c:Cf}{fr:Bool}{α:Type}{R:k6 α}{xs:List α}
theorem RO{β:Type}{R':k6 β}(ys:List β)(K:Nat)(hz:R'.sz=R.sz)(e:ys.length=xs.length)
  (W:∀(i:Nat) x y,xs[i]?=some x->ys[i]?=some y->∀F w d,R.rep F w x d->R'.rep F w y d)
  (k:Wc X (W8 (fun s=>⟨s.L,(K,.own R' ys fr)::s.M,s.V,s.nx⟩) c)) (o:Yg c.st.M K=some (.own R xs fr):=by kernel_rfl):Wc X c:=by
 refine VG (fun E F w a p=>⟨E,F,p.setM (m':=.own R' ys fr) o rfl rfl .m (Zq _) (fun _ _ _=>rfl) (fun b r=>r) ?_ trivial (fun h=>h)⟩) k;have h:kh R F w xs (E.ρ K):=p.hM K _ o;show kh R' F w ys (E.ρ K);rcases h with⟨g,n⟩|⟨b,off,cap,arr,el,fz,z,A,B,C,D,G⟩
 ·exact .inl ⟨ar (by rw[e,g];rfl),n⟩
 ·refine .inr ⟨b,off,cap,arr,el,fz,by rw[e];exact z,by rw[e];exact A,by rw[hz];exact B,C,D,fun i y q=>?_⟩;have hi:i<xs.length:=by rw[<-e];exact (aE.1 q).1
  have⟨d,g,n⟩:=G i xs[i] (Za hi);refine⟨d,W i _ y (Za hi) q F w d g,fun j v u=>?_⟩;rw[hz];exact n j v u
theorem QS(K:Nat)(k:∀u:G1,Wc X (W8 (fun s=>⟨s.L,s.M,(K,.fn (Xx u))::s.V,s.nx⟩) c))(e:aO K c.st.nx=true:=by kernel_rfl):Wc X c:=by
 have g:K<c.st.nx:=by unfold aO at e;exact Ze e
 cases c with
 |no=>exact (k Xn).1.elim
 |co h s=>exact⟨fun E F w a d=>(k ⟨E.ρ K,d.one K⟩).1 E F w a (d.addFn g rfl)⟩
 |rg m ops i h s=>
  cases m with
  |none=>exact⟨fun E F w a d=>(k ⟨E.ρ K,d.one K⟩).1 E F w a (d.addFn g rfl)⟩
  |some q=>exact (k Xn).1.elim
theorem eZn(R:k6 α)(k:Wc X (W8 (fun s=>⟨s.L,(s.nx,.own R ([]:List α) true)::s.M,(s.nx,.fn (Xx Xn))::s.V,s.nx+1⟩) c)):Wc X c:=by
 refine VG (fun E F w a g=>?_) k;have h:E.Eqb c.st.nx (E.setρ c.st.nx (.slice none 0 0)):=E.eqb_setρ _ _ _ (Zq _);have e:(E.setρ c.st.nx (.slice none 0 0)).ρ c.st.nx=.slice none 0 0:=by simp[lC.setρ]
 have i:=g.env h (fun j=>by
  simp only[lC.setρ];split
  ·rfl
  ·exact g.one j)
 have n:=i.addM' (m:=.own R ([]:List α) true) (by
  show kh R F w [] ((E.setρ c.st.nx (.slice none 0 0)).ρ c.st.nx);rw[e];exact .inl ⟨rfl,rfl⟩) trivial (fun b d=>by
  have d:YV ((E.setρ c.st.nx (.slice none 0 0)).ρ c.st.nx)=some b:=d;rw[e]at d;cases d) (fun _ b d=>by have d:YV ((E.setρ c.st.nx (.slice none 0 0)).ρ c.st.nx)=some b:=d;rw[e]at d;cases d)
 exact⟨_,F,n.addFn (k:=c.st.nx) (ab _) e⟩
variable {u:G1}
theorem eZd{β:Type}{Rb:k6 β}{ys:List β}{x:α}(p:α)(i:Nat)(K d:Nat)(q:xs[i]?=some x)
  (W:∀F w o,R.rep F w x o->SlR Rb F w ys u.1->R.rep F w p o) (g:aF K d=false)
  (k:Wc X (W8 (fun s=>⟨s.L,(K,.own R (xs.set i p) fr)::(d,.gone)::s.M,(d,.sl Rb ys)::s.V,s.nx⟩) c))
  (A:(Yg c.st.M K,Yg c.st.M d,Yg c.st.V d)=(some (.own R xs fr),some (.own Rb ys true),some (.fn (Xx u))):=by kernel_rfl):Wc X c:=by
 simp only[Zr]at A;have⟨r,C,N⟩:=A;refine VG (fun E F w a B=>?_) k;have G:E.ρ d=u.1:=B.hV d _ N;have v:=B.freeze C;have H:Yg ((d,MO.gone)::c.st.M) K=some (.own R xs fr):=by
  rw[YF];have:¬ d=K:=fun e=>by rw[e,eu K]at g;cases g
  rw[mE this];exact r
 have z:SlR Rb (fun b=>F b\/YV (E.ρ d)=some b) w ys u.1:=by have:=v.hV d (.sl Rb ys) (by rw[YF,mD rfl]);have this:SlR Rb _ w ys (E.ρ d):=this;rw[G]at this;rw[G];exact this
 refine⟨E,_,v.setM (m':=.own R (xs.set i p) fr) H rfl rfl .m (Zq _) (fun _ _ _=>rfl) (fun b I=>I) ?_ trivial (fun h=>h)⟩;have h:kh R _ w xs (E.ρ K):=v.hM K _ H;show kh R _ w (xs.set i p) (E.ρ K);rcases h with⟨r,C⟩|⟨b,off,cap,arr,el,fz,U,Y,Z,ht,hh,D⟩
 ·rw[r]at q;simp at q
 ·refine .inr ⟨b,off,cap,arr,el,fz,by rw[bz];exact U,by rw[bz];exact Y,Z,ht,hh,fun j y n=>?_⟩;rw[List.getElem?_set]at n;split at n
  ·rename_i e;subst e;have hi:i<xs.length:=(aE.1 q).1;try rw[mD hi]at n
   cases n;have⟨o,O,T⟩:=D i x q;exact⟨o,W _ w o O z,T⟩
  ·exact D j y n
def Sk(L:G1)(j:Nat)(v:lR):Prop:=v=WW L.1 j/\∃(b off:Nat),v=.pointer (some ⟨b,off,none⟩)
theorem WY{L:G1}(q K j:Nat)(k:Wc X (W8 (fun s=>⟨s.L,s.M,(q,.fn (Sk L j))::s.V,s.nx⟩) c))
  (e:(Yg c.st.V q,Yg c.st.V K,aO q c.st.nx)=(some (.el K j),some (.fn (Xx L)),true):=by kernel_rfl):Wc X c:=by simp only[Zr]at e;have⟨g,h,i⟩:=e;refine VG (fun E F w a d=>⟨E,F,d.addFn (Y9 i) ?_⟩) k;obtain⟨m,n⟩:E.ρ q=WW (E.ρ K) j/\_:=d.hV q _ g;have o:E.ρ K=L.1:=d.hV K _ h;exact⟨by rw[m,o],n⟩
theorem Ha{L:G1}(q K j:Nat)(k:Wc X (W8 (fun s=>⟨s.L,s.M,(q,.el K j)::s.V,s.nx⟩) c))
  (h:(Yg c.st.V q,Yg c.st.V K,aO q c.st.nx && aO K c.st.nx)=(some (.fn (Sk L j)),some (.fn (Xx L)),true):=by kernel_rfl):Wc X c:=by
 simp only[Zr,Zc]at h;have⟨m,n,o,p⟩:=h;refine VG (fun E F w a g=>⟨E,F,?_⟩) k;obtain⟨r,u⟩:Sk L j (E.ρ q):=g.hV q _ m;have v:E.ρ K=L.1:=g.hV K _ n;exact { g with
  wf:=⟨g.wf.hL,g.wf.hM,fun i f d=>by
   rw[YF]at d;split at d
   ·rename_i e;cases d;subst e;exact⟨Y9 o,Y9 p⟩
   ·exact g.wf.hV i f d⟩
  hV:=fun i f d=>by
   rw[YF]at d;split at d
   ·rename_i e;cases d;subst e;exact⟨by rw[r,v],u⟩
   ·exact g.hV i f d }
theorem WS(ys:List α)(K:Nat)(e:ys=xs)
  (k:Wc X (W8 (fun s=>⟨s.L,(K,.own R ys fr)::s.M,s.V,s.nx⟩) c)) (g:Yg c.st.M K=some (.own R xs fr):=by kernel_rfl):Wc X c:=
 RO ys K rfl (by rw[e]) (fun i x y j d F w m h=>by rw[e,j]at d;cases d;exact h) k g
variable {s:St}{ops:Array lW}{lL:lZ->lQ->Prop}{tt:List (Nat×TD)}
theorem kg.ldk(O:ki R)(lO:kf X.P tt){i:Nat}{lK:List Nat}{o:lW}{t:lS}{H:TD}{x:lV}{d k q off:Nat}{n:Int}{e:α}{v:SV}(A:SV)
  (hi:idx xs n=some e) (K:ops[i]?=some o) (N:Y3 ops s.L o=some true) (B:o.op=.load t x) (T:o.dst=some d)
  (U:Yr s.L x=some (.c (.px q off))) (hV:Yg s.V q=some (.el k (n.toNat*R.sz))) (hM:Yg s.M k=some (.own R xs fr)) (W:Yg tt t=some H)
  (Y:Uf H off (O.cells s.nx e)=some v) (Z:aO d X.fn.ntmps=true) (C:A.kb s.nx)
  (h:∀E2 E F w,(∀p∈O.facts s.nx e,p.2.ok E2 F w (E2.ρ p.1))->(∀k f,Yg s.V k=some f->f.ok E F w (E.ρ k))->Yt E2 v=Yt E A)
  (k:kg X ops lK lL ⟨(d,A)::s.L,s.M,s.V,s.nx⟩):kg X ops (i::lK) lL s:=by
 refine kg.op K N (fun E F w a r=>?_) k;rename_i k0;have⟨_,_,u⟩:=VD hi;have z:=r.hM k0 _ hM;simp only[MO.ok]at z;rcases z with⟨rfl,_⟩|⟨b,o',cap,arr,ty,fz,hv,I,_,_,hh,hr⟩
 ·simp at u
 have⟨vs,y,D⟩:=hr n.toNat e u;have⟨E2,a1,_,_,a3,a4,a5,a6⟩:=O.ok y s.nx E r.one;have⟨hq,_⟩:=r.hV q _ hV;have m:∀(j:Nat) c,(O.cells s.nx e)[j]?=some c->arr[o'+n.toNat*R.sz+j]?=some (Yn E2 c):=fun j c hj=>D j _ (by rw[a4,aK,hj];rfl);have G:=DP (E:=E2) (base:=o'+n.toNat*R.sz) (lO.get W) hh (cs:=O.cells s.nx e) m Y;have⟨e1,_⟩:=r.eval U;have g:(lT a.eval o).run X.P w=.ok (.value (Yt E2 v)) w:=by
  have:(ej t (a.eval x)).run X.P w=.ok (Yt E2 v) w:=by rw[e1];simp only[ej,Yt,Yn,hq,hv,WW,Instr.sureAddr,aG,aJ,aD,G]
  simp only[lT,B];exact Xe this
 rw[h E2 E F w (fun p hp=>(a5 p hp).2.2.2) r.hV]at g;refine XD g ?_;have s3:=r.setL (d:=d) (v:=A) C (Y9 Z);rw[T];exact⟨E,F,s3⟩
def kOf:Option SV->Nat
 |some (.c (.sl q))=>q
 |_=>0
variable {k:Nat}
theorem ZqN{V:List (Nat×VF)}{E:lC}{F:YJ}{w:lQ}(h:Yg V k=some (.fn (Xx u)))(hV:∀k f,Yg V k=some f->f.ok E F w (E.ρ k)):E.ρ k=u.1:=hV k _ h
theorem ZqO{V:List (Nat×VF)}{E:lC}{F:YJ}{w:lQ}(h:Yg V k=some (.fn (Xx u)))(hV:∀p∈V,p.2.ok E F w (E.ρ p.1)):E.ρ k=u.1:=hV _ (Xk h)
def Zf1(V:List (Nat×VF)):List Nat->List (Nat×VF)
 | []=>[]
 |k::r=>match Yg V k with
  |some f=>(k,f)::Zf1 V r
  |none=>Zf1 V r
def WV(ks:List Nat)(c:Cf):St:=match c.md with
 |none=>c.st
 |some _=>⟨(Yk c).L,(Yk c).M,Zf1 c.st.V ks++(Yk c).V,(Yk c).nx⟩
theorem Zu0(d:List Nat)(c:Cf):(WV d c).L=(Yk c).L:=by unfold WV Yk TQ;cases c.md<;>rfl
def goX(ks:List Nat)(d:Dl)(c:Cf):Cf:=HP c.md c.ops c.i c.kk c.st (WV ks c) d
def SP(ks:List Nat)(c:Cf)(j:Nat):Option SV:=Yr (WV ks c).L (Yx (Yf c).op j)
theorem Wc.evx(j:List Nat){d:Dl}(u:VI c=true)(A:d.dL.map (·.1)=(Yf c).dst.toList)
    (r:∀nk E0 F0 w0 n0 Z lK K,c.ops[c.i]?=some (Yf c)->Y3 c.ops (WV j c).L (Yf c)=some true->kg (X.var nk E0 F0 w0 n0 Z) c.ops lK K (d.ap (WV j c))->kg (X.var nk E0 F0 w0 n0 Z) c.ops (c.i::lK) K (WV j c))
    (k:Wc X (goX j d c)):Wc X c:=by
  unfold VI at u;rw[Zc,Zc]at u;obtain⟨⟨w,B⟩,v⟩:=u;cases c with
  |co k s=>cases w
  |no=>cases w
  |rg m ops i n s=>
    have g:ops[i]?=some (Yf (.rg m ops i n s)):=by have⟨o,g⟩:=bC.1 B;have g:ops[i]?=some o:=g;unfold Yf;show _=some ((ops[i]?).getD default);rw[g];rfl
    have p:Y3 ops (WV j (.rg m ops i n s)).L (Yf (.rg m ops i n s))=some true:=by
      rw[Zu0];split at v
      · rename_i b x;rw[v]at x;exact x
      · cases v
    have z:=fun nk E0 F0 w0 n0 Z=>Stp.of (X:=X.var nk E0 F0 w0 n0 Z) g p (fun K=>r nk E0 F0 w0 n0 Z [] K g p);have⟨h⟩:=k;refine⟨?_⟩;cases m with
    |none=>
      show kg X ops (cV i (ops.size-i)) (rk X n) s;rw[HC g];exact kg.op g p (z X.nk X.E0 X.F0 X.w0 X.n0 X.Z) h
    |some q=>
      intro C y;refine h (C.snoc (e:=Hc (WV j (.rg (some q) ops i n s)) d) ?_) ?_
      · rw[aw,y];exact LS.ent g p A z
      · show (q.2.2++[Hc (WV j (.rg (some q) ops i n s)) d]).length=i+1;rw[ae,y];rfl
theorem PS{m:Int}{e:α}(lO:kf X.P tt)(O:ki R)(K:Nat)(hi:idx xs m=some e)(k:Wc X (goX [K] (d1 c (.c (.sl K))) c))
  (j:(hB X.fn.ntmps c,(Yf c).dst,(Yf c).op,SP [K] c 0,Yg (WV [K] c).V (YA (SP [K] c 0)),Yg (WV [K] c).M (Xw (Yg (WV [K] c).V (YA (SP [K] c 0)))),Yg tt (Yq (Yf c).op),Uf (YC tt (Yq (Yf c).op)) (XJ (SP [K] c 0)) (O.cells (WV [K] c).nx e),
    Yg (O.facts (WV [K] c).nx e) (kOf (Uf (YC tt (Yq (Yf c).op)) (XJ (SP [K] c 0)) (O.cells (WV [K] c).nx e))),Yg (WV [K] c).V K,aO K (WV [K] c).nx) =
   (true,some (YS c),.load (Yq (Yf c).op) (Yx (Yf c).op 0),some (.c (.px (YA (SP [K] c 0)) (XJ (SP [K] c 0)))),some (.el (Xw (Yg (WV [K] c).V (YA (SP [K] c 0)))) (m.toNat*R.sz)),some (.own R xs (WT (Yg (WV [K] c).M (Xw (Yg (WV [K] c).V (YA (SP [K] c 0))))))),some (YC tt (Yq (Yf c).op)),
    some (.c (.sl (kOf (Uf (YC tt (Yq (Yf c).op)) (XJ (SP [K] c 0)) (O.cells (WV [K] c).nx e))))),some (.fn (Xx u)),some (.fn (Xx u)),true):=by kernel_rfl):Wc X c:=by simp only[Zr]at j;have⟨v,n,x,y,z,A,B,C,D,g,i⟩:=j;have⟨G,H⟩:=Xm v;refine Wc.evx [K] (d:=d1 c (.c (.sl K))) G (Xs n rfl) (fun nk E0 F0 w0 n0 Z lK I o p h=>kg.ldk (X:=X.var nk E0 F0 w0 n0 Z) O lO (.c (.sl K)) hi o p x n y z A B C H (Y9 i) (fun E2 E F w q r=>?_) h) k;show E2.ρ _=E.ρ K;rw[ZqO D q,ZqN g r]
theorem kg.ncp{i:Nat}{lK:List Nat}{o:lW}{x:lV}{d j q off:Nat}(h:ops[i]?=some o)(m:Y3 ops s.L o=some true)(e:o.op=.nilCheck x)(n:o.dst=some d)
  (p:Yr s.L x=some (.c (.px q off))) (hV:Yg s.V q=some (.el k j)) (r:aO d X.fn.ntmps=true)
  (u:kg X ops lK lL ⟨(d,.c (.px q off))::s.L,s.M,s.V,s.nx⟩):kg X ops (i::lK) lL s:=by refine kg.val (fun E F w a g=>?_) h m n r u;have⟨v,y⟩:=g.eval p;have⟨_,b,o',z⟩:=g.hV q _ hV;refine⟨?_,y⟩;simp only[lT,e,v,Yt,Yn,z,WW];rfl
def RC:Op->lV
 | .nilCheck x=>x
 |_=>.const (.bool true)
def elJ:Option VF->Nat
 |some (.el _ j)=>j
 |_=>0
theorem L7(q:Nat)(k:Wc X (Xh (d1 c (.c (.px q (XJ (Yr (Yk c).L (RC (Yf c).op)))))) c))
  (e:(hB X.fn.ntmps c,(Yf c).dst,(Yf c).op,Yr (Yk c).L (RC (Yf c).op),Yg (Yk c).V q) =
   (true,some (YS c),.nilCheck (RC (Yf c).op),some (.c (.px q (XJ (Yr (Yk c).L (RC (Yf c).op))))),some (.el (Xw (Yg (Yk c).V q)) (elJ (Yg (Yk c).V q)))):=by kernel_rfl):Wc X c:=by simp only[Zr]at e;have⟨m,g,n,o,p⟩:=e;have⟨r,u⟩:=Xm m;exact Wc.ev (d:=d1 c (.c (.px q (XJ (Yr (Yk c).L (RC (Yf c).op)))))) r (Xs g rfl) (fun nk E0 F0 w0 n0 Z lK K i j h=>kg.ncp (X:=X.var nk E0 F0 w0 n0 Z) i j n g o p u h) k
end
end
section
open Go.Proofs
def PZ(x:Int):List Int->List Int
 | []=>[x]
 |y::l=>bif decide (x<=y) then x::y::l else y::PZ x l
def Qe:List Int->List Int
 | []=>[]
 |x::l=>PZ x (Qe l)
theorem Zfs(x:Int):∀l,(PZ x l).Perm (x::l)
 | []=>.refl _
 |y::l=>by
  unfold PZ;cases decide (x<=y) with
  |true=>exact .refl _
  |false=>exact ((Zfs x l).cons y).trans (.swap ..)
theorem Zkd(x:Int):∀l,l.Pairwise (·<=·)->(PZ x l).Pairwise (·<=·)
  | [],_=>by simp[PZ]
  |y::l,h=>by
    unfold PZ;rw[cY]at h;cases d:decide (x<=y) with
    |true=>
      have d:=lj d;rw[l9,cY,cY];refine⟨fun z hz=>?_,h⟩;rcases aV.1 hz with rfl|hz
      · exact d
      · exact Int.le_trans d (h.1 z hz)
    |false=>
      have d:=of_decide_eq_false d;rw[lf,cY];refine⟨fun z hz=>?_,Zkd x l h.2⟩;rcases aV.1 ((Zfs x l).mem_iff.1 hz) with rfl|hz
      · omega
      · exact h.1 z hz
theorem Zmc:∀xs,(Qe xs).Perm xs
 | []=>.refl _
 |x::l=>(Zfs x _).trans ((Zmc l).cons x)
theorem Zgq:∀xs,(Qe xs).Pairwise (·<=·)
  | []=>.nil
  |x::l=>Zkd x _ (Zgq l)
theorem Zmb(xs:List Int):Qe xs=xs.mergeSort fun x y=>decide (x<=y):=by refine List.Perm.eq_of_pairwise (le:=fun a b=>a<=b) (fun a b _ _ d e=>by omega) (Zgq xs) ?_ ((Zmc xs).trans (List.mergeSort_perm xs _).symm);have:=List.pairwise_mergeSort (le:=fun x y:Int=>decide (x<=y)) (fun a b c d e=>by simp at d e ⊢;omega) (fun a b=>by simp;omega) xs;exact this.imp fun h=>by simpa using h
theorem Zgp(xs:List Int):(Qe xs).Perm xs:=by rw[Zmb];exact List.mergeSort_perm xs _
theorem Zur(xs:List Int):(Qe xs).length=xs.length:=(Zgp xs).length_eq
variable {D:List Int}{arr:Array lR}{d:Nat}{el:lS}{fz:Nat×Nat}{n off:Nat}{w:lQ}
theorem Zqs{h:Array Obj}(g:w.heap[d]?=some (.cells arr el fz)) :
  (cP (bU (dP .i64) (bY w n) d off D.toArray) h).heap[d]?=some (.cells (cH (dP .i64) off D.toArray arr) el fz):=by have e:d<w.heap.size:=(aW.1 g).1;rw[eJ _ _ (by simpa[bU,cm,bY]using e)];simp[bU,cm,bY,eI,g,Go.Sort.onCells]
variable {b:Nat}
theorem Zqt{h:Array Obj}(i:b<w.heap.size)(g:b≠d) :
  (cP (bU (dP .i64) (bY w n) d off D.toArray) h).heap[b]?=w.heap[b]?:= by rw[eJ _ _ (by simpa[bU,cm,bY]using i)];have:¬ d=b:=fun e=>g e.symm;simp[bU,cm,bY,eI,this]
theorem Zum{e:Array Obj}:w.heap.size<=(cP (bU (dP .i64) (bY w n) d off D.toArray) e).heap.size:=by simp[cP,bU,cm,bY]
theorem Zqv{F:YJ}{xs:List Int}{cap:Nat}(r:xs.length<=cap)(g:off+cap*(rI .i64).sz<=arr.size)(m:TZ fz arr.size)
  (h:w.heap[b]?=some (.cells arr el fz)) (n:Row (rI .i64) F w xs arr off):gX (dP .i64) w b off xs.toArray:=by
 intro j i;have e:j<xs.length:=by simpa using i
 have⟨o,d,p⟩:=n j xs[j] (Za e);have d:o=[.int .i64 xs[j]]:=d;subst d;have q:=p 0 _ rfl;have g:off+cap<=arr.size:=by simpa[rI]using g
 refine⟨?_,?_⟩
 ·unfold World.cell?;rw[h];have:xs.toArray[j]! = xs[j]:=by rw[getElem!_pos _ j i];simp
  show arr[off+j]?=some (dP .i64 _);rw[this];simpa[rI]using q
 ·unfold World.frozen?;rw[h];exact m (off+j) (by omega)
theorem Zs7{F:YJ}{ds:List Int}{cap:Nat}{o:Array Obj}(p:∀(i:Nat) x,ds[i]?=some x->D[i]?=some x)(B:D.length<=cap)(d:ds.length<=cap)
  (e:off+cap*(rI .i64).sz<=arr.size) (q:TZ fz arr.size) (r:w.heap[b]?=some (.cells arr el fz)) :
  kh (rI .i64) F (cP (bU (dP .i64) (bY w n) b off D.toArray) o) ds (.slice (some ⟨b,off,none⟩) ds.length cap):=by
 refine .inr ⟨b,off,cap,cH (dP .i64) off D.toArray arr,el,fz,rfl,d,by simpa[cH]using e,by simpa[cH]using q,Zqs r,fun i x u=>⟨[.int .i64 x],rfl,fun j v g=>?_⟩⟩;cases j with
 |succ j=>simp at g
 |zero=>
  simp only[List.getElem?_cons_zero,aR]at g;subst g;have hi:=p i x u;have h:i<D.length:=(aE.1 hi).1;have e:off+cap<=arr.size:=by simpa[rI]using e
  have m:off+i*1+0<arr.size:=by omega
  show (cH (dP .i64) off D.toArray arr)[off+i*1+0]?=_;unfold cH;rw[Array.getElem?_mapIdx,dQ m];have y:off<=off+i*1+0/\off+i*1+0<off+D.toArray.size:=⟨by omega,by simp;omega⟩
  have z:off+i*1+0-off=i:=by omega
  have A:D.toArray[i]! = x:=by rw[getElem!_pos _ i (by simpa using h)];have:=(aE.1 hi).2;simpa using this
  simp only[bb,y,and_self,mA,z,A]
variable [kv]
theorem ZrZ{P:lU}{f:lX}{xs ds:List Int}(q:Ly P f)(j:ds.length=xs.length)
  (r:∀b off cap w,gX (dP .i64) w b off xs.toArray->b<w.heap.size->xs.length<=cap->Calls P f #[.slice (some ⟨b,off,none⟩) xs.length cap] w fun e w'=>e=.returned (.tuple #[])/\∃n I,w'=cP (bU (dP .i64) (bY w n) b off (ds).toArray) I)
  (o:xs=[]->∀p cap w,Calls P f #[.slice p 0 cap] w fun e w'=>e=.returned (.tuple #[])/\w'=w) :
  Fn P f ⟨1,[.c (.sl 0)],[],[(0,.own (rI .i64) xs false)],1,.t [],[],[(0,.own (rI .i64) ds false)]⟩:=by
 refine⟨q,fun E F w C=>?_⟩;have g:kh (rI .i64) F w xs (E.ρ 0):=C.M 0 (.own (rI .i64) xs false) rfl;have A:=C.mF 0 (.own (rI .i64) xs false) rfl;have B:∀w',kh (rI .i64) F w' ds (E.ρ 0)->Ext (fun b=>b<w.heap.size/\¬ Ct.fp0 ⟨1,[.c (.sl 0)],[],[(0,.own (rI .i64) xs false)],1,.t [],[],[(0,.own (rI .i64) ds false)]⟩ E b) w w' ->
   Ct.Post ⟨1,[.c (.sl 0)],[],[(0,.own (rI .i64) xs false)],1,.t [],[],[(0,.own (rI .i64) ds false)]⟩ E F w E F w':=fun w' O u=>{
  env:=lC.Eqb.refl _ _
  one:=C.one
  V:=fun k f h=>nomatch h
  M:=fun k m h=>by
   rw[YF]at h;split at h
   ·rename_i e;cases h;subst e;exact O
   ·cases h
  dis:=fun k Z m m' h D d=>by
   rw[YF]at h D;split at h
   ·split at D
    ·rename_i U W;exact absurd (U.symm.trans W) d
    ·cases D
   ·cases h
  mF:=fun k m h b v=>by
   rw[YF]at h;split at h
   ·rename_i e;cases h;subst e;exact⟨(A b v).1,Zh (A b v).2 u.size,.inl ⟨0,_,rfl,v⟩⟩
   ·cases h
  fresh:=fun k m h R=>by
   rw[YF]at h;split at h
   ·cases h;cases R
   ·cases h
  F0:=fun _ h=>h
  F1:=fun _ h=>.inl h
  Fs:=fun b h=>Zh (C.hF b h) u.size
  ext:=u }
 show Calls P f #[E.ρ 0] w _;by_cases d:xs=[]
 ·have Y:ds=[]:=ar (by rw[j,d];rfl);have z:∃p cap,E.ρ 0=.slice p 0 cap:=by
   rcases g with⟨_,h⟩|⟨b,off,cap,_,_,_,h,_⟩
   ·exact⟨_,_,h⟩
   ·rw[d]at h;exact⟨_,_,h⟩
  have⟨p,cap,z⟩:=z;have:=o d p cap w;rw[<-z]at this;refine this.mono ?_;rintro e w' ⟨rfl,rfl⟩;exact⟨E,F,rfl,B _ (by rw[Y,<-d];exact g) (Ext.refl _ _)⟩
 ·rcases g with⟨h,_⟩|⟨b,off,cap,arr,el,fz,G,K,L,N,H,z⟩
  ·exact absurd h d
  ·have v:b<w.heap.size:=(aW.1 H).1;have:=r b off cap w (Zqv K L N H z) v K;rw[<-G]at this;refine this.mono ?_;rintro e w' ⟨rfl,n,I,rfl⟩;refine⟨E,F,rfl,B _ ?_ ⟨rfl,rfl,⟨rfl,.inr (bR _ _)⟩,Zum,fun T y=>Zqt y.1 fun e=>y.2 ⟨0,_,rfl,?_⟩⟩⟩
   ·rw[G,<-j];exact Zs7 (fun i x u=>u) (by omega) (by omega) L N H
   ·show YV (E.ρ 0)=some T;rw[G,e];rfl
end
section
variable [kv]
def VE(l D:Nat)(r:Loop)(st:LoopState):SH where
 fp b:=b=l\/b=D
 ok _ w:=w.heap[l]?=some (.loop { r with state:=st,pending:=none })/\w.heap[D]?=some (.deferred (some []))/\l≠D
 mono:=fun _ hb h=>⟨by rw[hb l (.inl rfl)];exact h.1,by rw[hb D (.inr rfl)];exact h.2.1,h.2.2⟩
def R4(D:Nat):SH where
 fp b:=b=D
 ok _ w:=w.heap[D]?=some (.deferred (some []))
 mono:=fun _ hb h=>by rw[hb D rfl];exact h
abbrev U4(D:Nat):Deferred:={ target:=.collected D,args:=#[] }
@[reducible] def DL (X:lB) (nk:Nat) (E0:lC) (F0:YJ) (w0:lQ) (n0:Nat) (Z:YJ) (l:Nat) (post:lR->lQ->Prop):lB:=
 { P:=X.P,f:=X.f,fn:=X.fn,nk:=nk,E0:=E0,F0:=F0,w0:=w0,n0:=n0,Z:=Z,post:=post,dfs:=[],rd:=some l }
theorem ky.turn{Y X:lB}{s:St}{L':List (Nat×SV)}{E p:lC}{F F1:YJ}{w u:lQ}{a a1:lZ}{b:lZ}(e:ky Y s E F w a)(H:Y.fn.ntmps=X.fn.ntmps)(x:Y.E0=p)(hF:Y.F0=F1)(A:Y.w0=u)
  (y:Y.n0=X.n0) (hZ:∀b,X.Z b->Y.Z b) (q:∀b,X.Z b->b<X.w0.heap.size)
  (B:∀b,X.F0 b->F1 b) (C:∀b,F1 b->X.F0 b\/(X.n0<=b/\¬ X.Z b)) (n:Ext X.Z X.w0 u) (j:X.E0.Eqb X.nk p) (o:X.nk<=Y.nk) (hn0:X.n0<=X.w0.heap.size)
  (D:b.defers=X.dfs) (r:b.tmps.size=X.fn.ntmps) (hL:∀d v,Yg L' d=some v->v.kb Y.nk/\b.tmps[d]?=some (Yt p v)):ky X ⟨L',s.M,s.V,s.nx⟩ E F w b where
 wf:=⟨fun d v h=>((hL d v h).1).mono e.nk,e.wf.hM,e.wf.hV⟩
 nk:=bV o e.nk
 defers:=D
 size:=r
 hL:=fun d v h=>by have z:=e.link;rw[x]at z;rw[Dh z (hL d v h).1];exact (hL d v h).2
 hV:=e.hV
 hM:=e.hM
 dis:=e.dis
 mF:=fun k m h b i=>⟨(e.mF k m h b i).1,fun hz=>(e.mF k m h b i).2.1 (hZ b hz),(e.mF k m h b i).2.2⟩
 fresh:=fun k m h G b i=>by rw[<-y];exact e.fresh k m h G b i
 hF:=e.hF
 hF0:=fun b i=>e.hF0 b (by rw[hF];exact B b i)
 hn0:=hn0
 hF1:=fun b i=>by
  rcases e.hF1 b i with h|⟨h,g⟩
  ·rw[hF]at h;exact C b h
  ·exact .inr ⟨by rw[<-y];exact h,fun hz=>g (hZ b hz)⟩
 hZ:=q
 ext:=n.trans (by
  have:=e.ext.mono (Z':=X.Z) hZ
  rwa [A]at this)
 link:=j.trans (by
  have:=e.link.mono o
  rwa [x]at this)
 one:=e.one
def Zat(P:lU)(l:Nat)(args:Array lR)(w:lQ)(R:lQ->Prop):Prop:=
 ∃fn tmps assign body,(Instr.yield l args).run P w=.ok (.round l fn tmps assign body) w /\
  ∀(c:l7) (cs:List l7),∃w',R w'/\Steps P (lone (kX l fn tmps assign body .normal) (c::cs) w) (lone (c.finish (.bool true)) cs w')
def Ua(sz:Nat)(c:Nat->G1):List lR:=(cO sz).map fun j=>(c j).1
def Te(ag:Bool)(sz:Nat)(c:Nat->G1):lR:=W2 ag (Ua sz c)
def Md(sz:Nat)(h:0<sz):k6 (Nat->G1) where
 sz:=sz
 pos:=h
 rep _ _ c vs:=vs=Ua sz c
 len {F w x vs} h:=by rw[h,Ua,aN,iP]
 mono _ h:=h
 one h:=by rw[h];intro v hv;obtain⟨j,_,rfl⟩:=aM.1 hv;exact (_:G1).2
def itE(p v:lR):lC:=⟨fun k=>if k=0 then p else if k=1 then v else .bool false,fun _=>0⟩
structure ItB (P:lU) (gf:lX) (sz:Nat) (hz:0<sz) (ag:Bool):Prop where
 callable:Ly P gf
 run:∀(cs:List (Nat->G1)) (l B:Nat) (v:lR) (F0:YJ) (w:lQ) (J:Nat->lQ->Prop),
  cs.length<=lim->v.oneCell'=true->(VF.pl [.sl 1]).ok (itE (.pointer (some ⟨B,0,none⟩)) v) F0 w (.pointer (some ⟨B,0,none⟩))->SlR (Md sz hz) F0 w cs v->(∀b,F0 b->b<w.heap.size) ->
  (∀i w w',J i w->Ext (fun b=>b<w.heap.size) w w'->J i w') ->
  (∀i c w',cs.reverse[i]?=some c->J i w'->Zat P l #[.int .i64 ((cs.length-1-i:Nat):Int),Te ag sz c] w' fun w''=>J (i+1) w''/\(∀b,F0 b->w''.heap[b]?=w'.heap[b]?)/\w'.heap.size<=w''.heap.size) ->
  J 0 w->Calls P gf #[.func (.yield l) #[] #[],.pointer (some ⟨B,0,none⟩)] w fun e w'=>(∃v,e=.returned v)/\J cs.length w'
variable {α σ:Type}
def QL(step:Nat->α->σ->Option σ):List α->σ->Option σ
 | [],b=>some b
 |x::r,b=>(step r.length x b).bind (QL step r)
def Sd(step:Nat->α->σ->Option σ)(xs:List α)(b:σ):Option σ:=bif aY xs.length lim then QL step xs.reverse b else none
theorem Zov{d:Nat->α->σ->Option σ}{xs:List α}{b r:σ}(h:Sd d xs b=some r):QL d xs.reverse b=some r/\xs.length<=lim:=by
 unfold Sd at h;cases e:aY xs.length lim with
 |true=>rw[e]at h;exact⟨h,Ze e⟩
 |false=>rw[e]at h;cases h
theorem Ztt{R:k6 α}{F:YJ}{w:lQ}{xs:List α}{v:lR}(hz:0<R.sz)(h:SlR R F w xs v) :
  ∃cs:List (Nat->G1),cs.length=xs.length/\SlR (Md R.sz hz) F w cs v/\∀(i:Nat) x c,xs[i]?=some x->cs[i]?=some c->R.rep F w x (Ua R.sz c):=by
 rcases h with⟨rfl,a,c,rfl⟩|⟨b,off,cap,arr,el,fz,q,r,hF,y,z⟩
 ·exact⟨[],rfl,.inl ⟨rfl,a,c,rfl⟩,fun i x c h=>by simp at h⟩
 ·have d:∀i:Fin xs.length,∃c:Nat->G1,R.rep F w xs[i] (Ua R.sz c)/\∀(j:Nat) (u:lR),(Ua R.sz c)[j]?=some u->arr[off+i*R.sz+j]?=some u:=fun i=>by
   have⟨m,n,p⟩:=z i xs[i] (Za i.2);have B:=R.one n;have C:=R.len n
   let c:Nat->G1:=fun j=>if h:j<m.length then ⟨m[j],B _ (b9 h)⟩ else Xn
   have e:Ua R.sz c=m:=by
    apply List.ext_getElem
    ·simp[Ua,C]
    ·intro j D A;simp[Ua,c,A]
   exact⟨c,by rw[e];exact n,by rw[e];exact p⟩
  refine⟨List.ofFn fun i=>(d i).choose,by simp,.inr ⟨b,off,cap,arr,el,fz,by simpa using q,by simpa using r,hF,y,fun i c hi=>?_⟩,fun i x c o hi=>?_⟩
  ·have g:i<xs.length:=by have:=(aE.1 hi).1;simpa using this
   have e:c=(d ⟨i,g⟩).choose:=by rw[Za (by simpa using g)]at hi;simpa using hi.symm
   exact⟨_,rfl,by rw[e];exact (d ⟨i,g⟩).choose_spec.2⟩
  ·have g:i<xs.length:=(aE.1 o).1;have e:c=(d ⟨i,g⟩).choose:=by rw[Za (by simpa using g)]at hi;simpa using hi.symm
   obtain⟨_,rfl⟩:=aE.1 o;rw[e];exact (d ⟨i,g⟩).choose_spec.1
theorem ZkB{α:Type _}{k d:Nat}{x y v:α}{l:List (Nat×α)}(h:Yg ((k,x)::l) d=some v):Yg ((k,x)::(k,y)::l) d=some v:=by
 rw[YF]at h ⊢;split
 ·rename_i e;rw[mD e]at h;exact h
 ·rename_i e;rw[mE e]at h;rw[YF,mE e];exact h
section
variable {X:lB}{S:St}{k:List Item}
theorem WP.rangeB{α σ:Type}{R:k6 α}(O:ki R)(hz:0<R.sz){ag:Bool}{gf:lX}(hIt:ItB X.P gf R.sz hz ag){xs:List α}(G:Nat->α->σ->Option σ)(T:σ->St){b0 bN:σ}{L0:List (Nat×SV)}
  {u K kb ks p1 p2:Nat} {bt:lS} {gO:lV} {assign body:Code} (hrd:X.rd=none) (hp:Sd G xs b0=some bN) (hT:∀b,(T b).L=L0/\(T b).nx=u)
  (hL0:∀d v,Yg L0 d=some v->v.kb K) (hnk:X.nk<=K) (hnT:K<=u) (hSn:S.nx=u) (hSL:∀d v,Yg L0 d=some v->Yg S.L d=some v)
  (hSM:∀d v,Yg (T b0).M d=some v->Yg S.M d=some v) (hSV:∀d v,Yg (T b0).V d=some v->Yg S.V d=some v)
  (hkb:Yg (T b0).M kb=none) (hg:Yr S.L gO=some (.c (.cl gf [] [kb]))) (hB:Yg S.M kb=some (.box [.sl ks] bt)) (hxs:Yg S.V ks=some (.sl R xs))
  (hp1:p1<X.fn.ntmps) (hp2:p2<X.fn.ntmps)
  (hbody:∀(i:Nat) x b b',G i x b=some b'->∀E F w n0 Z l D r post,
   WP (DL X K E F w n0 Z l post) [] ⟨[],(u,.abs (VE l D r .busy))::(T b').M,(T b').V,u+1⟩ ->
   WP (DL X K E F w n0 Z l post) [.code assign,.beginRound,.code body] ⟨(p2,Tb ag (O.cells (u+1) x))::(p1,.c (.i .i64 (i:Int)))::L0,(u,.abs (VE l D r .ready))::(T b).M,O.facts (u+1) x++(T b).V,u+1+O.nk⟩)
  (hend:∀D,WP { X with dfs:=U4 D::X.dfs } k ⟨L0,(u,.abs (R4 D))::(T bN).M,(T bN).V,u+1⟩) :
  WP X (.code (.rangeFunc gO #[p1,p2] assign body)::k) S:=by
 have⟨hp,hlm⟩:=Zov hp;intro E F w a C;obtain⟨o,hrec⟩:∃r:Loop,r={ state:=.ready,pending:=none,fn:=X.f,tmps:=a.tmps,params:=#[p1,p2],assign:=assign,body:=body,defers:=w.heap.size }:=⟨_,rfl⟩
 obtain⟨B,H⟩:∃B,(w.alloc (.deferred (some []))).alloc (.loop o)=B:=⟨_,rfl⟩
 have hsz1:B.heap.size=w.heap.size+2:=by rw[<-H];simp
 have hold:∀b,b<w.heap.size->B.heap[b]?=w.heap[b]?:= fun b y=>by rw[<-H,iQ _ _ (h:=by simp;omega),iQ _ _ (h:=y)]
 have hD1:B.heap[w.heap.size]?=some (.deferred (some [])):=by rw[<-H,iQ _ _ (h:=by simp),jx]
 have hl1:B.heap[w.heap.size+1]?=some (.loop o):=by
  rw[<-H];have:=jx (w.alloc (.deferred (some []))) (.loop o)
  rwa [World.size_alloc]at this
 have W:ky X S E F B a:=C.world (by rw[<-H];rfl) (by rw[<-H];rfl) (by rw[<-H];exact .m) (by omega) hold;have hbox:B.heap[E.β kb]?=some (.cells #[E.ρ ks] bt (0,0)):=by have:=W.hM kb _ hB;simpa[MO.ok,Yn]using this
 have hbs:E.β kb<w.heap.size:=(C.mF kb _ hB (E.β kb) rfl).2.2
 let a0:lZ:={ tmps:=a.tmps,defers:=[] }
 let Z1:YJ:=fun b=>X.Z b\/F b\/b=E.β kb
 let X1:lB:={ X.var K E F B X.n0 Z1 with dfs:=[] }
 have z:ky X (T b0) E F B a:=W.weaken (by rw[(hT b0).2,hSn]) (by rw[(hT b0).1];exact hSL) hSM hSV;have hZ1:∀b,Z1 b->b<w.heap.size:=fun b y=>by
  rcases y with y|y|y
  ·exact Zh (C.hZ b y) C.ext.size
  ·exact C.hF b y
  ·rw[y];exact hbs
 have hn1:X.n0<=B.heap.size:=bV C.hn0 W.ext.size;have hsA:ky X1 (T b0) E F B a0:={
  wf:=z.wf
  nk:=by rw[(hT b0).2];exact hnT
  defers:=rfl
  size:=z.size
  hL:=z.hL
  hV:=z.hV
  hM:=z.hM
  dis:=z.dis
  mF:=fun j m h b y=>by
   refine⟨(z.mF j m h b y).1,?_,(z.mF j m h b y).2.2⟩;rintro (hz'|hz'|hz')
   ·exact (z.mF j m h b y).2.1 hz'
   ·exact (z.mF j m h b y).1 hz'
   ·refine W.dis j kb m _ (hSM j m h) hB (fun e=>?_) b y hz';rw[e,hkb]at h;cases h
  fresh:=z.fresh
  hF:=z.hF
  hF0:=fun _ h=>h
  hn0:=hn1
  hF1:=fun _ h=>.inl h
  hZ:=fun b y=>by show b<B.heap.size;have:=hZ1 b y;omega
  ext:=Ext.refl _ _
  link:=lC.Eqb.refl _ _
  one:=z.one }
 have hsB:ky X1 ⟨L0,(u,.abs (VE (w.heap.size+1) w.heap.size o .ready))::(T b0).M,(T b0).V,u+1⟩ E F B a0:=by
  have:=hsA.addM' (m:=.abs (VE (w.heap.size+1) w.heap.size o .ready)) ⟨by rw[hl1,hrec],hD1,by omega⟩ trivial (fun b y=>by
   have y:b=w.heap.size+1\/b=w.heap.size:=y;refine⟨fun hF=>?_,fun hZ=>?_,by omega,fun j m h hf=>?_⟩
   ·have:=C.hF b hF;omega
   ·have:=hZ1 b hZ;omega
   ·have:=(C.mF j m (hSM j m h) b hf).2.2;omega) (fun h=>by cases h)
  rw[(hT b0).1,(hT b0).2]at this;exact this
 have⟨cs,hcl,hcsl,hcr⟩:=Ztt hz (W.hV ks _ hxs:SlR R F B xs (E.ρ ks))
 let Fi:YJ:=fun b=>F b\/b=E.β kb
 let J:Nat->lQ->Prop:=fun i w'=>∃b,QL G (xs.reverse.drop i) b=some bN/\∃E' F',ky X1 ⟨L0,(u,.abs (VE (w.heap.size+1) w.heap.size o .ready))::(T b).M,(T b).V,u+1⟩ E' F' w' a0
 have hcall:=hIt.run cs (w.heap.size+1) (E.β kb) (E.ρ ks) Fi B J (by rw[hcl];exact hlm) (C.one ks) ⟨E.β kb,0,#[E.ρ ks],bt,(0,0),rfl,.inr rfl,hbox,fun j x hx=>by
   cases j with
   |zero=>cases hx;rfl
   |succ j=>cases hx⟩ (hcsl.mono ⟨fun _ h=>.inl h,fun _ _=>rfl⟩) (fun b y=>by
   rcases y with y|y
   ·exact W.hF b y
   ·rw[y];omega) (fun i w' w'' hJ he=>by have⟨b,y,E',F',h'⟩:=hJ;exact⟨b,y,E',F',h'.world he.os he.tape he.output he.size he.block⟩) ?_ ⟨b0,hp,E,F,hsB⟩
 ·-- the loop is over
  rw[hrd];intro fb N hfn hkd hro;obtain⟨e,w3,fr,⟨⟨v,rfl⟩,hJ⟩,hcm,_,hlv⟩:=hcall (fb.atR { a with defers:=U4 w.heap.size::a.defers } (.inRangeFunc (w.heap.size+1)::k)::N);have⟨b,y,E3,F3,U⟩:=hJ;rw[hcl,List.drop_of_length_le (by simp)]at y;cases y;obtain⟨h3l,h3D,hne⟩:=U.hM u _ (by rw[YF,mD rfl]);obtain⟨w5,hw5⟩:∃w5,w3.putObj (w.heap.size+1) (.loop { o with state:=.exhausted,pending:=none })=w5:=⟨_,rfl⟩
  have h5:∀q,q≠w.heap.size+1->w5.heap[q]?=w3.heap[q]?:= fun q A=>by rw[<-hw5];exact df A
  have s5:=U.setM (k:=u) (m:=.abs (VE (w.heap.size+1) w.heap.size o .ready)) (m':=.abs (R4 w.heap.size)) (w':=w5) (by rw[YF,mD rfl]) (by rw[<-hw5];rfl) (by rw[<-hw5];rfl) (by rw[<-hw5];exact .m) (by rw[<-hw5];simp)
   (fun q _ A=>h5 q fun e=>A (.inl e)) (fun q A=>.inr A) (by show w5.heap[_]?=_;rw[h5 _ (by omega)];exact h3D) trivial (fun h=>by cases h)
  have s6:=s5.weaken (t:=⟨L0,(u,.abs (R4 w.heap.size))::(T bN).M,(T bN).V,u+1⟩) rfl (fun _ _ h=>h) (fun _ _ h=>ZkB h) (fun _ _ h=>h);have s7:ky { X with dfs:=U4 w.heap.size::X.dfs } ⟨L0,(u,.abs (R4 w.heap.size))::(T bN).M,(T bN).V,u+1⟩ E3 F3 w5 { a with defers:=U4 w.heap.size::a.defers }:=
   s6.turn (L':=L0) rfl rfl rfl rfl rfl (fun _ h=>.inl h) C.hZ C.hF0 C.hF1 W.ext C.link hnk C.hn0 (by show _::a.defers=_;rw[C.defers]) C.size (fun d v h=>⟨hL0 d v h,C.hL d v (hSL d v h)⟩) (a1:=a)
  have hk:=hend w.heap.size E3 F3 w5 _ s7;have hk:ku X.P X.f X.rd X.post _ k w5:=hk;rw[hrd]at hk;have⟨v',w6,fr',hR,hst,hf',hl'⟩:=hk fb N hfn hkd hro;have hev:a.eval gO=.func (.func gf) #[] #[.pointer (some ⟨E.β kb,0,none⟩)]:=by rw[(C.eval hg).1];rfl
  have st1:=stepR_rangeFunc (P:=X.P) (g:=gO) (ps:=#[p1,p2]) (assign:=assign) (body:=body) (b:=fb) (a:=a) (k:=k) (cs:=N) (w:=w) (l:=w.heap.size+1) (mark:=[U4 w.heap.size]) (w₁:=B) (w₁':=B) (w₂:=B)
   (d:={ target:=.fn (.func gf) #[.pointer (some ⟨E.β kb,0,none⟩)],args:=#[.func (.yield (w.heap.size+1)) #[] #[]] }) (f:=gf) (args:=#[.func (.yield (w.heap.size+1)) #[] #[],.pointer (some ⟨E.β kb,0,none⟩)])
   (by rw[hfn,hro,<-H,hrec];exact run_enterLoop_outer _ _ _ _ _)
   (by simp only[resolve,hev];simp[go_sem])
   (by have:=Zif hIt.callable #[.func (.yield (w.heap.size+1)) #[] #[],.pointer (some ⟨E.β kb,0,none⟩)] B;simpa[invoke,go_sem]using this)
  have hcm:Steps X.P _ _:=hcm;have Y:(Instr.endLoop (w.heap.size+1)).run X.P w3=.ok none w5:=by rw[<-hw5];exact run_endLoop h3l (by simp)
  have st3:=step_leave_returned (c:=fb.atR { a with defers:=U4 w.heap.size::a.defers } (.inRangeFunc (w.heap.size+1)::k)) (cs:=N) hlv;rw[finish_atR_inRangeFunc]at st3;exact⟨v',w6,fr',hR,(gN st1).trans (hcm.trans ((gN st3).trans ((gN (stepR_endRangeFunc Y)).trans hst))),hf',hl'⟩
 ·-- a round
  rintro i c w' hc ⟨b,y,E',F',p⟩;have hi:i<cs.length:=by have:=(aE.1 hc).1;simpa using this
  have hix:i<xs.reverse.length:=by simp;omega
  rw[gJ hi]at hc;have hx:xs[cs.length-1-i]?=some xs.reverse[i]:=by have h:=gJ (l:=xs) (i:=i) (by omega);rw[Za hix,<-hcl]at h;exact h.symm
  generalize hxx:xs.reverse[i]=x at hx;have hrep:=hcr _ x c hx hc;rw[List.drop_eq_getElem_cons hix,hxx]at y;have hlen:(xs.reverse.drop (i+1)).length=cs.length-1-i:=by simp;omega
  have⟨b',hst,hb'⟩:=Option.bind_eq_some_iff.1 (show (G (xs.reverse.drop (i+1)).length x b).bind (QL G (xs.reverse.drop (i+1)))=some bN from y);rw[hlen]at hst;obtain⟨h'l,h'D,hne⟩:=p.hM u _ (by rw[YF,mD rfl]);have hrep':R.rep F' w' x (Ua R.sz c):=R.mono ⟨p.hF0,fun q A=>p.ext.block q (.inr (.inl A))⟩ hrep;have⟨E2,a1,_,_,a3,a4,a5,a6⟩:=O.ok hrep' (u+1) E' p.one
  let post:lR->lQ->Prop:=fun v w''=>v=.bool true/\J (i+1) w''/\(∀q,Fi q->w''.heap[q]?=w'.heap[q]?)/\w'.heap.size<=w''.heap.size
  have hn':X.n0<=w'.heap.size:=bV hn1 p.ext.size;have sY:ky (DL X K E' F' w' X.n0 Z1 (w.heap.size+1) post) ⟨L0,(u,.abs (VE (w.heap.size+1) w.heap.size o .ready))::(T b).M,(T b).V,u+1⟩ E' F' w' a0:={
   wf:=p.wf
   nk:=p.nk
   defers:=rfl
   size:=p.size
   hL:=p.hL
   hV:=p.hV
   hM:=p.hM
   dis:=p.dis
   mF:=p.mF
   fresh:=p.fresh
   hF:=p.hF
   hF0:=fun _ h=>h
   hn0:=hn'
   hF1:=fun _ h=>.inl h
   hZ:=fun q A=>by have h1:=hZ1 q A;have h2:=p.ext.size;show q<w'.heap.size;have h2:B.heap.size<=w'.heap.size:=h2;omega
   ext:=Ext.refl _ _
   link:=lC.Eqb.refl _ _
   one:=p.one }
  have s1:=((sY.env a1 a3).addF (fs:=O.facts (u+1) x) (n:=O.nk) a5).setL (d:=p1) (v:=.c (.i .i64 ((cs.length-1-i:Nat):Int))) trivial hp1;have s2:=s1.setL (d:=p2) (v:=Tb ag (O.cells (u+1) x)) (Zmr a6) hp2;have hden:Yt E2 (Tb ag (O.cells (u+1) x))=Te ag R.sz c:=Zgt a4 (by rw[Ua,aN,iP];exact hz);have hW:=hbody (cs.length-1-i) x b b' hst E' F' w' X.n0 Z1 (w.heap.size+1) w.heap.size o post ?_ E2 F' w' _ s2
  ·refine⟨X.f,((a0.put (some p1) (.int .i64 ((cs.length-1-i:Nat):Int))).put (some p2) (Te ag R.sz c)).tmps,assign,body,?_,fun fc N=>?_⟩
   ·have hy:=run_yield (P:=X.P) (args:=#[.int .i64 ((cs.length-1-i:Nat):Int),Te ag R.sz c]) h'l (by rw[hrec];rfl);rw[hy,hrec];simp[Act.put,a0]
   ·let fb:l7:={ (default:l7) with fn:=X.f,kind:=.normal,roundOf:=some (w.heap.size+1) }
    have hW:ku X.P X.f (some (w.heap.size+1)) post _ _ w':=hW;obtain⟨v,w'',⟨rfl,hJ⟩,hsteps⟩:=hW fb fc N rfl rfl rfl;refine⟨w'',hJ,?_⟩;have e:fb.atR ((a0.put (some p1) (Yt E2 (.c (.i .i64 ((cs.length-1-i:Nat):Int))))).put (some p2) (Yt E2 (Tb ag (O.cells (u+1) x)))) [.code assign,.beginRound,.code body] =
      kX (w.heap.size+1) X.f ((a0.put (some p1) (.int .i64 ((cs.length-1-i:Nat):Int))).put (some p2) (Te ag R.sz c)).tmps assign body .normal:=by rw[hden];simp[kX,Frame.atR,fb,Act.put,a0,Yt,Yn]
    rw[<-e];exact hsteps
  ·-- the round's end
   intro E3 F3 w3 a3' U;show ku X.P X.f (some (w.heap.size+1)) post a3' [] w3;intro fb fc N hfn hkd hro;obtain⟨h3l,h3D,_⟩:=U.hM u _ (by rw[YF,mD rfl]);obtain⟨w4,I⟩:∃w4,w3.putObj (w.heap.size+1) (.loop { o with state:=.ready,pending:=none })=w4:=⟨_,rfl⟩
   have h4:∀q,q≠w.heap.size+1->w4.heap[q]?=w3.heap[q]?:= fun q A=>by rw[<-I];exact df A
   have hlt:w.heap.size+1<w3.heap.size:=(aW.1 h3l).1;have Y:(Instr.endRound (w.heap.size+1) none).run X.P w3=.ok (.bool true) w4:=by have:=run_endRound (P:=X.P) none h3l;rw[<-I];simpa using this
   have s4:=U.setM (k:=u) (m:=.abs (VE (w.heap.size+1) w.heap.size o .busy)) (m':=.abs (VE (w.heap.size+1) w.heap.size o .ready)) (w':=w4) (by rw[YF,mD rfl]) (by rw[<-I];rfl) (by rw[<-I];rfl) (by rw[<-I];exact .m) (by rw[<-I];simp)
    (fun q _ A=>h4 q fun e=>A (.inl e)) (fun q A=>A) ⟨by rw[<-I];exact jb hlt,by rw[h4 _ (by omega)];exact h3D,by omega⟩ trivial (fun h=>by cases h)
   have s5:=s4.weaken (t:=⟨[],(u,.abs (VE (w.heap.size+1) w.heap.size o .ready))::(T b').M,(T b').V,u+1⟩) rfl (fun _ _ h=>h) (fun _ _ h=>ZkB h) (fun _ _ h=>h);have s6:ky X1 ⟨L0,(u,.abs (VE (w.heap.size+1) w.heap.size o .ready))::(T b').M,(T b').V,u+1⟩ E3 F3 w4 a0:=
    s5.turn (L':=L0) rfl rfl rfl rfl rfl (fun _ h=>h) hsA.hZ p.hF0 p.hF1 p.ext p.link (Zq _) hn1 rfl p.size (fun d v h=>⟨hL0 d v h,p.hL d v h⟩) (a1:=a)
   refine⟨.bool true,w4,⟨rfl,⟨b',hb',E3,F3,s6⟩,fun q A=>?_,?_⟩,.one (stepR_round_end hro hkd Y)⟩
   ·have hq1:Z1 q:=by
     rcases A with A|A
     ·exact .inr (.inl A)
     ·exact .inr (.inr A)
    have:=hZ1 q hq1;rw[h4 q (by omega)];exact U.ext.block q hq1
   ·rw[<-I];have:=U.ext.size;simpa using this
end
def Q6(sz:Nat)(h:0<sz):ki (Md sz h) where
 nk:=sz
 cells k _:=(cO sz).map fun j=>.sl (k+j)
 facts k c:=(cO sz).map fun j=>(k+j,.fn (Xx (c j)))
 ok {F w c vs} hr k E ho:=by
  refine⟨⟨fun i=>if k<=i/\i<k+sz then (c (i-k)).1 else E.ρ i,E.β⟩,fun j hj=>⟨mE (by omega),rfl⟩,fun _=>rfl,fun j hj=>mE (by omega),fun j=>?_,?_,fun p hp=>?_,fun x hx=>?_⟩
  ·dsimp only;split
   ·exact (c _).2
   ·exact ho j
  ·rw[hr,Ua,cG];refine bK fun j hj=>?_;have:=cB.1 hj;show (c j).1=if k<=k+j/\k+j<k+sz then (c (k+j-k)).1 else E.ρ (k+j)
   rw[mD ⟨by omega,by omega⟩,Nat.add_sub_cancel_left]
  ·obtain⟨j,hj,rfl⟩:=aM.1 hp;have:=cB.1 hj;refine⟨by dsimp only;omega,by dsimp only;omega,rfl,?_⟩;show (if k<=k+j/\k+j<k+sz then (c (k+j-k)).1 else E.ρ (k+j))=(c j).1;rw[mD ⟨by omega,by omega⟩,Nat.add_sub_cancel_left]
  ·obtain⟨j,hj,rfl⟩:=aM.1 hx;have:=cB.1 hj;show k+j<k+sz;omega
 chk _ _ _:=False
 cok h:=h.elim
 T:=ULift.{1,0} Bool
 lq _ _ _:=⟨true⟩
 rq _ _ _:=⟨false⟩
 eqn h:=by cases h
@[reducible] def WN (P:lU) (gf:lX) (fn:Func) (post:lR->lQ->Prop) (F0:YJ) (E:lC) (w:lQ):lB:=
 { P:=P,f:=gf,fn:=fn,nk:=2,E0:=E,F0:=F0,w0:=w,n0:=w.heap.size,Z:=fun b=>b<w.heap.size,post:=post,dfs:=[],rd:=none }
structure UW (sz:Nat) (hz:0<sz) (cs:List (Nat->G1)) (F0:YJ) (E:lC) (w:lQ):Prop where
 pl:(VF.pl [.sl 1]).ok E F0 w (E.ρ 0)
 sl:SlR (Md sz hz) F0 w cs (E.ρ 1)
 lt:∀b,F0 b->b<w.heap.size
 one:∀k,(E.ρ k).oneCell'=true
@[reducible] def S5 (sz:Nat) (hz:0<sz) (cs:List (Nat->G1)):List (Nat×VF):=[(0,.pl [.sl 1]),(1,.sl (Md sz hz) cs)]
section
variable {P:lU}{gf:lX}{fn:Func}{post:lR->lQ->Prop}{F0:YJ}{sz:Nat}{hz:0<sz}{ag:Bool}{cs:List (Nat->G1)}{l:Nat}{J:Nat->lQ->Prop}
theorem Zkf{k:Nat}{f:VF}(h:Yg (S5 sz hz cs) k=some f):(k=0/\f=.pl [.sl 1])\/(k=1/\f=.sl (Md sz hz) cs):=by
 rw[YF]at h;split at h
 ·rename_i e;cases h;exact .inl ⟨e.symm,rfl⟩
 ·rw[YF]at h;split at h
  ·rename_i e;cases h;exact .inr ⟨e.symm,rfl⟩
  ·cases h
theorem ky.it{E:lC}{w:lQ}(e:UW sz hz cs F0 E w){L:List (Nat×SV)}{nx:Nat}{a:lZ}(i:a.defers=[])(g:a.tmps.size=fn.ntmps)(j:2<=nx)(m:∀d v,Yg L d=some v->v.kb nx)
  (hL:∀d v,Yg L d=some v->a.tmps[d]?=some (Yt E v)):ky (WN P gf fn post F0 E w) ⟨L,[],S5 sz hz cs,nx⟩ E F0 w a where
 wf:=⟨m,fun _ _ h=>(by cases h),fun k f h=>by
  rcases Zkf h with⟨rfl,rfl⟩|⟨rfl,rfl⟩
  ·refine⟨by show 0<nx;omega,fun x n=>?_⟩;rw[aC.1 n];exact (by show 1<nx;omega)
  ·exact⟨by show 1<nx;omega,trivial⟩⟩
 nk:=j
 defers:=i
 size:=g
 hL:=hL
 hV:=fun k f h=>by
  rcases Zkf h with⟨rfl,rfl⟩|⟨rfl,rfl⟩
  ·exact e.pl
  ·exact e.sl
 hM:=fun _ _ h=>by cases h
 dis:=fun _ _ _ _ h=>by cases h
 mF:=fun _ _ h=>by cases h
 fresh:=fun _ _ h=>by cases h
 hF:=e.lt
 hF0:=fun _ h=>h
 hn0:=Zq _
 hF1:=fun _ h=>.inl h
 hZ:=fun _ h=>h
 ext:=Ext.refl _ _
 link:=lC.Eqb.refl _ _
 one:=e.one
theorem ItB.intro(fn:Func)(body:Code)(z:P.funcs[gf]?=some fn)(A:fn.body=some body)(F:(fn.name == "runtime.NumGoroutine")=false)(G:2<=fn.ntmps)
  (h:∀(cs:List (Nat->G1)) (l:Nat) (F0:YJ) (J:Nat->lQ->Prop),cs.length<=lim->(∀i w w',J i w->Ext (fun b=>b<w.heap.size) w w'->J i w') ->
   (∀i c w',cs.reverse[i]?=some c->J i w'->Zat P l #[.int .i64 ((cs.length-1-i:Nat):Int),Te ag sz c] w' fun m=>J (i+1) m/\(∀b,F0 b->m.heap[b]?=w'.heap[b]?)/\w'.heap.size<=m.heap.size) ->
   ∀E w,UW sz hz cs F0 E w->J 0 w->WP (WN P gf fn (fun _ w'=>J cs.length w') F0 E w) [.code body] ⟨[(0,.c (.v (.func (.yield l) #[] #[]))),(1,.c (.px 0 0))],[],S5 sz hz cs,2⟩):ItB P gf sz hz ag:=by
 refine⟨⟨fn,z,F,by rw[A];rfl⟩,fun cs l B v F0 w J p H q r u n g I=>?_⟩;intro y;have D:UW sz hz cs F0 (itE (.pointer (some ⟨B,0,none⟩)) v) w:=⟨q,r,u,fun k=>by
  show (if k=0 then _ else if k=1 then v else .bool false:lR).oneCell'=true;split
  ·rfl
  ·split
   ·exact H
   ·rfl⟩
 let b:l7:={ (default:l7) with fn:=gf,kind:=.normal,roundOf:=none }
 let args:Array lR:=#[.func (.yield l) #[] #[],.pointer (some ⟨B,0,none⟩)]
 let a:lZ:={ tmps:=args++cQ (fn.ntmps-args.size) undef,defers:=[] }
 have j:Frame.enter P gf args .normal=b.atR a [.code body]:=by simp[Frame.enter,Frame.atR,z,A,b,a]
 have M:ky (WN P gf fn (fun _ w'=>J cs.length w') F0 (itE (.pointer (some ⟨B,0,none⟩)) v) w) ⟨[(0,.c (.v (.func (.yield l) #[] #[]))),(1,.c (.px 0 0))],[],S5 sz hz cs,2⟩ (itE (.pointer (some ⟨B,0,none⟩)) v) F0 w a:=
  ky.it D rfl (by show (args++_).size=_;simp[args];omega) (Zq _) (fun d v h=>by
   rw[YF]at h;split at h
   ·cases h;rfl
   ·rw[YF]at h;split at h
    ·cases h;exact (by decide:(0:Nat)<2)
    ·cases h) (fun d v h=>by
   rw[YF]at h;split at h
   ·rename_i e;cases h;subst e;show (#[Value.func (.yield l) #[] #[],.pointer (some ⟨B,0,none⟩)]++cQ _ undef)[0]?=_;rw[cX (by simp)];rfl
   ·rw[YF]at h;split at h
    ·rename_i e;cases h;subst e;show (#[Value.func (.yield l) #[] #[],.pointer (some ⟨B,0,none⟩)]++cQ _ undef)[1]?=_;rw[cX (by simp)];rfl
    ·cases h)
 have N:=h cs l F0 J p n g _ w D I _ _ _ _ M;obtain⟨C,w',fr,K,o,x,L⟩:=(show ku P gf none _ a _ w from N) b y rfl rfl rfl;rw[<-j]at o;exact⟨.returned C,w',fr,⟨⟨C,rfl⟩,K⟩,o,x,L⟩
theorem Oper.wp_q{o:lW}{a:lZ}{w:lQ}{K:lZ->lQ->Prop}{Q i:Exit->lZ->lQ->Prop}(h:∀c a w,¬ Q (.panic c) a w)(j:¬ LetsOut Q)(d:o.wp P a w K Q):o.wp P a w K i:=by
 unfold Oper.wp at *;unfold Oper.upon at *;split at d
 ·exact d
 ·exact d
 ·exact d
 ·refine Calls.mono d fun e w' g=>?_;split at g
  ·exact g
  ·exact absurd g (h _ _ _)
  ·exact absurd g j
 ·exact d
 ·exact absurd d (h _ _ _)
 ·exact d.elim
theorem ZbE{rd:Option Nat}{ops:Array lW}{Q:Exit->lZ->lQ->Prop}{lK:List Nat}(d:TG ops=true):∀(idx:List Nat) (a:lZ) (w:lQ),
  wpOps P ops (fun e n w'=>e=.normal/\wpOpsIn (VV rd) 0 P ops Q lK n w') idx a w->wpOpsIn (VV rd) 0 P ops Q (idx++lK) a w
 | [],_,_,h=>h.2
 |i::idx,a,w,h=>by
  simp only[wpOps]at h;simp only[bJ,wpOpsIn];cases m:ops[i]? with
  |none=>rw[m]at h;exact ZbE d idx a w h
  |some o=>
   rw[m]at h;simp only at h ⊢;split
   ·rename_i g;rw[mD g]at h;rcases h with h|⟨_,_,_,h,_⟩
    ·have j:ndO o.op=true:=by obtain⟨hi,rfl⟩:=aW.1 m;exact aH.1 d _ (Array.getElem_mem_toList hi)
     exact Zlg j (Oper.wp_imp (fun a w h=>ZbE d idx a w h) (Oper.wp_q (fun _ _ _ h=>by cases h.1) (fun⟨_,_,h⟩=>by cases h.1) h))
    ·cases h
   ·rename_i g;rw[mE g]at h;exact⟨fun f _=>Za9 rd f,ZbE d idx _ w h⟩
end
end
end Go.Kx
section
namespace Go.Kx
variable [kv]
section
variable {P:lU}{gf:lX}{fn:Func}{post:lR->lQ->Prop}{F0:YJ}{sz:Nat}{hz:0<sz}{ag:Bool}{cs:List (Nat->G1)}{l:Nat}{J:Nat->lQ->Prop}
theorem WP.yreg(r:∀i w w',J i w->Ext (fun b=>b<w.heap.size) w w'->J i w')
  (p:∀i c w',cs.reverse[i]?=some c->J i w'->Zat P l #[.int .i64 ((cs.length-1-i:Nat):Int),Te ag sz c] w' fun g=>J (i+1) g/\(∀b,F0 b->g.heap[b]?=w'.heap[b]?)/\w'.heap.size<=g.heap.size)
  {E:lC} {w:lQ} (D:UW sz hz cs F0 E w) {j:Nat} {c:Nat->G1} (hj:J j w) (G:cs.reverse[j]?=some c) {id iy d:Nat} {ops:Array lW} {k:List Item} {s s':St} {pre lK:List Nat} {o:lW} {yO H I:lV} {ts:Array lS} {v2:SV}
  (u:TG ops=true) (M:cO ops.size=pre++iy::lK) (ho:ops[iy]?=some o) (N:o.guard=none) (y:o.op=.call { callee:=.value yO,args:=#[H,I],argTypes:=ts }) (hd:o.dst=some d) (O:d<fn.ntmps)
  (hy:Yr s'.L yO=some (.c (.v (.func (.yield l) #[] #[])))) (h1:Yr s'.L H=some (.c (.i .i64 ((cs.length-1-j:Nat):Int)))) (h2:Yr s'.L I=some v2)
  (R:∀m F w' a,ky (WN P gf fn post F0 E w) s' m F w' a->Yt m v2=Te ag sz c)
  (z:∀lL:lZ->lQ->Prop,(∀m F w' a,ky (WN P gf fn post F0 E w) s' m F w' a->lL a w')->kg (WN P gf fn post F0 E w) ops pre lL s)
  (kk:∀m w',UW sz hz cs F0 m w'->J (j+1) w'->kg (WN P gf fn post F0 m w') ops lK (rk (WN P gf fn post F0 m w') k) ⟨(d,.c (.b true))::s'.L,[],S5 sz hz cs,s'.nx⟩) :
  WP (WN P gf fn post F0 E w) (.code (.region id ops false)::k) s:=by
 intro E1 F1 w1 a1 Y;refine ku.head (fun _ _ _ _ _=>.one stepR_region) ?_;rw[M];refine ZlS (X:=WN P gf fn post F0 E w) (ZbE u pre a1 w1 ?_);refine z (fun a w=>wpOpsIn (VV none) 0 P ops (fun e a' w'=>e=.normal/\ku P gf none post a' k w') (iy::lK) a w) (fun m F w' a n=>?_) E1 F1 w1 a1 Y;have Z:J j w':=r j w w' hj n.ext;have⟨f,tmps,assign,body,U,V⟩:=p j c w' G Z;have e0:a.eval yO=.func (.yield l) #[] #[]:=(n.eval hy).1;have e1:a.eval H=.int .i64 ((cs.length-1-j:Nat):Int):=(n.eval h1).1;have e2:a.eval I=Te ag sz c:=((n.eval h2).1).trans (R m F w' a n);have A:(lT a.eval o).run P w'=.ok (.round l f tmps assign body) w':=by
  unfold lT;simp only[y,resolve,e0,fR,invoke,aG,aJ,aD];have ea:(#[H,I]:Array lV).map a.eval=#[.int .i64 ((cs.length-1-j:Nat):Int),Te ag sz c]:=by simp only[bT,aI,au,e1,e2]
  simpa only[ea,Array.empty_append,Array.append_empty]using U
 simp only[wpOpsIn,ho];have hw:iU o (yielded ops a.tmps)=true:=by unfold iU;rw[N]
 rw[mD hw];refine⟨fun _ _=>trivial,?_⟩;have es:o.semAt (VV none).round a.eval=lT a.eval o:=Oper.semAt_eq _ _ _ (fun c G=>by rw[y]at G;cases G);rw[es,A,Oper.uponIn_round];refine⟨Zfk none _,trivial,fun fc T _=>?_⟩;obtain⟨g,⟨hJ,hF,W⟩,q⟩:=V fc T;refine⟨.returned (.bool true),g,?_,stepsIn_wide.2 q⟩;have hsz':w'.heap.size<=g.heap.size:=W;have hE:E.Eqb 2 m:=n.link;have hbl:∀b,F0 b->g.heap[b]?=w.heap[b]?:= fun b K=>(hF b K).trans (n.ext.block b (D.lt b K));have B:X3 F0 w F0 g:=⟨fun _ h=>h,hbl⟩
 have C:UW sz hz cs F0 m g:=by
  refine⟨?_,?_,fun b K=>?_,n.one⟩
  ·rw[(hE 0 (by omega)).1];exact (D.pl.mono B).eqb hE (fun x hx=>by rw[aC.1 hx];exact (by decide:(1:Nat)<2))
  ·rw[(hE 1 (by omega)).1];exact D.sl.mono B
  ·have h1:=D.lt b K;have h2:w.heap.size<=w'.heap.size:=n.ext.size;omega
 have sN:ky (WN P gf fn post F0 m g) ⟨s'.L,[],S5 sz hz cs,s'.nx⟩ m F0 g a:=ky.it C n.defers n.size n.nk n.wf.hL n.hL;have sD:=sN.setL (d:=d) (v:=.c (.b true)) trivial O;have hr:=kk m g C hJ m F0 g _ sD;show wpOpsIn (VV none) 0 P ops _ lK (a.put o.dst (.bool true)) g;rw[hd];exact DI (rd:=none) Zk0 u lK _ g hr
theorem Zts{h:0<sz}{E:lC}{F:YJ}{w:lQ}{k:Nat}{c:Nat->G1}(d:∀p∈(Q6 sz h).facts k c,p.2.ok E F w (E.ρ p.1)):Yt E (Tb ag ((Q6 sz h).cells k c))=Te ag sz c:=by refine Zgt ?_ (by rw[Ua,aN,iP];exact h);show Ua sz c=((cO sz).map fun j=>SC.sl (k+j)).map (Yn E);rw[Ua,cG];refine bK fun j e=>?_;have:Xx (c j) (E.ρ (k+j)):=d (k+j,.fn (Xx (c j))) (aM.2 ⟨j,e,rfl⟩);exact this.symm
end
section
variable {X:lB}{tt:List (Nat×TD)}
def rfG:Cf->lV
 | .co (.code (.rangeFunc g _ _ _)::_) _=>g
 |_=>.const (.bool true)
def rfA:Cf->Code
 | .co (.code (.rangeFunc _ _ a _)::_) _=>a
 |_=>.skip
def rfB:Cf->Code
 | .co (.code (.rangeFunc _ _ _ b)::_) _=>b
 |_=>.skip
def rfK:Cf->List Item
 | .co (.code (.rangeFunc _ _ _ _)::k) _=>k
 |_=>[]
def rfP(p1 p2:Nat):Cf->Bool
 | .co (.code (.rangeFunc _ ps _ _)::_) _=>match ps.toList with
  | [a,b]=>aF a p1 && aF b p2
  |_=>false
 |_=>false
theorem eRf{α σ:Type}{R:k6 α}(O:ki R){hz:0<R.sz}{ag:Bool}{gf:lX}(G:ItB X.P gf R.sz hz ag){xs:List α}(e:Nat->α->σ->Option σ)(T:σ->St){q H:σ}{C:List (Nat×SV)}(j n I U y z:Nat){bt:lS}{c:Cf}
  (hp:Sd e xs q=some H) (W:∀b,(T b).L=C/\(T b).nx=j)
  (u:∀(i:Nat) x b B,e i x b=some B->∀E F w n0 Z l D r post,
   WP (DL X n E F w n0 Z l post) [] ⟨[],(j,.abs (VE l D r .busy))::(T B).M,(T B).V,j+1⟩ ->
   Wc (DL X n E F w n0 Z l post) (.co [.code (rfA c),.beginRound,.code (rfB c)] ⟨(z,Tb ag (O.cells (j+1) x))::(y,.c (.i .i64 (i:Int)))::C,(j,.abs (VE l D r .ready))::(T b).M,O.facts (j+1) x++(T b).V,j+1+O.nk⟩))
  (A:∀D,Wc { X with dfs:=U4 D::X.dfs } (.co (rfK c) ⟨C,(j,.abs (R4 D))::(T H).M,(T H).V,j+1⟩))
  (Y:(rfP y z c,X.rd,Yr c.st.L (rfG c),Yg c.st.M I,Yg c.st.V U,(T q).L.map (fun p=>Yg c.st.L p.1),(T q).M.map (fun p=>Yg c.st.M p.1),(T q).V.map (fun p=>Yg c.st.V p.1),
    (C.all (fun p=>p.2.kbb n) && aY X.nk n && aY n j && aF c.st.nx j && (Yg (T q).M I).isNone && aO y X.fn.ntmps && aO z X.fn.ntmps)) =
   (true,none,some (.c (.cl gf [] [I])),some (.box [.sl U] bt),some (.sl R xs),(T q).L.map (fun p=>some p.2),(T q).M.map (fun p=>some p.2),(T q).V.map (fun p=>some p.2),true):=by kernel_rfl):Wc X c:=by
 simp only[Zr,Zc]at Y;obtain⟨o,h2,h3,h4,h5,h6,h7,h8,⟨⟨⟨⟨⟨g1,g2⟩,g3⟩,g4⟩,g5⟩,g6⟩,g7⟩:=Y;cases c with
 |no=>cases o
 |rg m ops i k' s=>cases o
 |co it s=>
  match it,o with
  | .code (.rangeFunc g ps az bd)::k,o=>
   have⟨ps⟩:=ps
   have N:ps=[y,z]:=by
    match ps,o with
    | [a,b],o=>
     have o:(aF a y && aF b z)=true:=o
     rw[Zc]at o
     rw[Zd o.1,Zd o.2]
   subst N
   refine⟨WP.rangeB O hz G e T h2 hp W (fun d v h=>?_) (Ze g2) (Ze g3) (Zd g4) (fun d v h=>?_) (fun d v h=>Uh h7 _ (Xk h)) (fun d v h=>Uh h8 _ (Xk h))
    (Option.isNone_iff_eq_none.1 g5) h3 h4 h5 (Y9 g6) (Y9 g7) (fun i x b B K E F w n0 Z l D r post kk=>(u i x b B K E F w n0 Z l D r post kk).1) (fun D=>(A D).1)⟩
   ·exact SV.kbb_ok (aH.1 g1 _ (Xk h))
   ·have:=Uh h6 _ (Xk (by rw[(W q).1];exact h))
    exact this
theorem eBr{l D:Nat}{r:Loop}(n:Nat){c:Cf}(k:Wc X (.co (c.itm.drop 1) ⟨c.st.L,(n,.abs (VE l D r .busy))::c.st.M,c.st.V,c.st.nx⟩))
  (p:(c.isC,c.itm.head?.any (fun | .beginRound=>true|_=>false),Yg c.st.M n,X.rd)=(true,true,some (.abs (VE l D r .ready)),some l):=by kernel_rfl):Wc X c:=by
 simp only[Zr]at p;have⟨v,G,x,y⟩:=p;cases c with
 |no=>cases v
 |rg m ops i R s=>cases v
 |co N s=>
  match N,G with
  | .beginRound::kk,_=>
   refine⟨fun E F w a u=>?_⟩
   have⟨z,H,A⟩:=u.hM n _ x
   obtain⟨w2,d⟩:∃w2,w.putObj l (.loop { r with state:=.busy,pending:=none })=w2:=⟨_,rfl⟩
   have j:∀q,q≠l->w2.heap[q]?=w.heap[q]?:= fun q g=>by rw[<-d];exact df g
   have I:=u.setM (k:=n) (m:=.abs (VE l D r .ready)) (m':=.abs (VE l D r .busy)) (w':=w2) x (by rw[<-d];rfl) (by rw[<-d];rfl) (by rw[<-d];exact .m) (by rw[<-d];simp)
    (fun q _ g=>j q fun e=>g (.inl e)) (fun q g=>g) ⟨by rw[<-d];exact jb (aW.1 z).1,by rw[j _ (fun e=>A e.symm)];exact H,A⟩ trivial (fun h=>by cases h)
   have K:(Instr.beginRound l).run X.P w=.ok () w2:=by have:=run_beginRound (P:=X.P) z rfl;rw[<-d];exact this
   rw[y]
   have o:=k.1 E F w2 a I
   have o:ku X.P X.f X.rd X.post a kk w2:=o
   rw[y]at o
   exact ku.head (fun O B _ _ C=>.one (stepR_beginRound C K)) o
end
section
variable {c:Ct}{P:lU}{f:lX}{fn:Func}{E0:lC}{F0:YJ}{w0:lQ}{s:St}{tt:List (Nat×TD)}
theorem WP.retM{k:List Item}{D i:Nat}(lO:kf P tt)(x:P.funcs[f]?=some fn)(o:Yg s.M i=some (.abs (R4 D)))(l:List (Nat×SC))(y:Rh tt ⟨s.L,(i,.gone)::s.M,s.V,s.nx⟩ fn.results.toList=some (W3 ⟨l,0,0⟩ c.res))
    (hV:c.V1.map (fun p=>Uy ⟨s.L,(i,.gone)::s.M,s.V,s.nx⟩ ⟨l,0,0⟩ p.1 p.2)=c.V1.map (fun p=>some p.2))
    (hM:c.M1.map (fun p=>W0 ⟨s.L,(i,.gone)::s.M,s.V,s.nx⟩ ⟨l,0,0⟩ p.1 p.2)=c.M1.map (fun p=>some (Vl ⟨l,0,0⟩ p.2)))
    (z:(Ui ⟨l,0,0⟩ c.res && XL (c.M1.filterMap fun p=>XT ⟨l,0,0⟩ p.1 p.2) && XL (c.M1.map (·.1)) && l.all (fun p=>aY c.nk p.1 && p.2.kbb s.nx))=true) :
    WP { c.ctx P f fn E0 F0 w0 with dfs:=[U4 D] } (.code .ret::k) s:=by
  intro E F w a n;have C:w.heap[D]?=some (.deferred (some [])):=n.hM i _ o;obtain⟨w2,g⟩:∃w2,w.putObj D (.deferred none)=w2:=⟨_,rfl⟩
  have e:=n.setM (k:=i) (m:=.abs (R4 D)) (m':=.gone) (w':=w2) o (by rw[<-g];rfl) (by rw[<-g];rfl) (by rw[<-g];exact .m) (by rw[<-g];simp)
    (fun q _ j=>by rw[<-g];exact df j) (fun q j=>j.elim) trivial trivial (fun h=>by cases h)
  have v:ky (c.ctx P f fn E0 F0 w0) ⟨s.L,(i,.gone)::s.M,s.V,s.nx⟩ E F w2 { a with defers:=[] }:=
    ⟨e.wf,e.nk,rfl,e.size,e.hL,e.hV,e.hM,e.dis,e.mF,e.fresh,e.hF,e.hF0,e.hn0,e.hF1,e.hZ,e.ext,e.link,e.one⟩
  have G:=HG (X:=c.ctx P f fn E0 F0 w0) lO v y;have H:=ZbI v l rfl hV hM z;show ku P f none _ a (.code .ret::k) w;intro b cs u A B;have I:a.defers=[U4 D]:=n.defers;have K:=step_collected (P:=P) (fr:={ b.atR a (.code .ret::k) with mode:=.returning }) (cs:=cs) (w:=w) (w':=w2) (d:=U4 D) (r:=D) (ds:=[]) (calls:=[]) (by simp) I rfl (by rw[<-g];exact run_takeDeferred C);refine⟨_,w2,{ b.atR a (.code .ret::k) with mode:=.returning,defers:=[] },?_,(gN (stepR_ret B)).trans (.one K),u,rfl,rfl,A,fn,by show P.funcs[b.fn]?=_;rw[u];exact x,G⟩;exact H
end
end Go.Kx
end
namespace Go.Kx
section
variable [kv]
theorem ZkC{α:Type _}(f:Nat->α)(k:Nat)(V:List (Nat×α)):∀(n i j:Nat),i<=j->j<i+n->Yg ((cV i n).map (fun j=>(k+j,f j))++V) (k+j)=some (f j)
 |0,i,j,h1,h2=>by omega
 |n+1,i,j,h1,h2=>by
  rw[List.range'_succ,aI,bJ,YF];split
  ·rename_i e;have:i=j:=by omega
   rw[this]
  ·rename_i e;exact ZkC f k V n (i+1) j (by omega) (by omega)
theorem Ztu{sz:Nat}{h:0<sz}{X:lB}{L:List (Nat×SV)}{M:List (Nat×MO)}{V:List (Nat×VF)}{nx k:Nat}{c:Nat->G1}{ag:Bool}{E:lC}{F:YJ}{w:lQ}{a:lZ}
  (d:ky X ⟨L,M,(Q6 sz h).facts k c++V,nx⟩ E F w a):Yt E (Tb ag ((Q6 sz h).cells k c))=Te ag sz c:=by refine Zts (h:=h) (F:=F) (w:=w) fun p e=>?_;refine d.hV p.1 p.2 ?_;obtain⟨j,g,rfl⟩:=aM.1 e;have:=cB.1 g;show Yg ((cO sz).map (fun j=>(k+j,VF.fn (Xx (c j))))++V) (k+j)=_;rw[List.range_eq_range'];exact ZkC (fun j=>VF.fn (Xx (c j))) k V sz 0 j (by omega) (by omega)
theorem L9{X:lB}{t:St}{lL:List Item}(k:WP X lL t){c:Cf}
  (r:(c.isC,c.itm,t.L.map (fun p=>Yg c.st.L p.1),t.V.map (fun p=>Yg c.st.V p.1),t.M.map (fun p=>Yg c.st.M p.1),(Qj t.L t.M t.V t.nx && aY X.nk t.nx)) =
   (true,lL,t.L.map (fun p=>some p.2),t.V.map (fun p=>some p.2),t.M.map (fun p=>some p.2),true):=by kernel_rfl):Wc X c:=by
 simp only[Zr,Zc]at r;have⟨x,y,z,A,B,C,D⟩:=r;refine Wc.co x ?_;rw[y];intro E F w a e;have hM:∀q m,Yg t.M q=some m->Yg c.st.M q=some m:=fun q m h=>Uh B _ (Xk h);exact k E F w a {
  wf:=ZbW C
  nk:=Ze D
  defers:=e.defers
  size:=e.size
  hL:=fun d v h=>e.hL d v (Uh z _ (Xk h))
  hV:=fun q f h=>e.hV q f (Uh A _ (Xk h))
  hM:=fun q m h=>e.hM q m (hM q m h)
  dis:=fun i j m n h u g b o=>e.dis i j m n (hM i m h) (hM j n u) g b o
  mF:=fun q m h b o=>e.mF q m (hM q m h) b o
  fresh:=fun q m h=>e.fresh q m (hM q m h)
  hF:=e.hF
  hF0:=e.hF0
  hn0:=e.hn0
  hF1:=e.hF1
  hZ:=e.hZ
  ext:=e.ext
  link:=e.link
  one:=e.one }
section
variable {P:lU}{gf:lX}{fn:Func}{post:lR->lQ->Prop}{F0:YJ}{sz:Nat}{hz:0<sz}{ag:Bool}{cs:List (Nat->G1)}{l:Nat}{J:Nat->lQ->Prop}
variable {E:lC}{c:Cf}{w:lQ}
theorem eIl(H:Nat->St)(i:∀E w,UW sz hz cs F0 E w->J cs.length w->Wc (WN P gf fn post F0 E w) (lpS c (H 0)))
  (g:∀m,m<cs.length->(∀E w,UW sz hz cs F0 E w->J (cs.length-m) w->WP (WN P gf fn post F0 E w) (lpK c) (H m)) ->
   ∀E w,UW sz hz cs F0 E w->J (cs.length-(m+1)) w->Wc (WN P gf fn post F0 E w) (lpS c (H (m+1))))
  (h:WP (WN P gf fn post F0 E w) (Ra c) (H cs.length)->Wc (WN P gf fn post F0 E w) c) (d:UW sz hz cs F0 E w) (e:J 0 w):Wc (WN P gf fn post F0 E w) c:=by
 have key:∀m,m<=cs.length->∀E w,UW sz hz cs F0 E w->J (cs.length-m) w->WP (WN P gf fn post F0 E w) (.code (TA c)::.inLoop (TA c)::c.kk) (H m):=by
  intro m;induction m with
  |zero=>exact fun _ E w d e=>(i E w d e).1
  |succ m n=>exact fun j E w d e=>(g m j (fun E w d e=>WP.inLoop (n (by omega) E w d e)) E w d e).1
 exact h (WP.loop (key cs.length (Zq _) E w d (by rw[Nat.sub_self];exact e)))
theorem eRi{tt:List (Nat×TD)}(lO:kf P tt)(j:P.funcs[gf]?=some fn)(d:∀i w w',J i w->Ext (fun b=>b<w.heap.size) w w'->J i w')(m:J cs.length w)
  (n:(DN c,(Rh tt c.st fn.results.toList).isSome)=(true,true):=by kernel_rfl):Wc (WN P gf fn (fun _ w'=>J cs.length w') F0 E w) c:=by
 have⟨h,g⟩:=cC n;have⟨v,g⟩:=bC.1 g;unfold DN at h;split at h
 ·exact⟨fun _ _ _ _ e=>ZlQ j (HG (X:=WN P gf fn (fun _ w'=>J cs.length w') F0 E w) lO e g) e.defers (d _ _ _ m e.ext)⟩
 ·exact⟨fun _ _ _ _ e=>ZlT j (HG (X:=WN P gf fn (fun _ w'=>J cs.length w') F0 E w) lO e g) e.defers (d _ _ _ m e.ext)⟩
 ·cases h
def DO:Cf->Array lW
 | .co (.code (.region _ ops _)::_) _=>ops
 |_=>#[]
def rgB:Cf->Bool
 | .co (.code (.region _ ops false)::_) _=>aF ops.size 8 && TG ops
 |_=>false
def rgK:Cf->List Item
 | .co (_::k) _=>k
 |_=>[]
def U9(c:Cf)(i:Nat):lW:=match (DO c)[i]? with
 |some o=>o
 |none=>{ dst:=none,op:=.move (.const (.bool true)),type:=0,pos:= "",after:=#[],guard:=none }
def tsO:Op->Array lS
 | .call c=>c.argTypes
 |_=>#[]
def yS1(l:Nat)(n:Int)(s:St):St:=⟨(14,.c (.i .i64 n))::(13,.c (.sl 1))::(12,.c (.i .i64 n))::(11,.c (.v (.func (.yield l) #[] #[])))::s.L,s.M,s.V,s.nx⟩
def yS2(sz:Nat)(h:0<sz)(cc:Nat->G1)(s:St):St:=⟨(15,.c (.px s.nx 0))::s.L,s.M,(Q6 sz h).facts (s.nx+1) cc++(s.nx,.pl ((Q6 sz h).cells (s.nx+1) cc))::s.V,s.nx+1+sz⟩
def yS3(ag:Bool)(sz:Nat)(h:0<sz)(cc:Nat->G1)(k:Nat)(s:St):St:=⟨(16,Tb ag ((Q6 sz h).cells (k+1) cc))::s.L,s.M,s.V,s.nx⟩
def yS(l:Nat)(n:Int)(ag:Bool)(sz:Nat)(h:0<sz)(cc:Nat->G1)(s:St):St:=yS3 ag sz h cc s.nx (yS2 sz h cc (yS1 l n s))
theorem eYr{tt:List (Nat×TD)}(lO:kf P tt)(r:∀i w w',J i w->Ext (fun b=>b<w.heap.size) w w'->J i w')
  (g:∀i c w',cs.reverse[i]?=some c->J i w'->Zat P l #[.int .i64 ((cs.length-1-i:Nat):Int),Te ag sz c] w' fun j=>J (i+1) j/\(∀b,F0 b->j.heap[b]?=w'.heap[b]?)/\w'.heap.size<=j.heap.size)
  (K:UW sz hz cs F0 E w) {m:Nat} (M:m<cs.length) (N:J (cs.length-(m+1)) w) {n:Int} (O:n=(m:Int))
  (k:∀(d:Nat->G1) u w',UW sz hz cs F0 u w'->J (cs.length-m) w'->Wc (WN P gf fn post F0 u w') (.rg none (DO c) 7 (rgK c) ⟨(17,.c (.b true))::(yS l n ag sz hz d c.st).L,[],S5 sz hz cs,(yS l n ag sz hz d c.st).nx⟩))
  (H:(rgB c,HN tt fn.ntmps (DO c) 4 [0,1,2,3,4,5] c.st,Y3 (DO c) (yS1 l n c.st).L (U9 c 4),(U9 c 4).dst,(U9 c 4).op,Yg c.st.V 1,Yg tt (Yq (U9 c 4).op),
    (aO 15 fn.ntmps && aF (YC tt (Yq (U9 c 4).op)).kd 6 && aF (YC tt (Yq (U9 c 4).op)).es sz && aO 17 fn.ntmps),(U9 c 6).guard,(U9 c 6).op,(U9 c 6).dst) =
   (true,some ([4,5],yS1 l n c.st),some true,some 15,.indexAddr (Yq (U9 c 4).op) (.tmp 13) (.tmp 14),some (.sl (Md sz hz) cs),some (YC tt (Yq (U9 c 4).op)),
    true,none,.call { callee:=.value (.tmp 11),args:=#[.tmp 12,.tmp 16],argTypes:=tsO (U9 c 6).op },some 17):=by kernel_rfl)
  (z:∀d,HN tt fn.ntmps (DO c) 1 [5] (yS2 sz hz d (yS1 l n c.st))=some ([],yS l n ag sz hz d c.st):=by intro d;kernel_rfl):Wc (WN P gf fn post F0 E w) c:=by
 simp only[Zr]at H;have⟨h,T,U,W,Y,Z,h7,I,h9,C,D⟩:=H;simp only[Zc]at I;obtain⟨⟨⟨q1,q2⟩,q3⟩,q4⟩:=I;cases c with
 |no=>cases h
 |rg m ops i k' s=>cases h
 |co it s=>
  match it,h with
  | .code (.region id ops false)::kk,h=>
   have h:(aF ops.size 8 && TG ops)=true:=h
   rw[Zc]at h
   have v:=Zd h.1
   have x:∀i,i<8->ops[i]?=some (U9 (.co (.code (.region id ops false)::kk) s) i):=fun i hi=>by have e:ops[i]?=some ops[i]:=dQ (by omega);show _=some (match ops[i]? with|some o=>o|none=>_);rw[e]
   have q:cs[m]?=some cs[m]:=Za M
   generalize hce:cs[m]=d at q
   have y:cs.reverse[cs.length-(m+1)]?=some d:=by rw[gJ (by omega),<-q];congr 1;omega
   have G:idx cs n=some d:=by rw[O];unfold idx;rw[lh (da m)];exact q
   have en:n=((cs.length-1-(cs.length-(m+1)):Nat):Int):=by omega
   refine⟨WP.yreg (s':=yS l n ag sz hz d s) r g K N y (id:=id) (ops:=ops) (pre:=[0,1,2,3,4,5]) (iy:=6) (lK:=[7]) h.2 (by rw[v];rfl) (x 6 (by omega)) h9 C D (Y9 q4) rfl (by rw[<-en];rfl) rfl (fun u F' w' a A=>Ztu A) (fun lL R=>?_) (fun u w' B p=>?_)⟩
   ·exact kg.sil lO 4 T (kg.ix (Q6 sz hz) lO G (x 4 (by omega)) U Y W rfl Z rfl h7 (by simp only[Zc];exact⟨⟨q1,q2⟩,q3⟩)
     (kg.sil lO 1 (z d) fun E F w a A=>⟨rfl,R E F w a A⟩))
   ·have p:J (cs.length-m) w':=by
     have:cs.length-(m+1)+1=cs.length-m:=by omega
     rw[<-this];exact p
    have:=(k d u w' B p).1
    have e8:cV 7 (ops.size-7)=[7]:=by rw[v];rfl
    have this:kg _ ops (cV 7 (ops.size-7)) _ _:=this
    rw[e8]at this
    exact this
end
variable {α:Type}
def ltE(V:Nat->Option VF):List SC->Option VF×ULift.{1,0} (Bool×List α)
 | [.sl k]=>(V k,⟨(true,[])⟩)
 | [.nil]=>(some (.fn (Xx Xn)),⟨(true,[])⟩)
 |_=>(none,⟨(false,[])⟩)
theorem ZrJ{V:Nat->Option VF}{u:G1}{cs:List SC}(h:ltE (α:=α) V cs=(some (.fn (Xx u)),⟨(true,[])⟩)):(∃k,cs=[.sl k]/\V k=some (.fn (Xx u)))\/(cs=[.nil]/\u=Xn):=by
 unfold ltE at h;split at h
 ·rename_i k;exact .inl ⟨k,rfl,(cC h).1⟩
 ·refine .inr ⟨rfl,?_⟩;have e:=VF.fn.inj (Zm (cC h).1);have d:Xx u Xn.1:=by rw[<-e];rfl
  exact Subtype.ext d.symm
 ·have d:=mG eE (cC h).2;cases d
def XW(R:k6 α):k6 (List α⊕G1) where
 sz:=1
 pos:=ef
 rep F w x vs:=match x with
  | .inl xs=>(YH R).rep F w xs vs
  | .inr u=>vs=[u.1]
 len {F w x vs} h:=by
  cases x with
  |inl xs=>exact (YH R).len h
  |inr u=>
   have h:vs=[u.1]:=h;rw[h];rfl
 mono {F w F' w' x vs} g h:=by
  cases x with
  |inl xs=>exact (YH R).mono g h
  |inr u=>exact h
 one {F w x vs} h:=by
  cases x with
  |inl xs=>exact (YH R).one h
  |inr u=>
   have h:vs=[u.1]:=h;rw[h];intro v hv;rw[aC.1 hv];exact u.2
def Hs(R:k6 α):ki (XW R) where
 nk:=1
 cells k _:=[.sl k]
 facts k x:=match x with
  | .inl xs=>[(k,.sl R xs)]
  | .inr u=>[(k,.fn (Xx u))]
 ok {F w x vs} h k E ho:=by
  cases x with
  |inl xs=>exact (Xj R).ok h k E ho
  |inr u=>
   have h:vs=[u.1]:=h;refine⟨E.setρ k u.1,E.eqb_setρ _ _ _ (Zq _),fun _=>rfl,fun j hj=>?_,fun j=>?_,?_,?_,?_⟩
   ·have:¬ j=k:=by omega
    simp[lC.setρ,this]
   ·simp only[lC.setρ];split
    ·exact u.2
    ·exact ho j
   ·rw[h];simp[Yn,lC.setρ]
   ·intro q hq;rw[aC.1 hq];exact⟨Zq _,ab _,rfl,by simp[lC.setρ,VF.ok,Xx]⟩
   ·intro c hc;rw[aC.1 hc];exact ab _
 chk V x cs:=match x with
  | .inl xs=>ZaH R V xs cs
  | .inr u=>(∃k,cs=[.sl k]/\V k=some (.fn (Xx u)))\/(cs=[.nil]/\u=Xn)
 cok {V x cs} h E F w hV:=by
  cases x with
  |inl xs=>exact (Xj R).cok h E F w hV
  |inr u=>
   show cs.map (Yn E)=[u.1];rcases h with⟨k,h1,h2⟩|⟨h1,h2⟩
   ·have:E.ρ k=_:=hV k _ h2;rw[h1];simp[Yn,this]
   ·rw[h1,h2];rfl
 T:=Option VF×ULift.{1,0} (Bool×List α)
 lq V x cs:=match x with
  | .inl xs=>slL V xs cs
  | .inr _=>ltE V cs
 rq _ x cs:=match x with
  | .inl xs=>slQ R xs cs
  | .inr u=>(some (.fn (Xx u)),⟨(true,[])⟩)
 eqn {V x cs} h:=by
  cases x with
  |inl xs=>exact Zl9 h
  |inr u=>exact ZrJ h
section
variable {κ:Type}[ke κ]
variable {α:Type}
def Ug(R:k6 α)(ag:Bool)(bo:Option (Nat×Array l3×Nat))(lM:List (κ×α)):Lx where
 ok F w v:=match bo with
  |none=>lM=[]/\v=.map none
  |some (b,es,clock)=>v=.map (some b)/\w.heap[b]?=some (.map es clock)/\ko R ag F w es.toList lM/\StOk es.toList clock
 mono {F w F' w' v} g hb h:=by
  match bo,h with
  |none,h=>exact h
  |some (b,es,clock),⟨hv,hh,hl,hst⟩=>exact⟨hv,by rw[hb b (by rw[hv];rfl)];exact hh,hl.mono g,hst⟩
 one {F w v} h:=by
  match bo,h with
  |none,h=>rw[h.2];rfl
  |some (b,es,clock),h=>rw[h.1];rfl
def UE(bo:Option (Nat×Array l3×Nat))(seen:Array Nat):Obj:=match bo with
 |none=>.mapIter none 0 #[] 0
 |some (b,_,c)=>.mapIter (some b) c seen c
def UD(r:Nat)(bo:Option (Nat×Array l3×Nat))(seen:Array Nat):SH where
 fp:=fun x=>x=r
 ok:=fun _ w=>w.heap[r]?=some (UE bo seen)
 mono:=fun _ hb h=>by rw[hb r rfl];exact h
def UY(bo:Option (Nat×Array l3×Nat))(j:Nat):Option Nat:=match bo with
  |none=>none
  |some (_,es,_)=>es.toList[j]?.map (·.born)
def P4(bo:Option (Nat×Array l3×Nat))(seen:Array Nat):Nat:=match bo with
 |none=>0
 |some (_,es,_)=>(leftOf es seen).size
structure LF {α:Type} (bo:Option (Nat×Array l3×Nat)) (lM:List (κ×α)):Prop where
 has:∀j,j<lM.length->∃β,UY bo j=some β
 lt:∀j β,UY bo j=some β->j<lM.length
 inj:∀i j β,UY bo i=some β->UY bo j=some β->i=j
variable {R:k6 α}
theorem ko.len{ag F w}:∀ {es:List l3} {lM:List (κ×α)},ko R ag F w es lM->es.length=lM.length
 | [],[],_=>rfl
 | [],_::_,h=>h.elim
 |_::_,[],h=>h.elim
 |e::es,(k,x)::r,⟨_,_,h⟩=>by simp[ko.len h]
theorem ko.at{α:Type}{R:k6 α}{ag F w}:∀ {es:List l3} {lM:List (κ×α)} {j:Nat} {e:l3},ko R ag F w es lM->es[j]?=some e->∃q x d,lM[j]?=some (q,x)/\e.key=ke.val q/\R.rep F w x d/\e.val=W2 ag d
 | [],[],_,_,_,h=>by simp at h
 | [],_::_,_,_,h,_=>h.elim
 |_::_,[],_,_,h,_=>h.elim
 |e::es,(k,x)::r,0,e',⟨h1,⟨d,h2,h3⟩,_⟩,h=>by cases h;exact⟨k,x,d,rfl,h1,h2,h3⟩
 |e::es,(k,x)::r,j+1,e',⟨_,_,h⟩,h'=>ko.at (j:=j) h (by simpa using h')
variable {lM:List (κ×α)}
theorem ZtS{ag F w b es clock}(m:ko R ag F w es.toList lM)(g:StOk es.toList clock):LF (some (b,es,clock)) lM where
  has j d:=by rw[<-m.len]at d;exact⟨_,by show es.toList[j]?.map _=_;rw[Za d];rfl⟩
  lt j β h:=by
    rw[<-m.len];have h:es.toList[j]?.map (·.born)=some β:=h;cases n:es.toList[j]? with
    |none=>rw[n]at h;cases h
    |some e=>exact (aE.1 n).1
  inj i j β hi d:=by have hi:es.toList[i]?.map (·.born)=some β:=hi;have d:es.toList[j]?.map (·.born)=some β:=d;rw[<-aK]at hi d;have o:=(aE.1 hi).1;exact (List.getElem?_inj o g.2).1 (by rw[hi,d])
variable {X:lB}{s:St}{ops:Array lW}{lL:lZ->lQ->Prop}{tt:List (Nat×TD)}
variable {ag:Bool}{d i k:Nat}{o:lW}{lK:List Nat}{x:lV}
theorem kg.rgm{t:lS}{nl:Bool}{z:α}(W:V6 κ X.P R t ag z)
  (Y:ops[i]?=some o) (Z:Y3 ops s.L o=some true) (B:o.op=.range t x) (hd:o.dst=some d) (hn:aO d X.fn.ntmps=true)
  (hx:Yr s.L x=some (.c (.sl k))) (A:Yg s.M k=some (.av (Xr R ag nl lM)))
  (kk:∀bo r,LF bo lM->kg X ops lK lL ⟨(d,.c (.v (.pointer (some ⟨r,0,none⟩))))::s.L,(k,.av (Ug R ag bo lM))::(s.nx,.abs (UD r bo #[]))::s.M,s.V,s.nx+1⟩):kg X ops (i::lK) lL s:=by
 intro E F w a g;simp only[wpOps,Y,S3 g Z,mA];have⟨kt,et,zs,N,hk,hz,hzr⟩:=W;have⟨D,_⟩:=g.eval hx;have D:a.eval x=E.ρ k:=D;have I:(Xr R ag nl lM).ok F w (E.ρ k):=g.hM k _ A;obtain⟨bo,hE,q,G⟩:∃bo,(Ug R ag bo lM).ok F w (E.ρ k)/\(Instr.range t (E.ρ k)).run X.P w=.ok (.pointer (some ⟨w.heap.size,0,none⟩)) (w.alloc (UE bo #[]))/\LF bo lM:=by
  rcases I with⟨_,rfl,u⟩|⟨b,es,p,u,O,T,y⟩
  ·refine⟨none,⟨rfl,u⟩,?_,⟨fun j C=>by simp at C,fun j β h=>(by cases h),fun i j β h=>(by cases h)⟩⟩;rw[u];simp only[Instr.range,aG,Xl N,aD,aJ,run_newObj];rfl
  ·refine⟨some (b,es,p),⟨u,O,T,y⟩,?_,ZtS T y⟩;rw[u];simp only[Instr.range,aG,Xl N,aD,aJ,dH O,run_newObj];rfl
 have hlt:∀b,YV (E.ρ k)=some b->b<w.heap.size:=fun b n=>(g.mF k _ A b n).2.2;have K:w.heap.size<=(w.alloc (UE bo #[])).heap.size:=by simp
 have U:=g.setM (k:=k) (m:=.av (Xr R ag nl lM)) (m':=.av (Ug R ag bo lM)) (w':=w) A rfl rfl .m (Zq _) (fun _ _ _=>rfl) (fun b n=>n) hE trivial (fun h=>by cases h);have h1:=U.world (w':=w.alloc (UE bo #[])) rfl rfl .m K (fun b n=>heap_alloc_old w _ (h:=n));have h2:=h1.addM' (m:=.abs (UD w.heap.size bo #[])) (heap_alloc_new w _) trivial (fun b n=>by have e:b=w.heap.size:=n;subst e;refine⟨fun hF=>absurd (g.hF _ hF) (bj _),fun hZ=>?_,by simp,fun j m' C hf=>absurd (U.mF j m' C _ hf).2.2 (bj _)⟩;have:=g.hZ _ hZ;have:=g.ext.size;omega) (fun h=>by cases h)
 have h3:=h2.weaken (t:=⟨s.L,(k,.av (Ug R ag bo lM))::(s.nx,.abs (UD w.heap.size bo #[]))::s.M,s.V,s.nx+1⟩) rfl (fun _ _ h=>h) (fun j m h=>by
  show Yg ((s.nx,_)::(k,_)::s.M) j=_;have hkn:k<s.nx:=(g.wf.hM k _ A).1;rw[YF]at h ⊢;split at h
  ·rename_i e;subst e;rw[mE (by omega),YF,mD rfl];exact h
  ·rename_i e;rw[YF]at h;split at h
   ·rename_i H;rw[mD H];exact h
   ·rename_i H;rw[mE H,YF,mE e];exact h) (fun _ _ h=>h)
 refine .inl (XD (w':=w.alloc (UE bo #[])) (v:=.pointer (some ⟨w.heap.size,0,none⟩)) ?_ (kk bo w.heap.size G E F _ _ ?_))
 ·simp only[lT,B,D];exact Xe q
 ·rw[hd];exact h3.setL (d:=d) (v:=.c (.v (.pointer (some ⟨w.heap.size,0,none⟩)))) (by first|trivial|rfl) (Y9 hn)
variable {bo:Option (Nat×Array l3×Nat)}{r:Nat}{sn:Array Nat}
theorem ZqS{E:lC}{F:YJ}{w:lQ}{a:lZ}{sn':Array Nat}{d:lQ}(o:ky X s E F w a)(p:Yg s.M k=some (.abs (UD r bo sn)))
  (g:d=w\/d=w.drew):ky X ⟨s.L,(k,.abs (UD r bo sn'))::s.M,s.V,s.nx⟩ E F (dv d r (UE bo sn')) a:=by
 have q:w.heap[r]?=some (UE bo sn):=o.hM k _ p;have j:r<w.heap.size:=(aW.1 q).1;have n:(dv d r (UE bo sn')).heap=w.heap.setIfInBounds r (UE bo sn'):=by rcases g with rfl|rfl<;>rfl
 refine o.setM (m':=.abs (UD r bo sn')) (w':=dv d r (UE bo sn')) p ?_ ?_ ?_ (by rw[n];simp) (fun c u i=>?_) (fun _ h=>h) ?_ trivial (fun h=>by cases h)
 ·rcases g with rfl|rfl<;>rfl
 ·rcases g with rfl|rfl<;>rfl
 ·rcases g with rfl|rfl
  ·exact .m
  ·exact .m
 ·have:¬ r=c:=fun e=>i e.symm;rw[n,Array.getElem?_setIfInBounds,mE this]
 ·show (dv d r (UE bo sn')).heap[r]?=_;rw[n];simp[j]
theorem kg.nxm(I:Nat){lM:List (be×Int)}
    (Z:ops[i]?=some o) (hg:Y3 ops s.L o=some true) (A:o.op=.next x false) (K:o.dst=some d)
    (hx:Yr s.L x=some (.c (.v (.pointer (some ⟨r,0,none⟩))))) (D:Yg s.M k=some (.abs (UD r bo sn))) (hm:Yg s.M I=some (.av (Ug (rI .i64) false bo lM))) (N:aO d X.fn.ntmps=true)
    (G:(∀j β,UY bo j=some β->sn.contains β=true)->kg X ops lK lL ⟨(d,.t [.inl (.b false)])::s.L,s.M,s.V,s.nx⟩)
    (H:∀j q n β,lM[j]?=some (q,n)->UY bo j=some β->sn.contains β=false->P4 bo (sn.push β)<P4 bo sn ->
      kg X ops lK lL ⟨(d,.t [.inl (.b true),.inl (.s q),.inl (.i .i64 n)])::s.L,(k,.abs (UD r bo (sn.push β)))::s.M,s.V,s.nx⟩):kg X ops (i::lK) lL s:=by
  intro E F w a B;simp only[wpOps,Z,S3 B hg,mA];have⟨O,_⟩:=B.eval hx;have z:w.heap[r]?=some (UE bo sn):=B.hM k _ D;have Y:(Ug (rI .i64) false bo lM).ok F w (E.ρ I):=B.hM I _ hm
  match bo,z,Y,D,G,H with
  |none,z,Y,D,G,H=>
    have z:w.heap[r]?=some (.mapIter none 0 #[] 0):=z
    refine .inl (XD (w':=w) (v:=.tuple #[.bool false]) ?_ (G (fun j β h=>(by cases h)) E F _ _ ?_))
    · simp only[lT,A,O,Yt,Yn]
      refine Xe ?_
      simp[Instr.next,getObj,Sem.run,z]
    · rw[K]
      exact B.setL (d:=d) (v:=.t [.inl (.b false)]) (fun v y=>by simp at y;subst y;trivial) (Y9 N)
  |some (b,es,c),z,⟨y,hh,hl,hst⟩,D,G,H=>
    have z:w.heap[r]?=some (.mapIter (some b) c sn c):=z
    rcases run_next_at (P:=X.P) w 0 r b c c sn es c z hh hst.1 (Zq _) with⟨h0,g⟩|⟨e,W,w1,U,g⟩
    · refine .inl (XD (w':=w) (v:=.tuple #[.bool false]) ?_ (G (fun j β h=>?_) E F _ _ ?_))
      · simp only[lT,A,O,Yt,Yn]
        exact Xe g
      · have h:es.toList[j]?.map (·.born)=some β:=h
        cases C:es.toList[j]? with
        |none=>rw[C]at h;cases h
        |some e=>
          rw[C]at h;cases h;exact all_seen es sn h0 e (Zb C)
      · rw[K]
        exact B.setL (d:=d) (v:=.t [.inl (.b false)]) (fun v y=>by simp at y;subst y;trivial) (Y9 N)
    · have⟨R,T⟩:=mem_left W
      have⟨j,C⟩:=List.getElem?_of_mem R
      have⟨q,n,vs,hq,m,p,u⟩:=hl.at C
      have p:vs=[.int .i64 n]:=p
      have u:e.val=.int .i64 n:=by rw[u,p];rfl
      have m:e.key=.string q:=m
      rw[m,u]at g
      have s1:=ZqS (sn':=sn.push e.born) B D U
      refine .inl (XD (w':=dv w1 r (UE (some (b,es,c)) (sn.push e.born))) (v:=.tuple #[.bool true,.string q,.int .i64 n]) ?_ (H j q n e.born hq (by show es.toList[j]?.map _=_;rw[C];rfl) T (left_shrinks es sn e W) E F _ _ ?_))
      · simp only[lT,A,O,Yt,Yn]
        exact Xe g
      · rw[K]
        exact s1.setL (d:=d) (v:=.t [.inl (.b true),.inl (.s q),.inl (.i .i64 n)]) (fun v y=>by simp at y;rcases y with rfl|rfl|rfl<;>trivial) (Y9 N)
theorem kg.ntm{j:Nat}(k C:Nat){lM:List (be×Int)}{q:be}{n:Int}{β:Nat}
    (H:lM[j]?=some (q,n)) (p:UY bo j=some β) (I:ops[i]?=some o) (K:Y3 ops s.L o=some true) (D:o.op=.entry x) (N:o.dst=some d)
    (O:Yr s.L x=some (.c (.v (.pointer (some ⟨r,0,none⟩))))) (R:Yg s.M k=some (.abs (UD r bo (sn.push β)))) (T:Yg s.M C=some (.av (Ug (rI .i64) false bo lM))) (U:aO d X.fn.ntmps=true)
    (W:kg X ops lK lL ⟨(d,.t [.inl (.s q),.inl (.i .i64 n)])::s.L,s.M,s.V,s.nx⟩):kg X ops (i::lK) lL s:=by
  refine kg.op I K (fun E F w a A=>?_) W;have⟨Y,_⟩:=A.eval O;have z:w.heap[r]?=some (UE bo (sn.push β)):=A.hM k _ R;have hE:(Ug (rI .i64) false bo lM).ok F w (E.ρ C):=A.hM C _ T
  match bo,z,hE,p with
  |some (b,es,c),z,⟨G,hh,hl,hst⟩,p=>
    have z:w.heap[r]?=some (.mapIter (some b) c (sn.push β) c):=z
    have p:es.toList[j]?.map (·.born)=some β:=p
    cases B:es.toList[j]? with
    |none=>rw[B]at p;cases p
    |some e=>
      rw[B]at p;cases p;have⟨q',n',Z,y,g,h,m⟩:=hl.at B;rw[H]at y;cases y;have h:Z=[.int .i64 n]:=h;have m:e.val=.int .i64 n:=by rw[m,h];rfl
      have g:e.key=.string q:=g;have u:=run_entry_at (P:=X.P) w r b c sn es c e z hh (Zb B) hst.2;rw[g,m]at u;refine XD (w':=w) (v:=.tuple #[.string q,.int .i64 n]) ?_ ⟨E,F,?_⟩
      · simp only[lT,D,Y,Yt,Yn];exact Xe u
      · rw[N];exact A.setL (d:=d) (v:=.t [.inl (.s q),.inl (.i .i64 n)]) (fun v G=>by simp at G;rcases G with rfl|rfl<;>trivial) (Y9 U)
variable {c:Cf}
theorem Wc.inn(h:VI c=true)(hi:Tw c=true)(n:∀(ops:Array lW) (i:Nat) (k:List Item) (s:St),c=.rg none ops i k s->ops[i]?=some (Yf c)->Y3 ops s.L (Yf c)=some true ->
  kg X ops (i::cV (i+1) (ops.size-(i+1))) (rk X k) s):Wc X c:=by
 cases c with
 |co _ _=>cases hi
 |no=>cases hi
 |rg m ops i e s=>
  cases m with
  |some q=>cases hi
  |none=>
   unfold VI at h;rw[Zc,Zc]at h;obtain⟨⟨_,p⟩,g⟩:=h;have d:ops[i]?=some (Yf (.rg none ops i e s)):=by have⟨o,d⟩:=bC.1 p;have d:ops[i]?=some o:=d;unfold Yf;show _=some ((ops[i]?).getD default);rw[d];rfl
   have r:Y3 ops s.L (Yf (.rg none ops i e s))=some true:=by
    split at g
    ·rename_i b j;rw[g]at j;exact j
    ·cases g
   refine⟨?_⟩;show kg X ops (cV i (ops.size-i)) (rk X e) s;rw[HC d];exact n ops i e s rfl d r
def ZtT(R:k6 α)(ag:Bool)(lM:List (κ×α))(bo:Option (Nat×Array l3×Nat))(r:Nat)(c:Cf):Cf:=
 Xh ⟨[(YS c,.c (.v (.pointer (some ⟨r,0,none⟩))))],[(YA (Yo c 0),.av (Ug R ag bo lM)),((Yk c).nx,.abs (UD r bo #[]))],[],1⟩ c
theorem eRm{t:lS}{nl:Bool}{z:α}(h:V6 κ X.P R t ag z)(j:∀bo r,LF bo lM->Wc X (ZtT R ag lM bo r c))
  (g:(hB X.fn.ntmps c,(Yf c).dst,Tw c,(Yf c).op,Yo c 0,Yg (Yk c).M (YA (Yo c 0))) =
   (true,some (YS c),true,.range t (Yx (Yf c).op 0),some (.c (.sl (YA (Yo c 0)))),some (.av (Xr R ag nl lM))):=by kernel_rfl):Wc X c:=by simp only[Zr]at g;have⟨o,p,q,u,v,w⟩:=g;have⟨x,y⟩:=Xm o;refine Wc.inn x q (fun ops i k s e m n=>?_);subst e;exact kg.rgm h m n u p y v w fun bo r d=>(j bo r d).1
def ZsV(q:be)(n:Int)(k:Nat)(r:Nat)(bo:Option (Nat×Array l3×Nat))(sn:Array Nat)(c:Cf):Cf:=
 Xh ⟨[(YS c,.t [.inl (.b true),.inl (.s q),.inl (.i .i64 n)])],[(k,.abs (UD r bo sn))],[],0⟩ c
def ZsW(c:Cf):Cf:=Xh (d1 c (.t [.inl (.b false)])) c
theorem eNx{lM:List (be×Int)}(k d:Nat)
  (m:(∀j β,UY bo j=some β->sn.contains β=true)->Wc X (ZsW c))
  (o:∀j q n β,lM[j]?=some (q,n)->UY bo j=some β->sn.contains β=false->P4 bo (sn.push β)<P4 bo sn->Wc X (ZsV q n k r bo (sn.push β) c))
  (g:(hB X.fn.ntmps c,(Yf c).dst,Tw c,(Yf c).op,Yo c 0,Yg (Yk c).M k,Yg (Yk c).M d) =
   (true,some (YS c),true,.next (Yx (Yf c).op 0) false,some (.c (.v (.pointer (some ⟨r,0,none⟩)))),some (.abs (UD r bo sn)),some (.av (Ug (rI .i64) false bo lM))):=by kernel_rfl):Wc X c:=by simp only[Zr]at g;have⟨w,x,y,z,A,B,C⟩:=g;have⟨D,F⟩:=Xm w;refine Wc.inn D y (fun ops i G s e p u=>?_);subst e;exact kg.nxm d p u z x A B C F (fun h=>(m h).1) (fun j q n β a1 a2 a3 a4=>(o j q n β a1 a2 a3 a4).1)
def ZjU:Op->lV
 | .entry x=>x
 |_=>.const (.bool true)
theorem eNy{lM:List (be×Int)}{j:Nat}{q:be}{n:Int}{β:Nat}(k d:Nat)(h:lM[j]?=some (q,n))(m:UY bo j=some β)
  (o:Wc X (Xh (d1 c (.t [.inl (.s q),.inl (.i .i64 n)])) c))
  (g:(hB X.fn.ntmps c,(Yf c).dst,Tw c,(Yf c).op,Yr (Yk c).L (ZjU (Yf c).op),Yg (Yk c).M k,Yg (Yk c).M d) =
   (true,some (YS c),true,.entry (ZjU (Yf c).op),some (.c (.v (.pointer (some ⟨r,0,none⟩)))),some (.abs (UD r bo (sn.push β))),some (.av (Ug (rI .i64) false bo lM))):=by kernel_rfl):Wc X c:=by simp only[Zr]at g;have⟨w,x,y,z,A,B,C⟩:=g;have⟨D,F⟩:=Xm w;refine Wc.inn D y (fun ops i G s e p u=>?_);subst e;exact kg.ntm k d h m p u z x A B C F o.1
theorem eMx(K:Nat)(k:Wc X (W8 (fun s=>⟨s.L,(K,.av (Xr R ag true lM))::s.M,s.V,s.nx⟩) c))
  (e:Yg c.st.M K=some (.av (Ug R ag bo lM)):=by kernel_rfl):Wc X c:=VG (fun E F w a g=>⟨E,F,by
 have d:(Ug R ag bo lM).ok F w (E.ρ K):=g.hM K _ e;refine g.setM (m':=.av (Xr R ag true lM)) e rfl rfl .m (Zq _) (fun _ _ _=>rfl) (fun b i=>i) ?_ trivial (fun h=>by cases h)
 match bo,d with
 |none,h=>exact .inl ⟨rfl,h.1,h.2⟩
 |some (b,es,c),h=>exact .inr ⟨b,es,c,h⟩⟩) k
theorem Hp{α:Type}{a b:κ}{x:α}:∀ {lM:List (κ×α)},YR (Xf lM a x) b=bif ke.eq a b then some x else YR lM b
 | []=>rfl
 | (k,v)::r=>by
  unfold Xf;cases d:ke.eq k a with
  |true=>
   have e:=(ke.eq_iff _ _).1 d;subst e;show (bif ke.eq k b then some x else YR r b)=bif ke.eq k b then some x else (bif ke.eq k b then some v else YR r b);cases ke.eq k b<;>rfl
  |false=>
   show (bif ke.eq k b then some v else YR (Xf r a x) b)=bif ke.eq a b then some x else (bif ke.eq k b then some v else YR r b);rw[Hp (lM:=r)];cases i:ke.eq k b with
   |false=>rfl
   |true=>
    cases j:ke.eq a b with
    |false=>rfl
    |true=>
     have g:=(ke.eq_iff _ _).1 i;have h:=(ke.eq_iff _ _).1 j;rw[g,h,(ke.eq_iff _ _).2 rfl]at d;cases d
theorem ZfC{α:Type}{a:κ}{x:α}:∀ {lM:List (κ×α)},(lM.map (·.1)).Nodup->((Xf lM a x).map (·.1)).Nodup/\∀b,b∈(Xf lM a x).map (·.1)->b=a\/b∈lM.map (·.1)
  | [],_=>⟨by simp[Xf],fun b d=>.inl (by simpa[Xf]using d)⟩
  | (k,v)::r,h=>by
    unfold Xf;rw[aI,cR]at h;cases i:ke.eq k a with
    |true=>exact⟨by rw[l9,aI,cR];exact h,fun b d=>.inr d⟩
    |false=>
      have⟨m,g⟩:=ZfC (a:=a) (x:=x) h.2;refine⟨?_,fun b d=>?_⟩
      · rw[lf,aI,cR];refine⟨fun j=>?_,m⟩;rcases g _ j with e|e
        · have e:k=a:=e;rw[e,(ke.eq_iff _ _).2 rfl]at i;cases i
        · exact h.1 e
      · rw[lf,aI,Zl]at d;rcases d with e|d
        · exact .inr (by rw[e];exact Zj ..)
        · rcases g _ d with e|e
          · exact .inl e
          · exact .inr (Zi _ e)
theorem Zbs{a:κ}{x:α}:∀ {lM:List (κ×α)} {j:Nat},(lM.map (·.1)).Nodup->lM[j]?=some (a,x)->YR lM a=some x
  | [],j,_,h=>by simp at h
  | (k,v)::r,0,_,h=>by cases h;show (bif ke.eq a a then _ else _)=_;rw[(ke.eq_iff _ _).2 rfl];rfl
  | (k,v)::r,j+1,hn,h=>by
    rw[aI,cR]at hn;have h:r[j]?=some (a,x):=by simpa using h
    have d:a∈r.map (·.1):=aM.2 ⟨_,Zb h,rfl⟩;have e:ke.eq k a=false:=by
      cases g:ke.eq k a with
      |false=>rfl
      |true=>exact absurd ((ke.eq_iff _ _).1 g▸d) hn.1
    show (bif ke.eq k a then _ else YR r a)=_;rw[e];exact Zbs hn.2 h
structure CpI {α:Type} (bo:Option (Nat×Array l3×Nat)) (lM:List (κ×α)) (sn:Array Nat) (m:List (κ×α)):Prop where
  nd:(m.map (·.1)).Nodup
  has:∀j q n β,lM[j]?=some (q,n)->UY bo j=some β->sn.contains β=true->YR m q=some n
  sub:∀q n,YR m q=some n->YR lM q=some n
theorem CpI.nil:CpI bo lM #[] ([]:List (κ×α)):=
 ⟨List.nodup_nil,fun _ _ _ _ _ _ h=>by simp at h,fun _ _ h=>by cases h⟩
theorem CpI.step{α:Type}{bo:Option (Nat×Array l3×Nat)}{lM m:List (κ×α)}{sn:Array Nat}{j β:Nat}{q:κ}{n:α}(g:LF bo lM)(o:(lM.map (·.1)).Nodup)(h:CpI bo lM sn m)(p:lM[j]?=some (q,n))(r:UY bo j=some β) :
    CpI bo lM (sn.push β) (Xf m q n) where
  nd:=(ZfC h.nd).1
  has i q' n' β' h1 h2 h3:=by
    rw[Hp];cases d:ke.eq q q' with
    |true=>
      have e:=(ke.eq_iff _ _).1 d;subst e;have a1:=Zbs o p;have a2:=Zbs o h1;rw[a1]at a2;cases a2;rfl
    |false=>
      refine h.has i q' n' β' h1 h2 ?_;rw[Array.contains_push]at h3;cases u:sn.contains β' with
      |true=>rfl
      |false=>
        rw[u]at h3;have e:β'=β:=by simpa using h3
        subst e;have:=g.inj i j _ h2 r;subst this;rw[p]at h1;cases h1;rw[(ke.eq_iff q q).2 rfl]at d;cases d
  sub q' n' h1:=by
    rw[Hp]at h1;cases d:ke.eq q q' with
    |true=>
      rw[d]at h1;cases h1;have e:=(ke.eq_iff _ _).1 d;subst e;exact Zbs o p
    |false=>rw[d]at h1;exact h.sub _ _ h1
theorem CpI.end_{m:List (κ×α)}(g:LF bo lM)(h:CpI bo lM sn m)(p:∀j β,UY bo j=some β->sn.contains β=true)(a:κ):YR m a=YR lM a:=by
 cases o:YR m a with
 |some n=>exact (h.sub _ _ o).symm
 |none=>
  cases q:YR lM a with
  |none=>rfl
  |some n=>
   have⟨j,e⟩:=get_at q;have i:=(aE.1 e).1;have⟨β,d⟩:=g.has j i;have:=h.has j a n β e d (p j β d);rw[o]at this;cases this
where get_at {α:Type} {a:κ} {x:α}:∀ {lM:List (κ×α)},YR lM a=some x->∃j:Nat,lM[j]?=some (a,x)
 | [],h=>by cases h
 | (k,v)::r,h=>by
  unfold YR at h;cases d:ke.eq k a with
  |true=>
   rw[d]at h;cases h;exact⟨0,by rw[(ke.eq_iff _ _).1 d];rfl⟩
  |false=>
   rw[d]at h;have⟨j,e⟩:=get_at (lM:=r) h;exact⟨j+1,by simpa using e⟩
end
section
variable {X:lB}{tt:List (Nat×TD)}
variable {c:Cf}
theorem eRs(t:St)(l:List (Nat×SC))(k:Wc X (.co c.itm t))
    (d:(c.isC,t.L.map (fun p=>Yg c.st.L p.1),t.V.map (fun p=>Uy c.st ⟨l,0,0⟩ p.1 p.2),t.M.map (fun p=>W0 c.st ⟨l,0,0⟩ p.1 p.2),
        (t.L.all (fun p=>Ui ⟨l,0,0⟩ p.2) && XL (t.M.filterMap fun p=>XT ⟨l,0,0⟩ p.1 p.2) && XL (t.M.map (·.1)) && Qj t.L t.M t.V t.nx && l.all (fun p=>aY X.nk p.1 && p.2.kbb c.st.nx) && aY X.nk t.nx)) =
      (true,t.L.map (fun p=>some (W3 ⟨l,0,0⟩ p.2)),t.V.map (fun p=>some p.2),t.M.map (fun p=>some (Vl ⟨l,0,0⟩ p.2)),true):=by kernel_rfl):Wc X c:=by refine Yi (t:=t) (lL:=c.itm) l k.1 ?_;simp only[Zr]at d ⊢;exact⟨d.1,trivial,d.2⟩
def cdC:Cf->Bool
 | .co (.code (.cond _ _ _)::_) _=>true
 |_=>false
def G8(tt:List (Nat×TD))(nt:Nat):Nat->Cf->Cf
 |0,c=>c
 |n+1,c=>match cdC c with
  |true=>c
  |false=>match a1 tt nt c with
   | .no=>c
   |c'=>G8 tt nt n c'
theorem ZmJ(lO:kf X.P tt):∀(n:Nat) {c:Cf},Wc X (G8 tt X.fn.ntmps n c)->Wc X c
 |0,_,h=>h
 |n+1,c,h=>by
  unfold G8 at h;split at h
  ·exact h
  ·split at h
   ·exact h
   ·exact Zev lO (ZmJ lO n h)
theorem wn(lO:kf X.P tt)(k:Wc X (G8 tt X.fn.ntmps 100 c)):Wc X c:=ZmJ lO 100 k
theorem ek(lO:kf X.P tt){b t:Bool}(K:b=t)(k:Wc X (G8 tt X.fn.ntmps 100 (Wn tt X.fn.ntmps 1 (Sw t c))))(d:(Yg c.st.L (TN c),Ml c)=(some (.c (.b b)),Mo b c):=by kernel_rfl):Wc X c:=
 eK K (wa lO 1 (wn lO k)) d
end
def ZbH:Cf->Bool
 | .co (.code .ret::_) _=>true
 |_=>false
def Hf(kD:Nat)(s:St):St:=⟨s.L,(kD,.gone)::s.M,s.V,s.nx⟩
theorem ZjJ{P:lU}{f:lX}{fn:Func}{d:Ct}{E0:lC}{F0:YJ}{w0:lQ}{D:Nat}{tt:List (Nat×TD)}(lO:kf P tt)(i:P.funcs[f]?=some fn)(e:Nat)(l:List (Nat×SC)){c:Cf}
    (h:(ZbH c,Yg c.st.M e,Rh tt (Hf e c.st) fn.results.toList,d.V1.map (fun p=>Uy (Hf e c.st) ⟨l,0,0⟩ p.1 p.2),d.M1.map (fun p=>W0 (Hf e c.st) ⟨l,0,0⟩ p.1 p.2),
        (Ui ⟨l,0,0⟩ d.res && XL (d.M1.filterMap fun p=>XT ⟨l,0,0⟩ p.1 p.2) && XL (d.M1.map (·.1)) && l.all (fun p=>aY d.nk p.1 && p.2.kbb c.st.nx))) =
      (true,some (.abs (R4 D)),some (W3 ⟨l,0,0⟩ d.res),d.V1.map (fun p=>some p.2),d.M1.map (fun p=>some (Vl ⟨l,0,0⟩ p.2)),true):=by kernel_rfl):Wc { d.ctx P f fn E0 F0 w0 with dfs:=U4 D::(d.ctx P f fn E0 F0 w0).dfs } c:=by
  simp only[Zr]at h;have⟨g,j,m,n,o,q⟩:=h;unfold ZbH at g;split at g
  · exact⟨WP.retM lO i j l m n o q⟩
  · cases g
def RT(c:Nat)(v:lR):Prop:=∃b n,v=.slice b n c
def TO(R:k6 α)(xs:List α)(m:Nat):Lx where
 ok F w v:=∃(b off cap:Nat) (arr:Array lR) (el:lS) (fz:Nat×Nat),v=.slice (some ⟨b,off,none⟩) (xs.length+m) cap/\xs.length+m<=cap/\off+cap*R.sz<=arr.size/\TZ fz arr.size/\w.heap[b]?=some (.cells arr el fz)/\Row R F w xs arr off
 mono {F w F' w' v} g hb h:=by have⟨b,off,cap,arr,el,fz,hv,h1,h2,h3,h4,h5⟩:=h;exact⟨b,off,cap,arr,el,fz,hv,h1,h2,h3,by rw[hb b (by rw[hv];rfl)];exact h4,h5.mono g⟩
 one h:=by have⟨b,off,cap,arr,el,fz,hv,_⟩:=h;rw[hv];rfl
def Uj(R:k6 α)(xs:List α):Lx where
 ok F w v:=xs≠[]/\∃(b cap:Nat) (arr:Array lR) (el:lS),v=.slice (some ⟨b,0,none⟩) xs.length cap/\xs.length<=cap/\cap*R.sz<=arr.size/\w.heap[b]?=some (.cells arr el (0,0))/\Row R F w xs arr 0
 mono {F w F' w' v} g hb h:=by have⟨hne,b,cap,arr,el,hv,h1,h2,h4,h5⟩:=h;exact⟨hne,b,cap,arr,el,hv,h1,h2,by rw[hb b (by rw[hv];rfl)];exact h4,h5.mono g⟩
 one h:=by have⟨_,b,cap,arr,el,hv,_⟩:=h;rw[hv];rfl
section
variable {X:lB}{s:St}{ops:Array lW}{lL:lZ->lQ->Prop}{tt:List (Nat×TD)}
variable {k:Nat}{α:Type}{R:k6 α}
theorem Zmj{ys:List α}(h:Yg s.M k=some (.av (Uj R ys))):Ur X s R ys (.sl k):=fun E F w a d=>by have j:(Uj R ys).ok F w (E.ρ k):=d.hM k _ h;obtain⟨_,b,cap,arr,el,e,_,_,g,i⟩:=j;show LG X.P R F w ys (E.ρ k);rw[e];exact (Rd.of_row g i).src
variable {d:Nat}{fr:Bool}{i:Nat}{o:lW}{lK:List Nat}{t:lS}{x:lV}{xs:List α}
theorem kg.cap(lO:kf X.P tt){q:TD}
  (u:ops[i]?=some o) (y:Y3 ops s.L o=some true) (n:o.op=.call { callee:=.builtin .cap,args:=#[x],argTypes:=#[t] }) (z:o.dst=some d)
  (A:Yr s.L x=some (.c (.sl k))) (r:Yg s.M k=some (.own R xs fr)) (B:Yg tt t=some q) (g:(aO d X.fn.ntmps && aF q.kd 6)=true)
  (C:∀c:Nat,xs.length<=c->kg X ops lK lL ⟨(d,.c (.i .i64 (c:Int)))::s.L,s.M,(k,.fn (RT c))::s.V,s.nx⟩):kg X ops (i::lK) lL s:=by
 intro E F w a h;simp only[Zc]at g;simp only[wpOps,u,S3 h y,mA];have⟨el,D,hz⟩:=(lO.get B).sliceOf g.2;have⟨G,_⟩:=h.eval A;have j:kh R F w xs (E.ρ k):=h.hM k _ r;obtain⟨b,c,e,p⟩:∃b c,E.ρ k=.slice b xs.length c/\xs.length<=c:=by
  rcases j with⟨rfl,e⟩|⟨K,off,cap,arr,el,fz,e,g,_⟩
  ·exact⟨none,0,e,Zq _⟩
  ·exact⟨_,_,e,g⟩
 have m:(lT a.eval o).run X.P w=.ok (.value (.int .i64 (c:Int))) w:=by refine Vu n ?_;simp only[bT,aI,au,G,Yt,Yn,e];exact Xe (by simp[Builtin.cap_,Xl D,goInt])
 refine .inl (XD m (C c p E F _ _ ?_));have H:=h.addFn (k:=k) (Φ:=RT c) (h.wf.hM k _ r).1 ⟨b,_,e⟩;have I:=H.setL (d:=d) (v:=.c (.i .i64 (c:Int))) trivial (Y9 g.1);rw[z];exact I
variable {ik:IntKind}{m:Nat}
theorem Zt0{P:lU}{w:lQ}{el:lS}{es:Nat}{b:Option Addr}{len cap:Nat}(d:P.underlying t=some (.slice el))(hz:(sizeOf el).run P w=.ok es w)(h:m<=cap)(e:cap≠0) :
    (fC t (.slice b len cap) none (some (.int ik (m:Int))) none).run P w=.ok (.slice (b.map (·.add 0)) m cap) w:=by
  have g:¬ cap<m:=by omega
  simp[g,fC,Xl d,Instr.slice,Instr.sliceBounds,Instr.sliceBound,asIntOf,hz,e]
variable {n:Int}{y:lV}
theorem kg.rsl(lO:kf X.P tt){K:TD}{c:Nat}
    (hn:n=((xs.length+m:Nat):Int)) (C:xs.length+m<=c) (N:0<xs.length) (ho:ops[i]?=some o) (hg:Y3 ops s.L o=some true) (O:o.op=.slice t x none (some y) none) (hd:o.dst=some d)
    (hx:Yr s.L x=some (.c (.sl k))) (D:Yg s.M k=some (.own R xs fr)) (hV:Yg s.V k=some (.fn (RT c))) (hy:Yr s.L y=some (.c (.i ik n))) (ht:Yg tt t=some K)
    (hc:(aO d X.fn.ntmps && aF K.kd 6 && aF K.es R.sz)=true)
    (kk:kg X ops lK lL ⟨(d,.c (.sl s.nx))::s.L,(s.nx,.av (TO R xs m))::(k,.gone)::s.M,s.V,s.nx+1⟩):kg X ops (i::lK) lL s:=by
  refine kg.op ho hg (fun E F w a p=>?_) kk;simp only[Zc]at hc;obtain⟨⟨c1,c2⟩,c3⟩:=hc;have c3:=Zd c3;have⟨e1,_⟩:=p.eval hx;have⟨e2,_⟩:=p.eval hy;have⟨el,hu,T⟩:=(lO.get ht).sliceOf c2;have G:kh R F w xs (E.ρ k):=p.hM k _ D;obtain⟨b0,n0,g⟩:RT c (E.ρ k):=p.hV k _ hV;rcases G with⟨rfl,_⟩|⟨b,off,cap,arr,ty,fz,U,hle,W,Y,hh,hr⟩
  · simp at N
  rw[U]at g;have hcc:cap=c:=by simp only[kN]at g;exact g.2.2
  subst hcc;have hv':Value.slice ((some (⟨b,off,none⟩:Addr)).map (·.add 0)) (xs.length+m) cap=.slice (some ⟨b,off,none⟩) (xs.length+m) cap:=by simp[Ww]
  have H:(lT a.eval o).run X.P w=.ok (.value (.slice (some ⟨b,off,none⟩) (xs.length+m) cap)) w:=by simp only[lT,O,e1,Yt,Yn,U,ez,bb,e2,hn];refine Xe ?_;rw[Zt0 hu (T w) C (by omega),hv']
  refine XD H ?_;have⟨hk1,hk2⟩:=p.wf.hM k _ D;have hmf:=p.mF k _ D;have hbk:∀q,YV (.slice (some ⟨b,off,none⟩) (xs.length+m) cap)=some q->YV (E.ρ k)=some q:=fun q r=>by rw[U];exact r
  have z:ky X ⟨s.L,(k,.gone)::s.M,s.V,s.nx⟩ E F w a:=p.setM (m':=.gone) D rfl rfl .m (Zq _) (fun _ _ _=>rfl) (fun b hb=>hb.elim) trivial trivial (fun h=>by cases h);have⟨E',u,s1⟩:=z.newAv (A:=TO R xs m) (v:=.slice (some ⟨b,off,none⟩) (xs.length+m) cap) ⟨b,off,cap,arr,ty,fz,rfl,C,W,Y,hh,hr⟩ (fun q r=>by
    have I:=hbk q r;have⟨g1,g2,g3⟩:=hmf q I;refine⟨g1,g2,g3,fun j m' B hf=>?_⟩;have B:Yg ((k,MO.gone)::s.M) j=some m':=B;rw[YF]at B;split at B
    · cases B;exact hf
    · rename_i Z;exact p.dis j k m' _ B D (fun e=>Z e.symm) q hf I)
  have s2:=s1.setL (d:=d) (v:=.c (.sl s.nx)) (ab _) (Y9 c1);simp only[Yt,Yn]at s2;have u:E'.ρ s.nx=_:=u;rw[u]at s2;rw[hd];exact⟨E',F,s2⟩
variable {l:Nat}
theorem kg.ssp(lO:kf X.P tt){p:TD}
  (I:n=(l:Int)) (hl:l<=xs.length+m) (K:ops[i]?=some o) (N:Y3 ops s.L o=some true) (q:o.op=.slice t x (some y) none none) (O:o.dst=some d)
  (T:Yr s.L x=some (.c (.sl k))) (B:Yg s.M k=some (.av (TO R xs m))) (U:Yr s.L y=some (.c (.i ik n))) (W:Yg tt t=some p)
  (C:(aO d X.fn.ntmps && aF p.kd 6 && aF p.es R.sz)=true)
  (Y:kg X ops lK lL ⟨(d,.c (.sl s.nx))::s.L,s.M,(s.nx,.vw k (some (l:Int)) none R.sz)::s.V,s.nx+1⟩):kg X ops (i::lK) lL s:=by
 refine kg.op K N (fun E F w a e=>?_) Y;simp only[Zc]at C;obtain⟨⟨Z,c2⟩,r⟩:=C;have r:=Zd r;have⟨e1,_⟩:=e.eval T;have⟨e2,_⟩:=e.eval U;have⟨el,hu,u⟩:=(lO.get W).sliceOf c2;obtain⟨b,off,cap,arr,ty,fz,D,z,_⟩:(TO R xs m).ok F w (E.ρ k):=e.hM k _ B;have hp:WK (some (l:Int)) none (xs.length+m)=some (l,xs.length+m):=by
  have h2:(l:Int)<=((xs.length+m:Nat):Int):=by omega
  simp only[WK,bX,Option.getD_none,a8,da,decide_true,h2,Int.le_refl,Bool.and_self,l9]
 have g:(lT a.eval o).run X.P w=.ok (.value (XN (some (l:Int)) none R.sz (E.ρ k))) w:=by simp only[lT,q,e1,Yt,Yn,D,ez,bb,e2,I];refine Xe ?_;have:=Zge (P:=X.P) (w:=w) (b:=some ⟨b,off,none⟩) (lo:=some (ik,(l:Int))) (hi:=none) hu (u w) z hp;simp only[bb,ez]at this;rw[this,r,UP];simp[RQ]
 refine XD g ?_;have G:E.Eqb s.nx (E.setρ s.nx (XN (some (l:Int)) none R.sz (E.ρ k))):=E.eqb_setρ _ _ _ (Zq _);have H:(E.setρ s.nx (XN (some (l:Int)) none R.sz (E.ρ k))).ρ s.nx=XN (some (l:Int)) none R.sz (E.ρ k):=by simp[lC.setρ]
 have h:=(e.wf.hM k _ B).1;have s1:=e.env G (fun j=>by
  simp only[lC.setρ];split
  ·rw[D];rfl
  ·exact e.one j)
 have s2:=s1.addV (f:=.vw k (some (l:Int)) none R.sz) (by show _=XN _ _ _ _;rw[H,(G k h).1]) (Nat.lt_succ_of_lt h)
 have A:=s2.setL (d:=d) (v:=.c (.sl s.nx)) (ab _) (Y9 Z);simp only[Yt,Yn]at A;rw[H]at A;rw[O];exact⟨_,F,A⟩
theorem Zuh{P:lU}{t2 ty:lS}{N:TD}(ok:TD.Ok P t N)(hk:aF N.kd 6=true)(hR:N.es=R.sz){F:YJ}{w:lQ}{b off cap:Nat}{arr:Array lR}{el:lS}{fz:Nat×Nat}(hl:l<xs.length)
  (O:xs.length+1<=cap) (T:off+cap*R.sz<=arr.size) (G:TZ fz arr.size) (U:w.heap[b]?=some (.cells arr el fz)) (hr:Row R F w xs arr off) (hF:¬ F b) :
  ∃w',(gW #[t,t2] ty #[XN (some ((l+1:Nat):Int)) none R.sz (.slice (some ⟨b,off,none⟩) (xs.length+1) cap),XN (some (l:Int)) none R.sz (.slice (some ⟨b,off,none⟩) (xs.length+1) cap)]).run P w=.ok (.int .i64 ((xs.length-l:Nat):Int)) w' /\
   kh R F w' (xs.take (l+1)++xs.drop l) (.slice (some ⟨b,off,none⟩) (xs.length+1) cap)/\w'.os=w.os/\w'.tape=w.tape/\Oq w w'/\w.heap.size<=w'.heap.size/\(∀y,y≠b->w'.heap[y]?=w.heap[y]?):=by
 have⟨i,V,hi,W,_⟩:=ok.slc hk;have q:(sizeOf N.el).run P w=.ok R.sz w:=by simp[sizeOf,typeInfo,hi,W,hR]
 have⟨n,g,o,H⟩:=hr.cellsOf;have e1:XN (some ((l+1:Nat):Int)) none R.sz (.slice (some ⟨b,off,none⟩) (xs.length+1) cap)=.slice (some ⟨b,off+(l+1)*R.sz,none⟩) (xs.length-l) (cap-(l+1)):=by
  rw[UP];have:¬ cap=l+1:=by omega
  simp only[bX,a8,mE this,RQ,bb,Ww];congr 1;omega
 have e2:XN (some (l:Int)) none R.sz (.slice (some ⟨b,off,none⟩) (xs.length+1) cap)=.slice (some ⟨b,off+l*R.sz,none⟩) (xs.length+1-l) (cap-l):=by
  rw[UP];have:¬ cap=l:=by omega
  simp only[bX,a8,mE this,RQ,bb,Ww]
 have I:(n.drop (l*R.sz)).length=(xs.length-l)*R.sz:=by rw[bg,g.1,Nat.sub_mul]
 have K:Nat.min (xs.length+1-l) (xs.length-l)=xs.length-l:=Nat.min_eq_right (by omega);have hm1:(l+1)*R.sz+(xs.length-l)*R.sz=(xs.length+1)*R.sz:=by rw[<-bD];congr 1;omega
 have hcm:(xs.length+1)*R.sz<=cap*R.sz:=aT _ O;have A:(loadCells ⟨b,off+l*R.sz,none⟩ ((xs.length-l)*R.sz)).run P w=.ok (n.drop (l*R.sz)).toArray w:=by
  rw[<-I];exact l6 w _ _ fun j v x=>by rw[Ww,RI U,Nat.add_assoc];rw[List.getElem?_drop]at x;exact o _ v x
 have Y:(bQ R.sz (xs.length-l) (.slice (some ⟨b,off+l*R.sz,none⟩) (xs.length+1-l) (cap-l))).run P w=.ok (n.drop (l*R.sz)).toArray w:=by simp only[bQ];exact A
 have B:=Qb (P:=P) b (off+(l+1)*R.sz) el fz (n.drop (l*R.sz)) 0 arr w U G (by rw[I];omega) (fun u V=>H u (List.mem_of_mem_drop V))
 let d:=(arr.toList.take (off+(l+1)*R.sz+0)++n.drop (l*R.sz)++arr.toList.drop (off+(l+1)*R.sz+0+(n.drop (l*R.sz)).length)).toArray
 have p:d.size=arr.size:=by simp only[d,bW,ae,aL,bg,aq,g.1];rw[<-Nat.sub_mul];omega
 have hg:X3 F w F (w.setRow b d):=⟨fun _ h=>h,fun y z=>l5 w b y _ (fun e=>hF (e▸z))⟩
 have L:kl R F (w.setRow b d) (xs.take (l+1)++xs.drop l) (n.take ((l+1)*R.sz)++n.drop (l*R.sz)):=((g.take (by omega)).append (g.drop l)).mono hg;have C:(n.take ((l+1)*R.sz)).length=(l+1)*R.sz:=by rw[aL,g.1];exact cS (aT _ (by omega))
 have r:∀(j:Nat) u,(n.take ((l+1)*R.sz)++n.drop (l*R.sz))[j]?=some u->d[off+j]?=some u:=by
  intro j u x;have Z:arr.toList.length=arr.size:=aq;have D:(arr.toList.take (off+(l+1)*R.sz)).length=off+(l+1)*R.sz:=by rw[aL,Z];omega
  simp only[d,cW,Nat.add_zero,List.append_assoc];by_cases M:j<(l+1)*R.sz
  ·rw[Zo (by rw[C];exact M),aj,mD M]at x;rw[Zo (by rw[D];omega),aj,mD (by omega)];have:=o j u x;simpa using this
  ·rw[Zp (by rw[C];omega),C]at x;have hjl:=(aE.1 x).1;rw[Zp (by rw[D];omega),D,show off+j-(off+(l+1)*R.sz)=j-(l+1)*R.sz by omega,Zo hjl];exact x
 refine⟨w.setRow b d,?_,.inr ⟨b,off,cap,d,el,fz,?_,?_,by rw[p];exact T,by rw[p];exact G,setRow_heap w b arr _ el fz U,L.row r⟩,rfl,rfl,.m,by simp,fun y z=>l5 w b y _ z⟩
 ·rw[e1,e2];have B:(storeCells ⟨b,off+(l+1)*R.sz,none⟩ (n.drop (l*R.sz)) 0).run P w=.ok () (w.setRow b d):=B;simp[gW,Xl V,eA,q,K,Y,goInt,B]
 ·congr 1;simp;omega
 ·simp;omega
theorem kg.shf(lO:kf X.P tt){t2:lS}{p:TD}{K:Nat}
  (G:l<xs.length) (H:ops[i]?=some o) (I:Y3 ops s.L o=some true) (q:o.op=.call { callee:=.builtin .copy,args:=#[x,y],argTypes:=#[t,t2] }) (N:o.dst=some d)
  (O:Yr s.L x=some (.c (.sl K))) (hV:Yg s.V K=some (.vw k (some ((l+1:Nat):Int)) none R.sz)) (r:Yg s.M k=some (.av (TO R xs 1))) (T:Yr s.L y=some (.c (.sl m))) (u:Yg s.V m=some (.vw k (some (l:Int)) none R.sz)) (U:Yg tt t=some p)
  (C:(aO d X.fn.ntmps && aF p.kd 6 && aF p.es R.sz)=true)
  (W:kg X ops lK lL ⟨(d,.c (.i .i64 ((xs.length-l:Nat):Int)))::s.L,(k,.own R (xs.take (l+1)++xs.drop l) false)::s.M,s.V,s.nx⟩):kg X ops (i::lK) lL s:=by
 refine kg.op H I (fun E F w a g=>?_) W;simp only[Zc]at C;obtain⟨⟨Z,c2⟩,c3⟩:=C;have⟨e1,_⟩:=g.eval O;have⟨e2,_⟩:=g.eval T;have B:=g.mF k _ r;obtain⟨b,off,cap,arr,el,fz,n,h1,h2,h3,h4,h5⟩:(TO R xs 1).ok F w (E.ρ k):=g.hM k _ r;have v1:E.ρ K=XN _ _ _ (E.ρ k):=g.hV K _ hV;have v2:E.ρ m=XN _ _ _ (E.ρ k):=g.hV m _ u;have⟨w',j,A,g1,g2,g3,g4,g5⟩:=Zuh (t2:=t2) (ty:=o.type) (lO.get U) c2 (Zd c3) G h1 h2 h3 h4 h5 (B b (by show YV (E.ρ k)=some b;rw[n];rfl)).1;refine XD (v:=.int .i64 ((xs.length-l:Nat):Int)) (w':=w') (Vu q ?_) ?_
 ·simp only[bT,aI,au,e1,e2,Yt,Yn,v1,v2,n];exact Xe j
 ·have s1:=g.setM (m':=.own R (xs.take (l+1)++xs.drop l) false) r g1 g2 g3 g4 (fun D _ z=>g5 D (fun e=>z (by show YV (E.ρ k)=some D;rw[n,e];rfl))) (fun b Y=>Y) (by show kh R F w' _ (E.ρ k);rw[n];exact A) trivial (fun h=>by cases h);have s2:=s1.setL (d:=d) (v:=.c (.i .i64 ((xs.length-l:Nat):Int))) trivial (Y9 Z);rw[N];exact⟨E,F,s2⟩
theorem kg.apz(O:ki R)(lO:kf X.P tt)(z:α){tn:lS}{u te:TD}{K c q:Nat}
  (hn:n=(q:Int)) (hq:0<q) (hl:l<=xs.length) (hne:0<xs.length) (B:c<l+q) (N:l+q<=lim) (Y:∃kn,X.P.underlying tn=some (.int kn))
  (ho:ops[i]?=some o) (hg:Y3 ops s.L o=some true) (hop:o.op=.call { callee:=.builtin .append,args:=#[x,y],argTypes:=#[t,tn] }) (hd:o.dst=some d)
  (hx:Yr s.L x=some (.c (.sl K))) (hV:Yg s.V K=some (.vw k none (some (l:Int)) R.sz)) (hm:Yg s.M k=some (.own R xs fr)) (hVc:Yg s.V k=some (.fn (RT c))) (hy:Yr s.L y=some (.c (.i ik n)))
  (ht:Yg tt t=some u) (hte:Yg tt u.el=some te) (hk:QO O (Yg s.V) [z] te.z)
  (hc:(aO d X.fn.ntmps && aF u.kd 6 && aF u.es R.sz && aY u.eb 32768 && !te.z.isEmpty)=true)
  (kk:kg X ops lK lL ⟨(d,.c (.sl s.nx))::s.L,(s.nx,.own R (xs.take l++aQ q z) true)::s.M,s.V,s.nx+1⟩):kg X ops (i::lK) lL s:=by
 refine kg.op ho hg (fun E F w a Z=>?_) kk;simp only[Zc]at hc;obtain⟨⟨⟨⟨c1,c2⟩,c3⟩,c4⟩,c5⟩:=hc;have c3:=Zd c3;have c4:=Ze c4;have⟨e1,_⟩:=Z.eval hx;have⟨e2,_⟩:=Z.eval hy;have⟨ie,hu,hie,hsz,heb,hne0,zv,hz,hzs⟩:=(lO.get ht).slc c2;have⟨kn,Y⟩:=Y;have⟨e,hzr,hzc⟩:=HI w (lO.get hte);have hzz:e=zv:=by
  have h1:(zeroValue u.el).run X.P w=.ok zv w:=by simp[zeroValue,typeInfo,hie,hz]
  rw[h1]at hzr;cases hzr;rfl
 subst hzz;have hzne:te.z≠[]:=by intro h;rw[h]at c5;simp at c5
 have hown:kh R F w xs (E.ρ k):=Z.hM k _ hm;obtain⟨b0,n0,C⟩:RT c (E.ρ k):=Z.hV k _ hVc;have hvw:E.ρ K=XN none (some (l:Int)) R.sz (E.ρ k):=Z.hV K _ hV;rcases hown with⟨rfl,_⟩|⟨b,off,cap,arr,ty,fz,hv,hle,hs2,hth,hh,hr⟩
 ·simp at hne
 rw[hv]at C;have hcc:cap=c:=by simp only[kN]at C;exact C.2.2
 subst hcc;have hv':E.ρ K=.slice (some ⟨b,off,none⟩) l cap:=by
  rw[hvw,hv,UP];have h0:¬ cap=0:=by omega
  simp[RQ,h0,Ww]
 have⟨T,U,hcell,hone⟩:=hr.cellsOf;have hm2:l*R.sz<=xs.length*R.sz:=aT _ hl;have D:(T.take (l*R.sz)).length=l*R.sz:=by rw[aL,U.1];exact cS hm2
 have r:ie.size=R.sz:=hsz.trans c3;have hold:(bQ ie.size l (.slice (some ⟨b,off,none⟩) l cap)).run X.P w.drew=.ok (T.take (l*R.sz)).toArray w.drew:=by
  rw[r];simp only[bQ];have:=l6 (P:=X.P) w.drew ⟨b,off,none⟩ (T.take (l*R.sz)) fun j v A=>by
   rw[Ww,RI (w:=w.drew) hh];rw[aj]at A;split at A
   ·exact hcell j v A
   ·cases A
  rw[D]at this;exact this
 unfold lim at N;have I:(l+q)*ie.bytes<=140737488355328:=by rw[heb];exact bV (iJ N c4) (by decide)
 have hqb:q*ie.bytes<=281474976710656:=by have:q*ie.bytes<=(l+q)*ie.bytes:=aT _ (by omega);omega
 have hrun0:=Lib.run_append_grow_zeros (P:=X.P) w t tn o.type u.el ie e ik kn hu Y hie hz (some ⟨b,off,none⟩) l cap (T.take (l*R.sz)) hold q hq (by rw[r];exact R.pos) B (by omega) hqb (growslice_fits B I)
 let G:Array lR:=(T.take (l*R.sz)).toArray++bZ e.cells q++bZ e.cells (grownCap w (l+q) cap u.el-(l+q))
 have hrun:(lT a.eval o).run X.P w=.ok (.value (.slice (some ⟨w.heap.size,0,none⟩) (l+q) (grownCap w (l+q) cap u.el))) (w.drew.alloc (.cells G u.el)):=by refine Vu hop ?_;simp only[bT,aI,au,e1,e2,Yt,Yn,hv',hn];exact Xe hrun0
 refine XD hrun ?_;have H:∀m,(bZ e.cells m).size=m*R.sz:=fun m=>by simp[bZ,hzs,r]
 have hz0:∀w',X3 F w F w'->Row R F w' (aQ q z) (bZ e.cells q) 0:=fun w' g=>by have hrz:=LV O (E:=E) (F:=F) (w:=w) (fun k f h=>Z.hV k f h) hk;refine Znk (hrz.mono g) q ?_ q (Zq _);have:=Zea (hzc E) (q*e.cells.size) (.inr hzne);have hcs:e.cells.size=R.sz:=hzs.trans r;rw[<-hcs];exact this
 have hnc:l+q<=grownCap w (l+q) cap u.el:=bR _ _;have hxl:(xs.take l++aQ q z).length=l+q:=by simp;omega
 have hx:=Z.newRow (R:=R) (xs:=xs.take l++aQ q z) (arr:=G) (ty:=u.el) (cap:=grownCap w (l+q) cap u.el) (fun w' g=>?_) (by rw[hxl];exact hnc) ?_ (d:=d) (Y9 c1) (w2:=w.drew.alloc (.cells G u.el)) rfl rfl rfl .m
 ·rw[hxl]at hx;rw[hd];exact hx
 ·intro j y A;rw[List.getElem?_append]at A;have hlt:(xs.take l).length=l:=by rw[aL];omega
  rw[hlt]at A;split at A
  ·rename_i hjl;rw[aj,mD hjl]at A;have⟨vs,h1,h2⟩:=(U.mono g).2 j y A;refine⟨vs,h1,fun p v hp=>?_⟩;have h3:=h2 p v hp;have hpl:=(aE.1 hp).1;rw[R.len h1]at hpl;have:(j+1)*R.sz<=l*R.sz:=aT _ hjl;rw[bD]at this;have W:j*R.sz+p<l*R.sz:=by omega
   rw[aw];show ((T.take (l*R.sz)).toArray++_++_:Array lR)[j*R.sz+p]?=_;rw[Array.append_assoc,cX (by rw[bW,D];exact W),cW,aj,mD W];exact h3
  ·rename_i hjl;have⟨vs,h1,h2⟩:=hz0 w' g (j-l) y A;refine⟨vs,h1,fun p v hp=>?_⟩;have h3:=h2 p v hp;have hpl:=(aE.1 hp).1;rw[R.len h1]at hpl;have hjq:=(aE.1 A).1;rw[List.length_replicate]at hjq;have hm3:(j-l+1)*R.sz<=q*R.sz:=aT _ (by omega);rw[bD]at hm3;have hm4:l*R.sz+(j-l)*R.sz=j*R.sz:=by rw[<-bD];congr 1;omega
   rw[aw]at h3 ⊢;show ((T.take (l*R.sz)).toArray++_++_:Array lR)[j*R.sz+p]?=_;rw[Array.append_assoc,Array.getElem?_append_right (by rw[bW,D];omega),bW,D,cX (by rw[H];omega)];rw[show j*R.sz+p-l*R.sz=(j-l)*R.sz+p by omega];exact h3
 ·show grownCap w (l+q) cap u.el*R.sz<=((T.take (l*R.sz)).toArray++bZ e.cells q++bZ e.cells (grownCap w (l+q) cap u.el-(l+q))).size;rw[fw,fw,H,H,bW,D,<-bD,<-bD];exact aT _ (by omega)
theorem kg.ovl(lO:kf X.P tt){f:lX}{tR:lS}{ts:Array lS}{I:TD}{h q:Nat}{ys:List α}
  (r:∀(args:Array lR) (w:lQ),(callFunc f args).run X.P w=((gS #[t,t] #[tR] args).run X.P w).andThen fun v w'=>.ok (.value v) w')
  (ho:ops[i]?=some o) (hg:Y3 ops s.L o=some true) (N:o.op=.call { callee:=.value (.func f),args:=#[x,y],argTypes:=ts }) (hd:o.dst=some d)
  (hx:Yr s.L x=some (.c (.sl h))) (u:Yg s.M h=some (.av (Uj R ys))) (hy:Yr s.L y=some (.c (.sl q))) (hV:Yg s.V q=some (.vw k (some (l:Int)) none R.sz)) (hm:Yg s.M k=some (.av (TO R xs m))) (z:aF h k=false) (hpos:0<xs.length+m)
  (ht:Yg tt t=some I) (hc:(aO d X.fn.ntmps && aF I.kd 6 && aF I.es R.sz)=true)
  (kk:kg X ops lK lL ⟨(d,.c (.b false))::s.L,s.M,s.V,s.nx⟩):kg X ops (i::lK) lL s:=by
 refine kg.op ho hg (fun E F w a j=>?_) kk;simp only[Zc]at hc;obtain⟨⟨c1,c2⟩,c3⟩:=hc;have⟨e1,_⟩:=j.eval hx;have⟨e2,_⟩:=j.eval hy;have⟨el,hu,O⟩:=(lO.get ht).sliceOf c2;obtain⟨A,n,K,g,T,B,q1,q2,U,q4⟩:(Uj R ys).ok F w (E.ρ h):=j.hM h _ u;obtain⟨b,off,cap,arr,W,fz,hv,h1,h2,h3,h4,h5⟩:(TO R xs m).ok F w (E.ρ k):=j.hM k _ hm;have Z:E.ρ q=XN (some (l:Int)) none R.sz (E.ρ k):=j.hV q _ hV;have H:n≠b:=fun e=>j.dis h k _ _ u hm (fun e=>by rw[e,eu]at z;cases z) n (by show YV (E.ρ h)=some n;rw[B];rfl) (by show YV (E.ρ k)=some n;rw[hv,e];rfl);have hyl:0<ys.length:=fV.2 A;have hva:0<g.size:=by have:1*1<=K*R.sz:=iJ (by omega) R.pos;omega
 have hba:0<arr.size:=by have:1*1<=cap*R.sz:=iJ (by omega) R.pos;omega
 obtain⟨a2,C,D,Y,G⟩:∃a2 C D,E.ρ q=.slice (some a2) C D/\a2.block=b:=by
  rw[Z,hv,UP];split
  ·exact⟨_,_,_,rfl,rfl⟩
  ·exact⟨_,_,_,rfl,by simp[Ww]⟩
 have p:=Lib.run_overlaps_apart (P:=X.P) w t tR el hu I.es (fun w=>O w) ⟨n,0,none⟩ a2 ys.length K C D (by rw[G];exact H) T W g.size arr.size
  (by simp[jZ,U]) (by rw[G];simp[jZ,h4]) (by omega) (by simp[World.frozen?,U]) (by simp[World.frozen?,U])
 refine XD (v:=.bool false) (w':=w) ?_ ⟨E,F,?_⟩
 ·unfold lT;have ea:(#[x,y]:Array lV).map a.eval=#[.slice (some ⟨n,0,none⟩) ys.length K,.slice (some a2) C D]:=by simp only[bT,aI,au,e1,e2,Yt,Yn,B,Y]
  simp only[N,resolve,fR,Act.eval,invoke,aG,aJ,aD];have:=r #[.slice (some ⟨n,0,none⟩) ys.length K,.slice (some a2) C D] w;rw[p]at this;rw[<-ea]at this;simpa using this
 ·rw[hd];exact j.setL (d:=d) (v:=.c (.b false)) trivial (Y9 c1)
theorem kg.bsp(O:ki R)(lO:kf X.P tt)(xs:List α){t len:Nat}{n B:TD}{e:Array (Nat×lV)}{cs:List SC}
  (ho:ops[i]?=some o) (hg:Y3 ops s.L o=some true) (hop:o.op=.buildSlice t len e) (hd:o.dst=some d) (ht:Yg tt t=some n) (r:Yg tt n.el=some B)
  (hf:WZ (WC n.es len) s.L e.toList (Ve B.z (len*n.es))=some cs) (hk:QO O (Yg s.V) xs cs)
  (hc:(aO d X.fn.ntmps && aF n.kd 6 && aF n.es R.sz && aF xs.length len && aY (len*n.es) 16777216 && !B.z.isEmpty && aO 0 len)=true)
  (k:kg X ops lK lL ⟨(d,.c (.sl s.nx))::s.L,(s.nx,.av (Uj R xs))::s.M,(s.nx,.fn (RX xs.length))::s.V,s.nx+1⟩):kg X ops (i::lK) lL s:=by
 refine kg.op ho hg (fun E F w a C=>?_) k;simp only[Zc]at hc;obtain⟨⟨⟨⟨⟨⟨c1,c2⟩,c3⟩,K⟩,c5⟩,c6⟩,c7⟩:=hc;have c3:=Zd c3;have K:=Zd K;have c5:=Ze c5;have c7:0<len:=Y9 c7;have⟨ie,hu,T,U,_,hn0⟩:=(lO.get ht).slc c2;have hz:(sizeOf n.el).run X.P w=.ok n.es w:=by simp[sizeOf,typeInfo,T,U]
 have⟨z,hzr,hzc⟩:=HI w (lO.get r);have hzl:B.z.length=n.es:=by have h1:=(lO.get r).2.2.2;have⟨i',z',W,hs',_⟩:=(lO.get r).info;rw[T]at W;cases W;rw[h1,<-hs',U]
 have G:B.z≠[]:=by intro h;rw[h]at c6;simp at c6
 have⟨p,hfl,D,hkb⟩:=Dn C (WC n.es len) (fun i=>some (i*n.es,n.es)) (fun i o sz g hi=>by
   have:=Za5 _ _ _ _ hi;simp only[Zr]at this;rw[this.1,this.2.1]) e.toList (Ve B.z (len*n.es)) cs
   ((Array.range (len*n.es)).map fun i=>z.cells[i%z.cells.size]!) hf (by intro y hy;simp only[Ve,aM]at hy;obtain⟨j,_,rfl⟩:=hy;have hm:j%B.z.length<B.z.length:=Nat.mod_lt _ (fV.2 G);simp only[List.getD,Za hm,bX];exact Dt (lO.get r) _ (b9 hm)) (Zea (hzc E) _ (.inr G))
 have H:=LV O (E:=E) (F:=F) (w:=w) (fun k f h=>C.hV k f h) hk;have hpos:0<n.es:=by rw[c3];exact R.pos
 have h0:¬ len*n.es=0:=Nat.mul_ne_zero (by omega) (by omega);have Y:(lT a.eval o).run X.P w=.ok (.value (.slice (some ⟨w.heap.size,0,none⟩) len len)) (w.alloc (.cells p n.el)):=by
  simp only[lT,hop];refine Xe ?_;have Z:(e.map fun (i,x)=>(i,a.eval x)).toList=e.toList.map fun (i,x)=>(i,a.eval x):=by simp
  have hne:¬ (2 ^ 24<len*n.es):=by omega
  simp only[Instr.buildSlice,aG,Xl hu,aD,hz,Z];simp[h0,hne,hzr,hfl,newRow]
 refine XD Y ?_;obtain⟨w2,q⟩:∃w2,w.alloc (.cells p n.el)=w2:=⟨_,rfl⟩
 have I:∀b,b<w.heap.size->w2.heap[b]?=w.heap[b]?:= fun b N=>by rw[<-q];exact heap_alloc_old w _ (h:=N)
 have hnew:w2.heap[w.heap.size]?=some (.cells p n.el):=by rw[<-q];exact heap_alloc_new w _
 have hsize:w2.heap.size=w.heap.size+1:=by rw[<-q];simp
 have s1:=C.world (w':=w2) (by rw[<-q];rfl) (by rw[<-q];rfl) (by rw[<-q];exact .m) (by omega) I;have hg:X3 F w F w2:=⟨fun _ h=>h,fun b N=>I b (C.hF b N)⟩
 have hr0:Row R F w2 xs p 0:=(H.mono hg).row (off:=0) (fun j v hj=>by rw[aw,<-Array.getElem?_toList,D];exact hj);have⟨E',u,s2⟩:=s1.newAv (A:=Uj R xs) (v:=.slice (some ⟨w.heap.size,0,none⟩) len len) ⟨by intro h;rw[h]at K;simp at K;omega,w.heap.size,len,p,n.el,by rw[K],by omega,by rw[<-aq,D,H.1,K];exact Zq _,hnew,hr0⟩ (fun b N=>by cases N;exact⟨fun hF=>bj _ (C.hF _ hF),fun hz=>bj _ (Zh (C.hZ _ hz) C.ext.size),by show w.heap.size<_;omega,fun j m' hj hf=>bj _ (C.mF j m' hj _ hf).2.2⟩)
 have u:E'.ρ s.nx=_:=u;have s3:=s2.addFn (k:=s.nx) (Φ:=RX xs.length) (ab _) ⟨some ⟨w.heap.size,0,none⟩,len,by rw[u,K]⟩;have s4:=s3.setL (d:=d) (v:=.c (.sl s.nx)) (ab _) (Y9 c1);simp only[Yt,Yn]at s4;rw[u]at s4;rw[hd,q];exact⟨E',F,s4⟩
end
section
variable {X:lB}{tt:List (Nat×TD)}
def dKc(n:Nat)(c:Cf):Dl:=⟨[(YS c,.c (.i .i64 (n:Int)))],[],[(YA (Yo c 0),.fn (RT n))],0⟩
variable {c:Cf}{fr:Bool}{α:Type}{R:k6 α}{xs:List α}
theorem eKc(lO:kf X.P tt)(h:∀n:Nat,xs.length<=n->Wc X (Xh (dKc n c) c))
  (d:(hB X.fn.ntmps c,(Yf c).dst,Tw c,(Yf c).op,Yo c 0,Yg (Yk c).M (YA (Yo c 0)),Yg tt (Yq (Yf c).op),sl6 tt X.fn.ntmps c) =
   (true,some (YS c),true,.call { callee:=.builtin .cap,args:=#[Yx (Yf c).op 0],argTypes:=#[Yq (Yf c).op] },some (.c (.sl (YA (Yo c 0)))),some (.own R xs fr),some (YC tt (Yq (Yf c).op)),true):=by kernel_rfl):Wc X c:=by simp only[Zr]at d;have⟨o,p,q,r,u,v,w,x⟩:=d;have⟨y,g⟩:=Xm o;refine Wc.inn y q (fun ops i k s e j m=>?_);subst e;exact kg.cap lO j m r p u v w x fun n g=>(h n g).1
def dKr(R:k6 α)(xs:List α)(m:Nat)(c:Cf):Dl:=⟨[(YS c,.c (.sl (Yk c).nx))],[((Yk c).nx,.av (TO R xs m)),(YA (Yo c 0),.gone)],[],1⟩
def hiY(c:Cf):lV:=(UZ (Yf c).op).getD (.const (.bool true))
def loY(c:Cf):lV:=(U3 (Yf c).op).getD (.const (.bool true))
variable {n:Int}
theorem eKr{cp:Nat}(lO:kf X.P tt)(m:Nat)(q:n=((xs.length+m:Nat):Int))(e:xs.length+m<=cp)(g:0<xs.length)(r:Wc X (Xh (dKr R xs m c) c))
  (o:(hB X.fn.ntmps c,(Yf c).dst,(Yf c).op,Yo c 0,Yg (Yk c).M (YA (Yo c 0)),Yg (Yk c).V (YA (Yo c 0)),Yr (Yk c).L (hiY c),Yg tt (Yq (Yf c).op),Sx tt R.sz c) =
   (true,some (YS c),.slice (Yq (Yf c).op) (Yx (Yf c).op 0) none (some (hiY c)) none,some (.c (.sl (YA (Yo c 0)))),some (.own R xs fr),some (.fn (RT cp)),some (.c (.i (UC (Yr (Yk c).L (hiY c))) n)),some (YC tt (Yq (Yf c).op)),true):=by kernel_rfl):Wc X c:=by simp only[Zr]at o;have⟨w,p,x,y,z,A,B,C,D⟩:=o;have⟨F,j⟩:=Xm w;exact Wc.ev (d:=dKr R xs m c) F (Xs p rfl) (fun nk E0 F0 w0 n0 Z lK K u v h=>kg.rsl (X:=X.var nk E0 F0 w0 n0 Z) lO q e g u v x p y z A B C (Qd D j) h) r
theorem L6{m:Nat}(lO:kf X.P tt)(l:Nat)(o:n=(l:Int))(p:l<=xs.length+m)(q:Wc X (Xh ⟨[(YS c,.c (.sl (Yk c).nx))],[],[((Yk c).nx,.vw (YA (Yo c 0)) (some (l:Int)) none R.sz)],1⟩ c))
  (g:(hB X.fn.ntmps c,(Yf c).dst,(Yf c).op,Yo c 0,Yg (Yk c).M (YA (Yo c 0)),Yr (Yk c).L (loY c),Yg tt (Yq (Yf c).op),Sx tt R.sz c) =
   (true,some (YS c),.slice (Yq (Yf c).op) (Yx (Yf c).op 0) (some (loY c)) none none,some (.c (.sl (YA (Yo c 0)))),some (.av (TO R xs m)),some (.c (.i (UC (Yr (Yk c).L (loY c))) n)),some (YC tt (Yq (Yf c).op)),true):=by kernel_rfl):Wc X c:=by simp only[Zr]at g;have⟨v,j,w,x,y,z,A,B⟩:=g;have⟨C,e⟩:=Xm v;exact Wc.ev (d:=⟨[(YS c,.c (.sl (Yk c).nx))],[],[((Yk c).nx,.vw (YA (Yo c 0)) (some (l:Int)) none R.sz)],1⟩) C (Xs j rfl) (fun nk E0 F0 w0 n0 Z lK K r u h=>kg.ssp (X:=X.var nk E0 F0 w0 n0 Z) lO o p r u w j x y z A (Qd B e) h) q
theorem eKh(lO:kf X.P tt)(k l:Nat)(m:l<xs.length)(n:Wc X (Xh ⟨[(YS c,.c (.i .i64 ((xs.length-l:Nat):Int)))],[(k,.own R (xs.take (l+1)++xs.drop l) false)],[],0⟩ c))
  (g:(hB X.fn.ntmps c,(Yf c).dst,(Yf c).op,Yo c 0,Yg (Yk c).V (YA (Yo c 0)),Yg (Yk c).M k,Yo c 1,Yg (Yk c).V (YA (Yo c 1)),Yg tt (Yq (Yf c).op),Sx tt R.sz c) =
   (true,some (YS c),.call { callee:=.builtin .copy,args:=#[Yx (Yf c).op 0,Yx (Yf c).op 1],argTypes:=#[Yq (Yf c).op,XB (Yf c).op] },some (.c (.sl (YA (Yo c 0)))),some (.vw k (some ((l+1:Nat):Int)) none R.sz),some (.av (TO R xs 1)),some (.c (.sl (YA (Yo c 1)))),some (.vw k (some (l:Int)) none R.sz),some (YC tt (Yq (Yf c).op)),true):=by kernel_rfl):Wc X c:=by simp only[Zr]at g;have⟨q,j,r,u,v,w,x,y,z,e⟩:=g;have⟨A,B⟩:=Xm q;exact Wc.ev (d:=⟨[(YS c,.c (.i .i64 ((xs.length-l:Nat):Int)))],[(k,.own R (xs.take (l+1)++xs.drop l) false)],[],0⟩) A (Xs j rfl) (fun nk E0 F0 w0 n0 Z lK K o p h=>kg.shf (X:=X.var nk E0 F0 w0 n0 Z) lO m o p r j u v w x y z (Qd e B) h) n
variable {ys:List α}
theorem eKo{m l f:Nat}{t tR:lS}(lO:kf X.P tt)(k:Nat)(e:∀(args:Array lR) (w:lQ),(callFunc f args).run X.P w=((gS #[t,t] #[tR] args).run X.P w).andThen fun v w'=>.ok (.value v) w')
  (g:0<xs.length+m) (p:Wc X (Xh (d1 c (.c (.b false))) c))
  (n:(hB X.fn.ntmps c,(Yf c).dst,(Yf c).op,Yo c 0,Yg (Yk c).M (YA (Yo c 0)),Yo c 1,Yg (Yk c).V (YA (Yo c 1)),Yg (Yk c).M k,aF (YA (Yo c 0)) k,Yg tt t,(aF (YC tt t).kd 6 && aF (YC tt t).es R.sz)) =
   (true,some (YS c),.call { callee:=.value (.func f),args:=#[Yx (Yf c).op 0,Yx (Yf c).op 1],argTypes:=tsO (Yf c).op },some (.c (.sl (YA (Yo c 0)))),some (.av (Uj R ys)),some (.c (.sl (YA (Yo c 1)))),some (.vw k (some (l:Int)) none R.sz),some (.av (TO R xs m)),false,some (YC tt t),true):=by kernel_rfl):Wc X c:=by simp only[Zr]at n;have⟨u,o,x,y,z,A,B,C,D,i,j⟩:=n;have⟨F,G⟩:=Xm u;exact Wc.ev (d:=d1 c (.c (.b false))) F (Xs o rfl) (fun nk E0 F0 w0 n0 Z lK K q r h=>kg.ovl (X:=X.var nk E0 F0 w0 n0 Z) lO e q r x o y z A B C D g i (by rw[G];simpa using j) h) p
theorem eKz{cp:Nat}{tn:lS}(lO:kf X.P tt)(O:ki R)(z:α)(k l q:Nat)(y:n=(q:Int))(A:0<q)(B:l<=xs.length)(j:0<xs.length)(e:cp<l+q)(g:l+q<=lim)(m:∃kn,X.P.underlying tn=some (.int kn))
  (C:Wc X (Xh ⟨[(YS c,.c (.sl (Yk c).nx))],[((Yk c).nx,.own R (xs.take l++aQ q z) true)],[],1⟩ c))
  (w:(hB X.fn.ntmps c,(Yf c).dst,(Yf c).op,Yo c 0,Yg (Yk c).V (YA (Yo c 0)),Yg (Yk c).M k,Yg (Yk c).V k,Yo c 1,Yg tt (Yq (Yf c).op),Yg tt (YC tt (Yq (Yf c).op)).el,Mg O (Yg (Yk c).V) [z] (YC tt (YC tt (Yq (Yf c).op)).el).z,Mf R.sz [z] (YC tt (YC tt (Yq (Yf c).op)).el).z,
    (aF (YC tt (Yq (Yf c).op)).kd 6 && aF (YC tt (Yq (Yf c).op)).es R.sz && aY (YC tt (Yq (Yf c).op)).eb 32768 && !(YC tt (YC tt (Yq (Yf c).op)).el).z.isEmpty)) =
   (true,some (YS c),.call { callee:=.builtin .append,args:=#[Yx (Yf c).op 0,Yx (Yf c).op 1],argTypes:=#[Yq (Yf c).op,tn] },some (.c (.sl (YA (Yo c 0)))),some (.vw k none (some (l:Int)) R.sz),some (.own R xs fr),some (.fn (RT cp)),some (.c (.i (UC (Yo c 1)) n)),some (YC tt (Yq (Yf c).op)),some (YC tt (YC tt (Yq (Yf c).op)).el),Mh O (Yg (Yk c).V) [z] (YC tt (YC tt (Yq (Yf c).op)).el).z,[],true):=by kernel_rfl):Wc X c:=by simp only[Zr]at w;have⟨G,x,H,I,L,N,T,U,W,o,p,r,u⟩:=w;have⟨Y,v⟩:=Xm G;exact Wc.ev (d:=⟨[(YS c,.c (.sl (Yk c).nx))],[((Yk c).nx,.own R (xs.take l++aQ q z) true)],[],1⟩) Y (Xs x rfl) (fun nk E0 F0 w0 n0 Z lK K D F h=>kg.apz (X:=X.var nk E0 F0 w0 n0 Z) O lO z y A B j e g m D F H x I L N T U W o (HH p r) (by rw[v];simpa using u) h) C
theorem eKa{zs:List α}(lO:kf X.P tt)(R:k6 α)(hz:Y8 xs ys=some zs)(k:Wc X (nAp R zs c))
  (g:(hB X.fn.ntmps c,(Yf c).dst,(Yf c).op,Yo c 0,Yg (Yk c).M (YA (Yo c 0)),Yo c 1,Yg tt (Yq (Yf c).op),Yg tt (XB (Yf c).op),(aF (YC tt (Yq (Yf c).op)).kd 6 && (aF (YC tt (XB (Yf c).op)).kd 6 || aF (YC tt (XB (Yf c).op)).kd 2) && aF (YC tt (Yq (Yf c).op)).es R.sz && aY (YC tt (Yq (Yf c).op)).eb 32768),Yg (Yk c).M (YA (Yo c 1)))=(true,some (YS c),.call { callee:=.builtin .append,args:=#[Yx (Yf c).op 0,Yx (Yf c).op 1],argTypes:=#[Yq (Yf c).op,XB (Yf c).op] },some (.c (.sl (YA (Yo c 0)))),some (.own R xs (WT (Yg (Yk c).M (YA (Yo c 0))))),some (.c (.sl (YA (Yo c 1)))),some (YC tt (Yq (Yf c).op)),some (YC tt (XB (Yf c).op)),true,some (.av (Uj R ys))):=by kernel_rfl):Wc X c:=by simp only[Zr]at g;have⟨n,i,o,p,q,r,u,v,w,e⟩:=g;have⟨x,y⟩:=Xm n;exact Wc.ev (d:=dAp R zs c) x (Xs i rfl) (fun nk E0 F0 w0 n0 Z lK K j m h=>kg.app (X:=X.var nk E0 F0 w0 n0 Z) lO hz (Zmj e) j m o i p q r u v (by rw[y];simpa using w) h) k
theorem eKw{lo hi:Option Int}{r:List α×Int}(lO:kf X.P tt)(R:k6 α)(hz:RK xs lo hi ys=some r)(k:Wc X (nCw R r c))
  (g:(hB X.fn.ntmps c,(Yf c).dst,(Yf c).op,Yo c 0,Yg (Yk c).M (Xw (Yg (Yk c).V (YA (Yo c 0)))),Yo c 1,Yg tt (Yq (Yf c).op),Sx tt R.sz c,Yg (Yk c).M (YA (Yo c 1)),Yg (Yk c).V (YA (Yo c 0)))=(true,some (YS c),.call { callee:=.builtin .copy,args:=#[Yx (Yf c).op 0,Yx (Yf c).op 1],argTypes:=#[Yq (Yf c).op,XB (Yf c).op] },some (.c (.sl (YA (Yo c 0)))),some (.own R xs (WT (Yg (Yk c).M (Xw (Yg (Yk c).V (YA (Yo c 0))))))),some (.c (.sl (YA (Yo c 1)))),some (YC tt (Yq (Yf c).op)),true,some (.av (Uj R ys)),some (.vw (Xw (Yg (Yk c).V (YA (Yo c 0)))) lo hi R.sz)):=by kernel_rfl):Wc X c:=by simp only[Zr]at g;have⟨n,i,o,p,q,u,v,w,x,e⟩:=g;have⟨y,z⟩:=Xm n;exact Wc.ev (d:=dCw R r c) y (Xs i rfl) (fun nk E0 F0 w0 n0 Z lK K j m h=>kg.cp (X:=X.var nk E0 F0 w0 n0 Z) lO hz (Zmj x) j m o i p (.inl e) q u v (Qd w z) h) k
theorem eKb(lO:kf X.P tt)(O:ki R)(xs:List α)(k:Wc X (Xh ⟨[(YS c,.c (.sl (Yk c).nx))],[((Yk c).nx,.av (Uj R xs))],[((Yk c).nx,.fn (RX xs.length))],1⟩ c))
  (g:(hB X.fn.ntmps c,(Yf c).dst,(Yf c).op,Yg tt (Yq (Yf c).op),Yg tt (YC tt (Yq (Yf c).op)).el,(WZ (WC (YC tt (Yq (Yf c).op)).es (Wq (Yf c).op)) (Yk c).L (TL (Yf c).op).toList (Ve (YC tt (YC tt (Yq (Yf c).op)).el).z (Wq (Yf c).op*(YC tt (Yq (Yf c).op)).es))),Mg O (Yg (Yk c).V) xs ((WZ (WC (YC tt (Yq (Yf c).op)).es (Wq (Yf c).op)) (Yk c).L (TL (Yf c).op).toList (Ve (YC tt (YC tt (Yq (Yf c).op)).el).z (Wq (Yf c).op*(YC tt (Yq (Yf c).op)).es))).getD []),Mf R.sz xs ((WZ (WC (YC tt (Yq (Yf c).op)).es (Wq (Yf c).op)) (Yk c).L (TL (Yf c).op).toList (Ve (YC tt (YC tt (Yq (Yf c).op)).el).z (Wq (Yf c).op*(YC tt (Yq (Yf c).op)).es))).getD []),
    (aF (YC tt (Yq (Yf c).op)).kd 6 && aF (YC tt (Yq (Yf c).op)).es R.sz && aF xs.length (Wq (Yf c).op) && aY (Wq (Yf c).op*(YC tt (Yq (Yf c).op)).es) 16777216 && !(YC tt (YC tt (Yq (Yf c).op)).el).z.isEmpty && aO 0 (Wq (Yf c).op))) =
   (true,some (YS c),.buildSlice (Yq (Yf c).op) (Wq (Yf c).op) (TL (Yf c).op),some (YC tt (Yq (Yf c).op)),some (YC tt (YC tt (Yq (Yf c).op)).el),some ((WZ (WC (YC tt (Yq (Yf c).op)).es (Wq (Yf c).op)) (Yk c).L (TL (Yf c).op).toList (Ve (YC tt (YC tt (Yq (Yf c).op)).el).z (Wq (Yf c).op*(YC tt (Yq (Yf c).op)).es))).getD []),Mh O (Yg (Yk c).V) xs ((WZ (WC (YC tt (Yq (Yf c).op)).es (Wq (Yf c).op)) (Yk c).L (TL (Yf c).op).toList (Ve (YC tt (YC tt (Yq (Yf c).op)).el).z (Wq (Yf c).op*(YC tt (Yq (Yf c).op)).es))).getD []),[],true):=by kernel_rfl):Wc X c:=by simp only[Zr]at g;have⟨n,i,o,p,q,r,u,v,e⟩:=g;have⟨w,x⟩:=Xm n;exact Wc.ev (d:=⟨[(YS c,.c (.sl (Yk c).nx))],[((Yk c).nx,.av (Uj R xs))],[((Yk c).nx,.fn (RX xs.length))],1⟩) w (Xs i rfl) (fun nk E0 F0 w0 n0 Z lK K j m h=>kg.bsp (X:=X.var nk E0 F0 w0 n0 Z) O lO xs j m o i p q r (HH u v) (by rw[x];simpa using e) h) k
end
end
end Go.Kx
