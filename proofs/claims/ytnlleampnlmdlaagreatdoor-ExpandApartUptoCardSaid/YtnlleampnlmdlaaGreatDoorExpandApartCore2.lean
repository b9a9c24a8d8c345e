/- Aids for the walks, part 2: a symbolic state of the machine, and that each step of the machine keeps it. -/
import Derived.Laws.Append
import Derived.Deep.Quiet
import Derived.Laws.StructEq
import Derived.ChangeKeysEq
import Derived.Orders
import Derived.Laws.BytesString
import Derived.Laws.IdiomStrings
import Derived.Laws.Externs
import Derived.Test.YtnlleampnlmdlaaGreatDoorExpandApartCore1
set_option linter.all false
section
namespace Go.Kx
variable [LxP]
def RowL {α:Type} (R:TRep α) (F:FSet) (w:World) (xs:List α) (ns:List Value):Prop :=
 ns.length=xs.length * R.sz∧∀ (i:Nat) (x:α),xs[i]? = some x→∃ vs,R.rep F w x vs∧∀ (j:Nat) (v:Value),vs[j]? = some v→ns[i * R.sz+j]? = some v
def Rd {α:Type} (P:Program) (R:TRep α) (F:FSet) (w:World) (xs:List α) (v:Value):Prop :=
 ∃ b c ns,v=.slice b xs.length c∧RowL R F w xs ns∧(∀ m w',m≤xs.length→w'.heap=w.heap→(Builtin.firstCells R.sz m v).run P w'=.ok (ns.take (m * R.sz)).toArray w')∧∀ u∈ns,u.oneCell'=true
theorem Row.cellsOf {α:Type} {R:TRep α} {F w} {xs:List α} {arr:Array Value} {off:Nat} (h:Row R F w xs arr off) :
  ∃ ns:List Value,RowL R F w xs ns∧(∀ (j:Nat) v,ns[j]? = some v→arr[off+j]? = some v)∧∀ u∈ns,u.oneCell'=true:=by
 induction xs generalizing off with
 | nil=>exact ⟨[],⟨by simp,by simp⟩,by simp,by simp⟩
 | cons x xs ih =>
  obtain ⟨vs,hr,hv⟩:=h 0 x rfl
  have hl:=R.len hr
  obtain ⟨ns,⟨h1,h2⟩,h3,h4⟩:=ih (off:=off+R.sz) (fun i y hy=>by
   obtain ⟨us,hu,huv⟩:=h (i+1) y (by simpa using hy)
   refine ⟨us,hu,fun j v hj=>?_⟩
   have:=huv j v hj
   rw [show off+R.sz+i * R.sz+j=off+(i+1) * R.sz+j by rw [Nat.add_mul];omega]
   exact this)
  refine ⟨vs++ns,⟨by rw [List.length_append,hl,h1,List.length_cons,Nat.add_mul];omega,fun i y hy=>?_⟩,fun j v hj=>?_,fun u hu=>?_⟩
  ·cases i with
   | zero =>
    simp only [List.getElem?_cons_zero,Option.some.injEq] at hy
    subst hy
    refine ⟨vs,hr,fun j v hj=>?_⟩
    rw [Nat.zero_mul,Nat.zero_add,List.getElem?_append_left (List.getElem?_eq_some_iff.1 hj).1]
    exact hj
   | succ i =>
    obtain ⟨us,hu,huv⟩:=h2 i y (by simpa using hy)
    refine ⟨us,hu,fun j v hj=>?_⟩
    have:=huv j v hj
    rw [List.getElem?_append_right (by rw [hl,Nat.add_mul];omega),hl,show (i+1) * R.sz+j-R.sz=i * R.sz+j by rw [Nat.add_mul];omega]
    exact this
  ·rw [List.getElem?_append] at hj
   split at hj
   ·have:=hv j v hj
    rw [Nat.zero_mul,Nat.add_zero] at this
    exact this
   ·rename_i hge
    have:=h3 _ v hj
    rw [hl] at this hge
    rw [show off+R.sz+(j-R.sz)=off+j by omega] at this
    exact this
  ·rcases List.mem_append.1 hu with hu | hu
   ·exact R.one hr u hu
   ·exact h4 u hu
theorem Rd.of_row {α:Type} {P:Program} {R:TRep α} {F w} {xs:List α} {arr:Array Value} {off b cap:Nat} {ty:TypeId} {fz:Nat × Nat} (hh:w.heap[b]? = some (.cells arr ty fz)) (h:Row R F w xs arr off) :
  Rd P R F w xs (.slice (some ⟨b,off,none⟩) xs.length cap):=by
 obtain ⟨ns,h1,h2,h3⟩:=h.cellsOf
 refine ⟨_,_,ns,rfl,h1,fun m w' hm hw=>?_,h3⟩
 simp only [Builtin.firstCells]
 have hl:(ns.take (m * R.sz)).length=m * R.sz:=by
  rw [List.length_take,h1.1];exact Nat.min_eq_left (Nat.mul_le_mul_right _ hm)
 have:=run_loadCells_list (P:=P) w' ⟨b,off,none⟩ (ns.take (m * R.sz)) fun j v hj=>by
  rw [addr_add,cell_at (by rw [hw];exact hh)]
  rw [List.getElem?_take] at hj
  split at hj
  ·exact h2 j v hj
  ·cases hj
 rw [hl] at this
 exact this
theorem Rd.of_nil {α:Type} {P:Program} {R:TRep α} {F w}:Rd P R F w ([]:List α) (.slice none 0 0) :=
 ⟨_,_,[],rfl,⟨by simp,by simp⟩,fun m w' _ _=>by simp [Builtin.firstCells],by simp⟩
theorem Rd.of_sl {α:Type} {P:Program} {R:TRep α} {F w} {xs:List α} {v:Value} (h:SlR R F w xs v):Rd P R F w xs v:=by
 rcases h with ⟨rfl,a,c,rfl⟩ | ⟨b,off,cap,arr,ty,fz,rfl,_,_,hh,hr⟩
 ·refine ⟨a,c,[],rfl,⟨by simp,by simp⟩,fun m w' hm _=>?_,by simp⟩
  have:m=0:=by simpa using hm
  subst this
  cases a with
  | none=>simp [Builtin.firstCells]
  | some a =>
   simp only [Builtin.firstCells,Nat.zero_mul,List.take_zero]
   exact run_loadCells_list w' a [] (by simp)
 ·exact .of_row hh hr
theorem Rd.of_own {α:Type} {P:Program} {R:TRep α} {F w} {xs:List α} {v:Value} (h:OwnR R F w xs v):Rd P R F w xs v:=by
 rcases h with ⟨rfl,rfl⟩ | ⟨b,off,cap,arr,ty,fz,rfl,_,_,_,hh,hr⟩
 ·exact .of_nil
 ·exact .of_row hh hr
def Src {α:Type} (P:Program) (R:TRep α) (F:FSet) (w:World) (xs:List α) (v:Value):Prop :=
 ∃ ns,RowL R F w xs ns∧(∀ w',(Builtin.lenOf v).run P w'=.ok xs.length w')∧(∀ m w',m≤xs.length→w'.heap=w.heap→(Builtin.firstCells R.sz m v).run P w'=.ok (ns.take (m * R.sz)).toArray w')∧∀ u∈ns,u.oneCell'=true
theorem Rd.src {α:Type} {P:Program} {R:TRep α} {F w} {xs:List α} {v:Value} (h:Rd P R F w xs v):Src P R F w xs v:=by
 obtain ⟨b,c,ns,rfl,h1,h2,h3⟩:=h
 exact ⟨ns,h1,fun w'=>by simp [Builtin.lenOf],h2,h3⟩
theorem RowL.append {α:Type} {R:TRep α} {F w} {xs ys:List α} {ms ns:List Value} (h1:RowL R F w xs ms) (h2:RowL R F w ys ns):RowL R F w (xs++ys) (ms++ns):=by
 refine ⟨by rw [List.length_append,List.length_append,h1.1,h2.1,Nat.add_mul],fun i x hx=>?_⟩
 rw [List.getElem?_append] at hx
 split at hx
 ·rename_i hlt
  obtain ⟨vs,hr,hv⟩:=h1.2 i x hx
  refine ⟨vs,hr,fun j v hj=>?_⟩
  have:=hv j v hj
  rw [List.getElem?_append_left (List.getElem?_eq_some_iff.1 this).1]
  exact this
 ·rename_i hge
  obtain ⟨vs,hr,hv⟩:=h2.2 _ x hx
  refine ⟨vs,hr,fun j v hj=>?_⟩
  have:=hv j v hj
  have hge:=Nat.not_lt.1 hge
  have hm:xs.length * R.sz≤i * R.sz:=Nat.mul_le_mul_right _ hge
  rw [List.getElem?_append_right (by rw [h1.1];omega),h1.1]
  rw [Nat.sub_mul] at this
  rw [show i * R.sz+j-xs.length * R.sz=i * R.sz-xs.length * R.sz+j by omega]
  exact this
theorem RowL.row {α:Type} {R:TRep α} {F w} {xs:List α} {ns:List Value} (h:RowL R F w xs ns) {arr:Array Value} {off:Nat} (hc:∀ (j:Nat) v,ns[j]? = some v→arr[off+j]? = some v):Row R F w xs arr off :=
 fun i x hx=>let ⟨vs,hr,hv⟩:=h.2 i x hx;⟨vs,hr,fun j v hj=>by rw [Nat.add_assoc];exact hc _ v (hv j v hj)⟩
theorem RowL.mono {α:Type} {R:TRep α} {F w F' w'} {xs:List α} {ns:List Value} (g:Grow F w F' w') (h:RowL R F w xs ns):RowL R F' w' xs ns :=
 ⟨h.1,fun i x hx=>let ⟨vs,hr,hv⟩:=h.2 i x hx;⟨vs,R.mono g hr,hv⟩⟩
def lim:Nat:=4294967296
def appL {α:Type} (xs ys:List α):Option (List α):=bif Nat.ble (xs.length+ys.length) lim then some (xs++ys) else none
theorem app_ok {α:Type} {xs ys zs:List α} (h:appL xs ys=some zs):zs=xs++ys∧xs.length+ys.length≤lim:=by
 unfold appL at h
 cases hb:Nat.ble (xs.length+ys.length) lim with
 | false=>rw [hb] at h;cases h
 | true=>rw [hb] at h;cases h;exact ⟨rfl,Nat.le_of_ble_eq_true hb⟩
theorem thaw_zero (n:Nat):ThawAt (0,0) n:=fun j _=>by simp
def OwnQ {α:Type} (Q:Nat→TypeId→Prop) (R:TRep α) (F:FSet) (w:World) (xs:List α) (v:Value):Prop :=
 (xs=[]∧v=.slice none 0 0)∨∃ (b off cap:Nat) (arr:Array Value) (el:TypeId) (fz:Nat × Nat),Q off el∧v=.slice (some ⟨b,off,none⟩) xs.length cap∧xs.length≤cap ∧
  off+cap * R.sz≤arr.size∧ThawAt fz arr.size∧w.heap[b]? = some (.cells arr el fz)∧Row R F w xs arr off
theorem OwnQ.own {α:Type} {Q:Nat→TypeId→Prop} {R:TRep α} {F:FSet} {w:World} {xs:List α} {v:Value} (h:OwnQ Q R F w xs v):OwnR R F w xs v:=by
 rcases h with h | ⟨b,off,cap,arr,el,fz,_,h⟩
 ·exact .inl h
 ·exact .inr ⟨b,off,cap,arr,el,fz,h⟩
theorem OwnR.q {α:Type} {R:TRep α} {F:FSet} {w:World} {xs:List α} {v:Value} (h:OwnR R F w xs v):OwnQ (fun _ _=>True) R F w xs v:=by
 rcases h with h | ⟨b,off,cap,arr,el,fz,h⟩
 ·exact .inl h
 ·exact .inr ⟨b,off,cap,arr,el,fz,trivial,h⟩
theorem run_append_ownq {α:Type} (Q:Nat→TypeId→Prop) {P:Program} {t t2 ty:TypeId} {td:TD} (hQ:Q 0 td.el) (hu2:P.underlying t2=some .string∨∃ e2,P.underlying t2=some (.slice e2)) (ok:TD.Ok P t td) (hk:Nat.beq td.kd 6=true) {R:TRep α} (hR:td.es=R.sz) {F:FSet} {w:World} {xs ys:List α} {v sv:Value}
  (ho:OwnQ Q R F w xs v) (hs:Src P R F w ys sv) (hF:∀ b,blockOf v=some b→¬ F b) (hFs:∀ b,F b→b < w.heap.size) (hbs:∀ b,blockOf v=some b→b < w.heap.size)
  (hlim:xs.length+ys.length≤lim) (heb:td.eb≤32768) :
  ∃ v' w',(Builtin.append_ #[t,t2] ty #[v,sv]).run P w=.ok v' w'∧OwnQ Q R F w' (xs++ys) v'∧w'.os=w.os∧w'.tape=w.tape∧Oq w w'∧w.heap.size≤w'.heap.size ∧
   (∀ b,b < w.heap.size→blockOf v≠some b→w'.heap[b]? = w.heap[b]?)∧(∀ b,blockOf v'=some b→(blockOf v=some b∨w.heap.size≤b)∧b < w'.heap.size):=by
 obtain ⟨i,hu,hi,hsz,hby,hne,z,hz,hzs⟩:=ok.slc hk
 obtain ⟨ns,hrow,hlen,hfc0,hone⟩:=hs
 have hfc:∀ w',w'.heap=w.heap→(Builtin.firstCells R.sz ys.length sv).run P w'=.ok ns.toArray w':=fun w' hw=>by
  have:=hfc0 ys.length w' (Nat.le_refl _) hw
  rwa [← hrow.1,List.take_length] at this
 have hsize:i.size=R.sz:=hsz.trans hR
 have hrunsz:∀ w',(sizeOf td.el).run P w'=.ok R.sz w':=fun w'=>by simp [sizeOf,typeInfo,hi,hsize]
 unfold lim at hlim
 have hbytes:(xs.length+ys.length) * td.eb≤140737488355328:=Nat.le_trans (Nat.mul_le_mul hlim heb) (by decide)
 have h63:¬ ((9223372036854775807:Int) < ((xs.length+ys.length:Nat):Int)):=by omega
 -- the parts of a slice that has not room enough
 have grow:∀ (base:Option Addr) (cap:Nat) (ms:List Value),v=.slice base xs.length cap→RowL R F w xs ms→(∀ w',w'.heap=w.heap→(Builtin.firstCells R.sz xs.length v).run P w'=.ok ms.toArray w')→cap < xs.length+ys.length →
   ∃ v' w',(Builtin.append_ #[t,t2] ty #[v,sv]).run P w=.ok v' w'∧OwnQ Q R F w' (xs++ys) v'∧w'.os=w.os∧w'.tape=w.tape∧Oq w w'∧w.heap.size≤w'.heap.size ∧
   (∀ b,b < w.heap.size→blockOf v≠some b→w'.heap[b]? = w.heap[b]?)∧(∀ b,blockOf v'=some b→(blockOf v=some b∨w.heap.size≤b)∧b < w'.heap.size):=by
  intro base cap ms hv hms hfo hcap
  subst hv
  let nc:=(Question.appendCap (xs.length+ys.length) cap td.el).cut (w.tape w.drawn (.appendCap (xs.length+ys.length) cap td.el))
  have hnc:xs.length+ys.length≤nc:=Nat.le_add_right _ _
  let arr:Array Value:=ms.toArray++ns.toArray++Builtin.zeroCells z.cells (nc-(xs.length+ys.length))
  let w':World:=w.drew.alloc (.cells arr td.el)
  have hcapn:¬ (xs.length+ys.length≤cap):=by omega
  have hfit:¬ (281474976710656 < Builtin.nextslicecap (xs.length+ys.length) cap * i.bytes):=by
   have:=growslice_fits hcap (by rw [← hby] at hbytes;exact hbytes)
   omega
  have h1:=hfo w.drew rfl
  have h2:=hfc w.drew rfl
  have hrun:(Builtin.append_ #[t,t2] ty #[.slice base xs.length cap,sv]).run P w=.ok (.slice (some ⟨w.heap.size,0,none⟩) (xs.length+ys.length) nc) w':=by
   have h63':¬ (9223372036854775807 < ((xs.length:Int)+(ys.length:Int))):=by omega
   rcases hu2 with hu2 | ⟨_,hu2⟩<;>simp [Builtin.append_,run_underlying' hu,run_underlying' hu2,hrunsz,typeInfo,zeroValue,hi,hz,hlen,hcapn,h63',hfit,Question.forced,h1,h2,newRow] <;>
   simp [w',arr,nc,Array.append_assoc]
  have harr:∀ (j:Nat) u,(ms++ns)[j]? = some u→arr[0+j]? = some u:=fun j u hj=>by
   have hlt:j < (ms++ns).length:=(List.getElem?_eq_some_iff.1 hj).1
   rw [Nat.zero_add]
   show (ms.toArray++ns.toArray++_:Array Value)[j]? = some u
   rw [Array.getElem?_append_left (by simpa using hlt)]
   simpa using hj
  have hg:Grow F w F w':=⟨fun _ h=>h,fun b hb=>by
   show (w.heap.push _)[b]? = w.heap[b]?
   rw [Array.getElem?_push];rw [if_neg (Nat.ne_of_lt (hFs b hb))]⟩
  refine ⟨_,w',hrun,.inr ⟨w.heap.size,0,nc,arr,td.el,(0,0),hQ,by rw [List.length_append],by rw [List.length_append];exact hnc,?_,thaw_zero _,heap_alloc_new w.drew _,((hms.append hrow).mono hg).row harr⟩,rfl,rfl,.m,by simp [w'],?_,?_⟩
  ·show 0+nc * R.sz≤(ms.toArray++ns.toArray++Builtin.zeroCells z.cells (nc-(xs.length+ys.length))).size
   have hzc:(Builtin.zeroCells z.cells (nc-(xs.length+ys.length))).size=(nc-(xs.length+ys.length)) * R.sz:=by simp [Builtin.zeroCells,hzs,hsize]
   rw [Array.size_append,Array.size_append,hzc,List.size_toArray,List.size_toArray,hms.1,hrow.1,← Nat.add_mul,← Nat.add_mul,Nat.zero_add]
   exact Nat.mul_le_mul_right _ (by omega)
  ·intro b hb _
   show (w.heap.push _)[b]? = w.heap[b]?
   rw [Array.getElem?_push];rw [if_neg (Nat.ne_of_lt hb)]
  ·intro b hb
   cases hb
   exact ⟨.inr (Nat.le_refl _),by simp [w']⟩
 rcases ho with ⟨rfl,rfl⟩ | ⟨b,off,cap,arr,el,fz,hq,rfl,hcap,hsza,hth,hh,hr⟩
 ·by_cases h0:ys.length=0
  ·have hy:ys=[]:=List.eq_nil_of_length_eq_zero h0
   subst hy
   have hn0:ns=[]:=List.eq_nil_of_length_eq_zero (by simpa using hrow.1)
   subst hn0
   refine ⟨.slice none 0 0,w,?_,.inl ⟨rfl,rfl⟩,rfl,rfl,.m,Nat.le_refl _,fun _ _ _=>rfl,fun b hb=>by cases hb⟩
   have:=hfc w rfl
   simp only [List.length_nil] at this
   rcases hu2 with hu2 | ⟨_,hu2⟩<;>simp [Builtin.append_,run_underlying' hu,run_underlying' hu2,hrunsz,hlen,this]
  ·exact grow none 0 [] rfl ⟨by simp,by simp⟩ (fun w' _=>by simp [Builtin.firstCells]) (by simp only [List.length_nil];omega)
 ·obtain ⟨ms,hms,hmc,_⟩:=hr.cellsOf
  by_cases hroom:xs.length+ys.length≤cap
  ·have hmul:(xs.length+ys.length) * R.sz≤cap * R.sz:=Nat.mul_le_mul_right _ hroom
   rw [Nat.add_mul] at hmul
   have hnl:=hrow.1
   have hst:=run_storeCells_thaw (P:=P) b (off+xs.length * R.sz) el fz ns 0 arr w hh hth (by rw [hnl];omega) hone
   have hbt:b < w.heap.size:=hbs b rfl
   let arr':=(arr.toList.take (off+xs.length * R.sz+0)++ns++arr.toList.drop (off+xs.length * R.sz+0+ns.length)).toArray
   have hrun:(Builtin.append_ #[t,t2] ty #[.slice (some ⟨b,off,none⟩) xs.length cap,sv]).run P w=.ok (.slice (some ⟨b,off,none⟩) (xs.length+ys.length) cap) (w.setRow b arr'):=by
    have h2:=hfc w rfl
    rcases hu2 with hu2 | ⟨_,hu2⟩<;>simp [Builtin.append_,run_underlying' hu,run_underlying' hu2,hrunsz,hlen,hroom,h2,addr_add] <;>
    (rw [hst];rfl)
   have hold:∀ (j:Nat) u,(ms++ns)[j]? = some u→arr'[off+j]? = some u:=by
    intro j u hj
    show ((arr.toList.take (off+xs.length * R.sz+0)++ns++arr.toList.drop (off+xs.length * R.sz+0+ns.length)).toArray)[off+j]? = some u
    simp only [Nat.add_zero,List.getElem?_toArray,List.append_assoc]
    have htk:(arr.toList.take (off+xs.length * R.sz)).length=off+xs.length * R.sz:=by
     have hal:arr.toList.length=arr.size:=Array.length_toList
     rw [List.length_take,hal];omega
    rw [List.getElem?_append] at hj
    split at hj
    ·rename_i hlt
     rw [hms.1] at hlt
     have hj':j < xs.length * R.sz:=hlt
     rw [List.getElem?_append_left (by rw [htk];omega),List.getElem?_take,if_pos (by omega)]
     have:=hmc j u hj
     simpa using this
    ·rename_i hge
     rw [hms.1] at hge hj
     rw [List.getElem?_append_right (by rw [htk];omega),htk,List.getElem?_append_left (by have:=(List.getElem?_eq_some_iff.1 hj).1;omega),
      show off+j-(off+xs.length * R.sz)=j-xs.length * R.sz by omega]
     exact hj
   have hg:Grow F w F (w.setRow b arr'):=⟨fun _ h=>h,fun b' hb'=>setRow_other w b b' _ (fun e=>hF b rfl (e ▸ hb'))⟩
   refine ⟨_,w.setRow b arr',hrun,.inr ⟨b,off,cap,arr',el,fz,hq,by rw [List.length_append],by rw [List.length_append];exact hroom,?_,?_,setRow_heap w b arr _ el fz hh,((hms.append hrow).mono hg).row hold⟩,rfl,rfl,.m,by simp,?_,?_⟩
   ·have:arr'.size=arr.size:=by
     simp only [arr',List.size_toArray,List.length_append,List.length_take,List.length_drop,Array.length_toList,hnl];omega
    rw [this];exact hsza
   ·have:arr'.size=arr.size:=by
     simp only [arr',List.size_toArray,List.length_append,List.length_take,List.length_drop,Array.length_toList,hnl];omega
    rw [this];exact hth
   ·intro b' _ hne
    exact setRow_other w b b' _ (fun e=>hne (by rw [e];rfl))
   ·intro b' hb'
    cases hb'
    exact ⟨.inl rfl,by simpa using hbt⟩
  ·exact grow (some ⟨b,off,none⟩) cap ms rfl hms (fun w' hw=>by
    simp only [Builtin.firstCells]
    rw [← hms.1]
    exact run_loadCells_list w' _ ms fun j u hj=>by rw [addr_add,cell_at (by rw [hw];exact hh)];exact hmc j u hj) (by omega)
theorem run_append_own' {α:Type} {P:Program} {t t2 ty:TypeId} {td:TD} (hu2:P.underlying t2=some .string∨∃ e2,P.underlying t2=some (.slice e2)) (ok:TD.Ok P t td) (hk:Nat.beq td.kd 6=true) {R:TRep α} (hR:td.es=R.sz) {F:FSet} {w:World} {xs ys:List α} {v sv:Value}
  (ho:OwnR R F w xs v) (hs:Src P R F w ys sv) (hF:∀ b,blockOf v=some b→¬ F b) (hFs:∀ b,F b→b < w.heap.size) (hbs:∀ b,blockOf v=some b→b < w.heap.size)
  (hlim:xs.length+ys.length≤lim) (heb:td.eb≤32768) :
  ∃ v' w',(Builtin.append_ #[t,t2] ty #[v,sv]).run P w=.ok v' w'∧OwnR R F w' (xs++ys) v'∧w'.os=w.os∧w'.tape=w.tape∧Oq w w'∧w.heap.size≤w'.heap.size ∧
   (∀ b,b < w.heap.size→blockOf v≠some b→w'.heap[b]? = w.heap[b]?)∧(∀ b,blockOf v'=some b→(blockOf v=some b∨w.heap.size≤b)∧b < w'.heap.size):=by
 obtain ⟨v',w',h1,h2,h3⟩:=run_append_ownq (fun _ _=>True) (ty:=ty) trivial hu2 ok hk hR ho.q hs hF hFs hbs hlim heb
 exact ⟨v',w',h1,h2.own,h3⟩
end Go.Kx
end
section
namespace Go.Kx
variable [LxP]
section
variable {X:Ctx} {s:St} {E:Env} {F:FSet} {w:World} {a:Act}
theorem Sat.addM' {m:MO} (hs:Sat X s E F w a) (hm:m.ok E F w s.nx) (hk:m.kb (s.nx+1))
  (hfp:∀ b,m.fp E s.nx b→¬ F b∧¬ X.Z b∧b < w.heap.size∧∀ k m',look s.M k=some m'→¬ m'.fp E k b) (hfr:m.isFresh=true→∀ b,m.fp E s.nx b→X.n0≤b) :
  Sat X ⟨s.L,(s.nx,m)::s.M,s.V,s.nx+1⟩ E F w a where
 wf:=⟨(hs.wf.grow (Nat.le_succ _)).hL,fun k m' h=>by
   rw [look_cons] at h
   split at h
   ·rename_i e;cases h;subst e;exact ⟨Nat.lt_succ_self _,hk⟩
   ·exact (hs.wf.grow (Nat.le_succ _)).hM k m' h,(hs.wf.grow (Nat.le_succ _)).hV⟩
 nk:=Nat.le_succ_of_le hs.nk
 defers:=hs.defers
 size:=hs.size
 hL:=hs.hL
 hV:=hs.hV
 hM:=fun k m' h=>by
  rw [look_cons] at h
  split at h
  ·rename_i e;cases h;subst e;exact hm
  ·exact hs.hM k m' h
 dis:=fun k k' m1 m2 h1 h2 hne b hb=>by
  rw [look_cons] at h1 h2
  split at h1
  ·rename_i e1
   cases h1;subst e1
   split at h2
   ·rename_i e2;exact absurd e2 hne
   ·exact (hfp b hb).2.2.2 k' m2 h2
  ·split at h2
   ·rename_i e2
    cases h2;subst e2
    exact fun hb'=>(hfp b hb').2.2.2 k m1 h1 hb
   ·exact hs.dis k k' m1 m2 h1 h2 hne b hb
 mF:=fun k m' h b hb=>by
  rw [look_cons] at h
  split at h
  ·rename_i e;cases h;subst e
   exact ⟨(hfp b hb).1,(hfp b hb).2.1,(hfp b hb).2.2.1⟩
  ·exact hs.mF k m' h b hb
 fresh:=fun k m' h hf b hb=>by
  rw [look_cons] at h
  split at h
  ·rename_i e;cases h;subst e;exact hfr hf b hb
  ·exact hs.fresh k m' h hf b hb
 hF:=hs.hF
 hF0:=hs.hF0
 hF1:=hs.hF1
 hn0:=hs.hn0
 hZ:=hs.hZ
 ext:=hs.ext
 link:=hs.link
 one:=hs.one
theorem Sat.freeze {α:Type} {R:TRep α} {xs:List α} {k:Nat} (hs:Sat X s E F w a) (hm:look s.M k=some (.own R xs true)) :
  Sat X ⟨s.L,(k,.gone)::s.M,(k,.sl R xs)::s.V,s.nx⟩ E (fun b=>F b∨blockOf (E.ρ k)=some b) w a:=by
 have hk:=hs.wf.hM k _ hm
 have hg:Grow F w (fun b=>F b∨blockOf (E.ρ k)=some b) w:=⟨fun _ h=>.inl h,fun _ _=>rfl⟩
 have hmf:=hs.mF k _ hm
 exact {
  wf:=⟨hs.wf.hL,fun j m h=>by
   rw [look_cons] at h
   split at h
   ·rename_i e;cases h;subst e;exact ⟨hk.1,trivial⟩
   ·exact hs.wf.hM j m h,fun j f h=>by
   rw [look_cons] at h
   split at h
   ·rename_i e;cases h;subst e;exact ⟨hk.1,trivial⟩
   ·exact hs.wf.hV j f h⟩
  nk:=hs.nk
  defers:=hs.defers
  size:=hs.size
  hL:=hs.hL
  hV:=fun j f h=>by
   rw [look_cons] at h
   split at h
   ·rename_i e;cases h;subst e
    have ho:=hs.hM k _ hm
    simp only [MO.ok] at ho
    rcases ho with ho | ⟨b,off,cap,arr,ty,fz,hv,hc,_,_,hh,hr⟩
    ·exact .inl ⟨ho.1,_,_,ho.2⟩
    ·exact .inr ⟨b,off,cap,arr,ty,fz,hv,hc,.inr (by rw [hv];rfl),hh,hr.mono hg⟩
   ·exact (hs.hV j f h).mono hg
  hM:=fun j m h=>by
   rw [look_cons] at h
   split at h
   ·cases h;trivial
   ·exact (hs.hM j m h).mono hg fun _ _=>rfl
  dis:=fun j j' m m' h h' hne b hb=>by
   rw [look_cons] at h h'
   split at h
   ·cases h;exact hb.elim
   ·split at h'
    ·cases h';exact fun hb'=>hb'.elim
    ·exact hs.dis j j' m m' h h' hne b hb
  mF:=fun j m h b hb=>by
   rw [look_cons] at h
   split at h
   ·cases h;exact hb.elim
   ·rename_i hne
    have:=hs.mF j m h b hb
    refine ⟨?_,this.2⟩
    rintro (hF | hb')
    ·exact this.1 hF
    ·exact hs.dis k j _ m hm h hne b hb' hb
  fresh:=fun j m h hfr b hb=>by
   rw [look_cons] at h
   split at h
   ·cases h;exact hb.elim
   ·exact hs.fresh j m h hfr b hb
  hF:=fun b hb=>by
   rcases hb with hb | hb
   ·exact hs.hF b hb
   ·exact (hmf b hb).2.2
  hF0:=fun b hb=>.inl (hs.hF0 b hb)
  hF1:=fun b hb=>by
   rcases hb with hb | hb
   ·exact hs.hF1 b hb
   ·exact .inr ⟨hs.fresh k _ hm rfl b hb,(hs.mF k _ hm b hb).2.1⟩
  hn0:=hs.hn0
  hZ:=hs.hZ
  ext:=hs.ext
  link:=hs.link
  one:=hs.one }
theorem OwnR_one {α:Type} {R:TRep α} {F w} {xs:List α} {v:Value} (h:OwnR R F w xs v):v.oneCell'=true:=by
 rcases h with ⟨_,rfl⟩ | ⟨_,_,_,_,_,_,rfl,_⟩<;>rfl
theorem Sat.newOwn {α:Type} {R:TRep α} {xs:List α} {v:Value} {fr:Bool} (hs:Sat X s E F w a) (ho:OwnR R F w xs v)
  (hfp:∀ b,blockOf v=some b→¬ F b∧¬ X.Z b∧b < w.heap.size∧∀ k m',look s.M k=some m'→¬ m'.fp E k b) (hfr:fr=true→∀ b,blockOf v=some b→X.n0≤b) :
  ∃ E',E'.ρ s.nx=v∧Sat X ⟨s.L,(s.nx,.own R xs fr)::s.M,s.V,s.nx+1⟩ E' F w a:=by
 have hE:E.Eqb s.nx (E.setρ s.nx v):=E.eqb_setρ _ _ _ (Nat.le_refl _)
 have hv:(E.setρ s.nx v).ρ s.nx=v:=by simp [Env.setρ]
 have h1:=hs.env hE (fun j=>by
  simp only [Env.setρ];split
  ·exact OwnR_one ho
  ·exact hs.one j)
 refine ⟨_,hv,h1.addM' ?_ trivial ?_ ?_⟩
 ·show OwnR R F w xs ((E.setρ s.nx v).ρ s.nx)
  rw [hv];exact ho
 ·intro b hb
  have hb:blockOf ((E.setρ s.nx v).ρ s.nx)=some b:=hb
  rw [hv] at hb
  obtain ⟨g1,g2,g3,g4⟩:=hfp b hb
  exact ⟨g1,g2,g3,fun k m' hm hf=>g4 k m' hm ((MO.fp_eqb hE (hs.wf.hM k m' hm).1).1 hf)⟩
 ·intro hf b hb
  have hb:blockOf ((E.setρ s.nx v).ρ s.nx)=some b:=hb
  rw [hv] at hb
  exact hfr hf b hb
end
section
variable {X:Ctx} {s:St} {tt:List (Nat × TD)} {ops:Array Oper} {todo:Act→World→Prop}
def SrcOk {α:Type} (X:Ctx) (s:St) (R:TRep α) (ys:List α) (c:SC):Prop:=∀ E F w a,Sat X s E F w a→Src X.P R F w ys (den E c)
theorem srcN {α:Type} {R:TRep α}:SrcOk X s R ([]:List α) .nil:=fun _ _ _ _ _=>Rd.of_nil.src
theorem srcI {α:Type} {R:TRep α} {ys:List α} {k:Nat} (h:look s.V k=some (.sl R ys)):SrcOk X s R ys (.sl k):=fun _ _ _ _ hs=>(Rd.of_sl (hs.hV k _ h)).src
theorem srcO {α:Type} {R:TRep α} {ys:List α} {k:Nat} {fr:Bool} (h:look s.M k=some (.own R ys fr)):SrcOk X s R ys (.sl k):=fun _ _ _ _ hs=>(Rd.of_own (hs.hM k _ h)).src
theorem kd62 {P:Program} {t:TypeId} {d:TD} (h:TD.Ok P t d) (hk:(Nat.beq d.kd 6 || Nat.beq d.kd 2)=true):P.underlying t=some .string∨∃ e,P.underlying t=some (.slice e):=by
 rw [Bool.or_eq_true] at hk
 rcases hk with hk | hk
 ·obtain ⟨e,he,_⟩:=h.sliceOf hk;exact .inr ⟨e,he⟩
 ·exact .inl (h.str hk)
theorem WPr.app {α:Type} {R:TRep α} (htt:TTOk X.P tt) {i:Nat} {rest:List Nat} {o:Oper} {t t2:TypeId} {td td2:TD} {x y:Operand} {d k:Nat} {fr:Bool} {src:SC} {xs ys zs:List α}
  (hz:appL xs ys=some zs) (hsrc:SrcOk X s R ys src) (ho:ops[i]? = some o) (hg:guardV ops s.L o=some true) (hop:o.op=.call { callee:=.builtin .append,args:=#[x,y],argTypes:=#[t,t2] }) (hd:o.dst=some d)
  (hx:evalO s.L x=some (.c (.sl k))) (hm:look s.M k=some (.own R xs fr)) (hy:evalO s.L y=some (.c src)) (ht:look tt t=some td) (ht2:look tt t2=some td2)
  (hc:(Nat.blt d X.fn.ntmps && Nat.beq td.kd 6 && (Nat.beq td2.kd 6 || Nat.beq td2.kd 2) && Nat.beq td.es R.sz && Nat.ble td.eb 32768)=true)
  (kk:WPr X ops rest todo ⟨(d,.c (.sl s.nx))::s.L,(s.nx,.own R zs fr)::(k,.gone)::s.M,s.V,s.nx+1⟩):WPr X ops (i::rest) todo s:=by
 refine WPr.op ho hg (fun E F w a hs=>?_) kk
 simp only [Bool.and_eq_true] at hc
 obtain ⟨⟨⟨⟨c1,c2⟩,c2'⟩,c3⟩,c4⟩:=hc
 obtain ⟨rfl,hl⟩:=app_ok hz
 obtain ⟨e1,_⟩:=hs.eval hx
 obtain ⟨e2,_⟩:=hs.eval hy
 have ho:=hs.hM k _ hm
 simp only [MO.ok] at ho
 have hmf:=hs.mF k _ hm
 have hu2:=kd62 (htt.get ht2) c2'
 obtain ⟨v',w',hrun,how,g1,g2,g3,g4,g5,g6⟩:=run_append_own' (ty:=o.type) hu2 (htt.get ht) c2 (Nat.eq_of_beq_eq_true c3) ho (hsrc E F w a hs) (fun b hb=>(hmf b hb).1) hs.hF (fun b hb=>(hmf b hb).2.2) hl (Nat.le_of_ble_eq_true c4)
 refine wp_value (v:=v') (w':=w') (exec_call_builtin hop ?_) ?_
 ·simp only [List.map_toArray,List.map_cons,List.map_nil,e1,e2,denV,den]
  exact exec_v hrun
 ·have s1:=hs.setM (m':=.gone) hm g1 g2 g3 g4 (fun b hb hne=>g5 b hb (fun e=>hne e)) (fun _ h=>h.elim) trivial trivial (fun h=>by cases h)
  obtain ⟨E',hv,s2⟩:=s1.newOwn (fr:=fr) how (fun b hb=>by
    obtain ⟨h1,h2⟩:=g6 b hb
    rcases h1 with h1 | h1
    ·have:=hmf b h1
     refine ⟨this.1,this.2.1,h2,fun j m' hj hf=>?_⟩
     simp only [look_cons] at hj
     split at hj
     ·cases hj;exact hf.elim
     ·rename_i hne;exact hs.dis k j _ m' hm hj hne b h1 hf
    ·refine ⟨fun hF=>absurd (hs.hF b hF) (Nat.not_lt.2 h1),fun hz=>absurd (Nat.lt_of_lt_of_le (hs.hZ b hz) hs.ext.size) (Nat.not_lt.2 h1),h2,fun j m' hj hf=>?_⟩
     simp only [look_cons] at hj
     split at hj
     ·cases hj;exact hf.elim
     ·exact absurd (hs.mF j m' hj b hf).2.2 (Nat.not_lt.2 h1))
   (fun hf b hb=>by
    rcases (g6 b hb).1 with h1 | h1
    ·exact hs.fresh k _ hm hf b h1
    ·exact Nat.le_trans hs.hn0 (Nat.le_trans hs.ext.size h1))
  have s3:=s2.setL (d:=d) (v:=.c (.sl s.nx)) (Nat.lt_succ_self _) (blt_lt c1)
  simp only [denV,den] at s3
  rw [show E'.ρ s.nx=v' from hv] at s3
  rw [hd]
  exact ⟨E',F,s3⟩
theorem WPr.appN {α:Type} (R:TRep α) (htt:TTOk X.P tt) {i:Nat} {rest:List Nat} {o:Oper} {t t2:TypeId} {td td2:TD} {x y:Operand} {d:Nat} {src:SC} {ys zs:List α}
  (hz:appL [] ys=some zs) (hsrc:SrcOk X s R ys src) (ho:ops[i]? = some o) (hg:guardV ops s.L o=some true) (hop:o.op=.call { callee:=.builtin .append,args:=#[x,y],argTypes:=#[t,t2] }) (hd:o.dst=some d)
  (hx:evalO s.L x=some (.c .nil)) (hy:evalO s.L y=some (.c src)) (ht:look tt t=some td) (ht2:look tt t2=some td2)
  (hc:(Nat.blt d X.fn.ntmps && Nat.beq td.kd 6 && (Nat.beq td2.kd 6 || Nat.beq td2.kd 2) && Nat.beq td.es R.sz && Nat.ble td.eb 32768)=true)
  (kk:WPr X ops rest todo ⟨(d,.c (.sl s.nx))::s.L,(s.nx,.own R zs true)::s.M,s.V,s.nx+1⟩):WPr X ops (i::rest) todo s:=by
 refine WPr.op ho hg (fun E F w a hs=>?_) kk
 simp only [Bool.and_eq_true] at hc
 obtain ⟨⟨⟨⟨c1,c2⟩,c2'⟩,c3⟩,c4⟩:=hc
 obtain ⟨rfl,hl⟩:=app_ok hz
 obtain ⟨e1,_⟩:=hs.eval hx
 obtain ⟨e2,_⟩:=hs.eval hy
 have hu2:=kd62 (htt.get ht2) c2'
 obtain ⟨v',w',hrun,how,g1,g2,g3,g4,g5,g6⟩:=run_append_own' (ty:=o.type) hu2 (htt.get ht) c2 (Nat.eq_of_beq_eq_true c3) (R:=R) (F:=F) (xs:=[]) (v:=.slice none 0 0) (.inl ⟨rfl,rfl⟩) (hsrc E F w a hs) (fun b hb=>by cases hb) hs.hF (fun b hb=>by cases hb) hl (Nat.le_of_ble_eq_true c4)
 refine wp_value (v:=v') (w':=w') (exec_call_builtin hop ?_) ?_
 ·simp only [List.map_toArray,List.map_cons,List.map_nil,e1,e2,denV,den]
  exact exec_v hrun
 ·have s1:=hs.world g1 g2 g3 g4 (fun b hb=>g5 b hb (fun e=>by cases e))
  obtain ⟨E',hv,s2⟩:=s1.newOwn (fr:=true) how (fun b hb=>by
    obtain ⟨h1,h2⟩:=g6 b hb
    rcases h1 with h1 | h1
    ·cases h1
    ·exact ⟨fun hF=>absurd (hs.hF b hF) (Nat.not_lt.2 h1),fun hz=>absurd (Nat.lt_of_lt_of_le (hs.hZ b hz) hs.ext.size) (Nat.not_lt.2 h1),h2,fun j m' hj hf=>absurd (hs.mF j m' hj b hf).2.2 (Nat.not_lt.2 h1)⟩)
   (fun _ b hb=>by
    rcases (g6 b hb).1 with h1 | h1
    ·cases h1
    ·exact Nat.le_trans hs.hn0 (Nat.le_trans hs.ext.size h1))
  have s3:=s2.setL (d:=d) (v:=.c (.sl s.nx)) (Nat.lt_succ_self _) (blt_lt c1)
  simp only [denV,den] at s3
  rw [show E'.ρ s.nx=v' from hv] at s3
  rw [hd]
  exact ⟨E',F,s3⟩
end
end Go.Kx
end
section
namespace Go.Kx
variable [LxP]
def chkRow {α:Type} {R:TRep α} (O:Opn R) (V:Nat→Option VF):List α→List SC→Prop
 | [],cs=>cs=[]
 | x::xs,cs=>O.chk V x (cs.take R.sz)∧chkRow O V xs (cs.drop R.sz)
theorem chkRow_ok {α:Type} {R:TRep α} (O:Opn R) {V:Nat→Option VF} {E:Env} {F:FSet} {w:World} (hV:∀ k f,V k=some f→f.ok E F w (E.ρ k)) :
  ∀ {xs:List α} {cs:List SC},chkRow O V xs cs→RowL R F w xs (cs.map (den E))
 | [],cs,h=>by
  have h:cs=[]:=h
  subst h
  exact ⟨by simp,by simp⟩
 | x::xs,cs,h=>by
  obtain ⟨h1,h2⟩:=h
  have g1:=O.cok h1 E F w hV
  have g2:=chkRow_ok O hV h2
  have hl:((cs.take R.sz).map (den E)).length=R.sz:=R.len g1
  have:RowL R F w [x] ((cs.take R.sz).map (den E)):=by
   refine ⟨by rw [hl];simp,fun i y hy=>?_⟩
   cases i with
   | zero =>
    simp only [List.getElem?_cons_zero,Option.some.injEq] at hy
    subst hy
    exact ⟨_,g1,fun j v hj=>by simpa using hj⟩
   | succ i=>simp at hy
  have:=this.append g2
  rw [← List.map_append,List.take_append_drop] at this
  exact this
theorem RowL.one {α:Type} {R:TRep α} {F w} {xs:List α} {ns:List Value} (h:RowL R F w xs ns) (u:Value) (hu:u∈ns):u.oneCell'=true:=by
 obtain ⟨j,hj,hju⟩:=List.getElem_of_mem hu
 have hi:j / R.sz < xs.length:=by
  rw [h.1] at hj
  exact Nat.div_lt_of_lt_mul (by rw [Nat.mul_comm];exact hj)
 obtain ⟨vs,hr,hv⟩:=h.2 (j / R.sz) _ (List.getElem?_eq_getElem hi)
 have hm:j % R.sz < vs.length:=by rw [R.len hr];exact Nat.mod_lt _ R.pos
 have:=hv (j % R.sz) _ (List.getElem?_eq_getElem hm)
 rw [Nat.div_add_mod' j R.sz,List.getElem?_eq_getElem hj] at this
 simp only [Option.some.injEq] at this
 rw [← hju,this]
 exact R.one hr _ (List.getElem_mem hm)
def zeroRow (z:List SC) (n:Nat):List SC:=(List.range n).map fun i=>z.getD (i % z.length) .nil
section
variable {X:Ctx} {s:St} {tt:List (Nat × TD)} {ops:Array Oper} {todo:Act→World→Prop}
theorem Sat.newRow {α:Type} {R:TRep α} {xs:List α} {E:Env} {F:FSet} {w:World} {a:Act} (hs:Sat X s E F w a) {arr:Array Value} {ty:TypeId} {cap:Nat} (hr:∀ w',Grow F w F w'→Row R F w' xs arr 0) (hc:xs.length≤cap)
  (hsz:cap * R.sz≤arr.size) {d:Nat} (hd:d < X.fn.ntmps) {w2:World} (hw2:w2.heap=w.heap.push (.cells arr ty)) (ho:w2.os=w.os) (ht:w2.tape=w.tape) (hu:Oq w w2) :
  ∃ E' F',Sat X ⟨(d,.c (.sl s.nx))::s.L,(s.nx,.own R xs true)::s.M,s.V,s.nx+1⟩ E' F' w2 (a.put (some d) (.slice (some ⟨w.heap.size,0,none⟩) xs.length cap)):=by
 have hold:∀ b,b < w.heap.size→w2.heap[b]? = w.heap[b]? := fun b hb=>by
  rw [hw2,Array.getElem?_push,if_neg (Nat.ne_of_lt hb)]
 have hnew:w2.heap[w.heap.size]? = some (.cells arr ty):=by rw [hw2];simp
 have hsize:w2.heap.size=w.heap.size+1:=by rw [hw2];simp
 have s1:=hs.world ho ht hu (by omega) hold
 have hg:Grow F w F w2:=⟨fun _ h=>h,fun b hb=>hold b (hs.hF b hb)⟩
 obtain ⟨E',hv,s2⟩:=s1.newOwn (R:=R) (xs:=xs) (v:=.slice (some ⟨w.heap.size,0,none⟩) xs.length cap) (fr:=true)
  (.inr ⟨w.heap.size,0,cap,arr,ty,(0,0),rfl,hc,by rw [Nat.zero_add];exact hsz,thaw_zero _,hnew,hr w2 hg⟩)
  (fun b hb=>by
   cases hb
   exact ⟨fun hF=>absurd (hs.hF _ hF) (Nat.lt_irrefl _),fun hz=>absurd (Nat.lt_of_lt_of_le (hs.hZ _ hz) hs.ext.size) (Nat.lt_irrefl _),(show w.heap.size < w2.heap.size by omega),fun j m' hj hf=>absurd (hs.mF j m' hj _ hf).2.2 (Nat.lt_irrefl _)⟩)
  (fun _ b hb=>by cases hb;exact Nat.le_trans hs.hn0 hs.ext.size)
 have s3:=s2.setL (d:=d) (v:=.c (.sl s.nx)) (Nat.lt_succ_self _) hd
 simp only [denV,den] at s3
 rw [show E'.ρ s.nx=_ from hv] at s3
 exact ⟨E',F,s3⟩
theorem zeroRow_ok {E:Env} {z:Value} {zs:List SC} (hz:z.cells=(zs.map (den E)).toArray) (n:Nat) (h0:n=0∨zs≠[]) :
  ((Array.range n).map (fun i=>z.cells[i % z.cells.size]!)).toList=(zeroRow zs n).map (den E):=by
 apply List.ext_getElem?
 intro i
 simp only [zeroRow,Array.toList_map,Array.toList_range,List.getElem?_map,List.map_map]
 by_cases hi:i < n
 ·have hne:zs≠[]:=by
   rcases h0 with h | h
   ·omega
   ·exact h
  have hpos:0 < zs.length:=List.length_pos_iff.2 hne
  have hm:i % zs.length < zs.length:=Nat.mod_lt _ hpos
  simp only [List.getElem?_range hi,Option.map_some,hz,List.size_toArray,List.length_map,Function.comp]
  rw [getElem!_pos _ _ (by simpa using hm)]
  simp [List.getD,List.getElem?_eq_getElem hm]
 ·simp [List.getElem?_eq_none (show (List.range n).length≤i by simp;omega)]
theorem WPr.bs {α:Type} {R:TRep α} (O:Opn R) (htt:TTOk X.P tt) (xs:List α) {i:Nat} {rest:List Nat} {o:Oper} {t len:Nat} {td te:TD} {parts:Array (Nat × Operand)} {d:Nat} {cs:List SC}
  (ho:ops[i]? = some o) (hg:guardV ops s.L o=some true) (hop:o.op=.buildSlice t len parts) (hd:o.dst=some d) (ht:look tt t=some td) (hte:look tt td.el=some te)
  (hf:fillS (elemsFo td.es len) s.L parts.toList (zeroRow te.z (len * td.es))=some cs) (hk:chkRow O (look s.V) xs cs)
  (hc:(Nat.blt d X.fn.ntmps && Nat.beq td.kd 6 && Nat.beq td.es R.sz && Nat.beq xs.length len && Nat.ble (len * td.es) 16777216 && !te.z.isEmpty)=true)
  (k:WPr X ops rest todo ⟨(d,.c (.sl s.nx))::s.L,(s.nx,.own R xs true)::s.M,s.V,s.nx+1⟩):WPr X ops (i::rest) todo s:=by
 refine WPr.op ho hg (fun E F w a hs=>?_) k
 simp only [Bool.and_eq_true] at hc
 obtain ⟨⟨⟨⟨⟨c1,c2⟩,c3⟩,c4⟩,c5⟩,c6⟩:=hc
 have c3:=Nat.eq_of_beq_eq_true c3
 have c4:=Nat.eq_of_beq_eq_true c4
 have c5:=Nat.le_of_ble_eq_true c5
 obtain ⟨ie,hu,hie,hsz,_,_⟩:=(htt.get ht).slc c2
 have hz:(sizeOf td.el).run X.P w=.ok td.es w:=by simp [sizeOf,typeInfo,hie,hsz]
 obtain ⟨z,hzr,hzc⟩:=run_zeroValue' w (htt.get hte)
 have hzl:te.z.length=td.es:=by
  have h1:=(htt.get hte).2.2.2
  obtain ⟨i',z',hi',hs',_⟩:=(htt.get hte).info
  rw [hie] at hi'
  cases hi'
  rw [h1,← hs',hsz]
 have hzne:te.z≠[]:=by intro h;rw [h] at c6;simp at c6
 obtain ⟨arr',hfl,harr,hkb⟩:=fillS_ok hs (elemsFo td.es len) (fun i=>some (i * td.es,td.es)) (fun i o sz g hi=>by
   have:=elemsFo_get _ _ _ _ hi;simp only [Prod.mk.injEq] at this;rw [this.1,this.2.1]) parts.toList (zeroRow te.z (len * td.es)) cs
   ((Array.range (len * td.es)).map fun i=>z.cells[i % z.cells.size]!) hf (by
    intro y hy
    simp only [zeroRow,List.mem_map] at hy
    obtain ⟨j,_,rfl⟩:=hy
    have hm:j % te.z.length < te.z.length:=Nat.mod_lt _ (List.length_pos_iff.2 hzne)
    simp only [List.getD,List.getElem?_eq_getElem hm,Option.getD_some]
    exact kb_zero (htt.get hte) _ (List.getElem_mem hm)) (zeroRow_ok (hzc E) _ (.inr hzne))
 have hrow:=chkRow_ok O (E:=E) (F:=F) (w:=w) (fun k f h=>hs.hV k f h) hk
 have hrun:(execOp a.eval o).run X.P w=.ok (.value (.slice (some ⟨w.heap.size,0,none⟩) len len)) (w.alloc (.cells arr' td.el)):=by
  simp only [execOp,hop]
  refine exec_v ?_
  have hpar:(parts.map fun (i,x)=>(i,a.eval x)).toList=parts.toList.map fun (i,x)=>(i,a.eval x):=by simp
  have hne:¬ (2 ^ 24 < len * td.es):=by omega
  simp only [Instr.buildSlice,Sem.run_bind,run_underlying' hu,Result.andThen_ok,hz,hpar]
  by_cases h0:len * td.es=0
  ·have key:∀ f:Nat→Value,(Array.range (len * td.es)).map f=#[]:=by intro f;rw [h0];simp
   rw [key] at hfl
   have hgt:¬ ((0:Nat) > 2 ^ 24):=by omega
   rw [h0] at key ⊢
   simp only [hgt,if_false,Sem.run_bind,if_true,Sem.run_pure,Result.andThen_ok,newRow]
   rw [key]
   simp only [hfl,Sem.run_pure,Sem.run_bind,run_newObj,Result.andThen_ok]
   rfl
  ·simp [h0,hne,hzr,hfl,newRow]
 refine wp_value hrun ?_
 have hx:=hs.newRow (R:=R) (xs:=xs) (arr:=arr') (ty:=td.el) (cap:=len) (fun w' g=>(hrow.mono g).row (off:=0) (fun j v hj=>by
   rw [Nat.zero_add,← Array.getElem?_toList,harr];exact hj)) (by omega) (by
   rw [← Array.length_toList,harr,hrow.1,c4];exact Nat.le_refl _) (d:=d) (blt_lt c1) (w2:=w.alloc (.cells arr' td.el)) rfl rfl rfl .m
 rw [c4] at hx
 rw [hd]
 exact hx
theorem WPr.ixo {α:Type} {R:TRep α} (htt:TTOk X.P tt) {i:Nat} {rest:List Nat} {o:Oper} {t:TypeId} {td:TD} {x iO:Operand} {d k:Nat} {ik:IntKind} {n:Int} {xs:List α} {e:α} {fr:Bool}
  (hi:idx xs n=some e) (ho:ops[i]? = some o) (hg:guardV ops s.L o=some true) (hop:o.op=.indexAddr t x iO) (hd:o.dst=some d)
  (hx:evalO s.L x=some (.c (.sl k))) (hM:look s.M k=some (.own R xs fr)) (hn:evalO s.L iO=some (.c (.i ik n))) (ht:look tt t=some td)
  (hc:(Nat.blt d X.fn.ntmps && Nat.beq td.kd 6 && Nat.beq td.es R.sz)=true)
  (k:WPr X ops rest todo ⟨(d,.c (.px s.nx 0))::s.L,s.M,(s.nx,.el k (n.toNat * R.sz))::s.V,s.nx+1⟩):WPr X ops (i::rest) todo s:=by
 refine WPr.op ho hg (fun E F w a hs=>?_) k
 rename_i k0
 simp only [Bool.and_eq_true] at hc
 obtain ⟨⟨c1,c2⟩,c3⟩:=hc
 have c3:=Nat.eq_of_beq_eq_true c3
 obtain ⟨h0,h1,hxs⟩:=idx_ok hi
 obtain ⟨el,hu,hz⟩:=(htt.get ht).sliceOf c2
 have hsl:=hs.hM k0 _ hM
 simp only [MO.ok] at hsl
 rcases hsl with ⟨rfl,_⟩ | ⟨b,off,cap,arr,ty,fz,hv,hcap,_,_,hh,hr⟩
 ·simp at hxs
 obtain ⟨e1,_⟩:=hs.eval hx
 obtain ⟨e3,_⟩:=hs.eval hn
 have hrun:(execOp a.eval o).run X.P w=.ok (.value (.pointer (some ⟨b,off+n.toNat * R.sz,none⟩))) w:=by
  simp only [execOp,hop,e1,e3,denV,den,hv]
  refine exec_v ?_
  rw [← c3]
  exact run_indexAt_ok w hu (hz w) h0 h1
 refine wp_value hrun ?_
 have hE:E.Eqb s.nx (E.setρ s.nx (.pointer (some ⟨b,off+n.toNat * R.sz,none⟩))):=E.eqb_setρ _ _ _ (Nat.le_refl _)
 have hv1:(E.setρ s.nx (.pointer (some ⟨b,off+n.toNat * R.sz,none⟩))).ρ s.nx=.pointer (some ⟨b,off+n.toNat * R.sz,none⟩):=by simp [Env.setρ]
 have s1:=hs.env hE (fun j=>by
  simp only [Env.setρ];split
  ·rfl
  ·exact hs.one j)
 have hk0:=(hs.wf.hM k0 _ hM).1
 have s2:=s1.addV (f:=.el k0 (n.toNat * R.sz)) (by
  show _=addP _ _∧_
  rw [hv1,(hE k0 hk0).1,hv]
  exact ⟨rfl,_,_,rfl⟩) (Nat.lt_succ_of_lt hk0)
 have s3:=s2.setL (d:=d) (v:=.c (.px s.nx 0)) (Nat.lt_succ_self _) (blt_lt c1)
 simp only [denV,den,hv1,addP,Nat.add_zero] at s3
 rw [hd]
 exact ⟨_,F,s3⟩
theorem WPr.ldo {α:Type} {R:TRep α} (O:Opn R) (htt:TTOk X.P tt) {i:Nat} {rest:List Nat} {o:Oper} {t:TypeId} {td:TD} {x:Operand} {d k q off:Nat} {n:Int} {xs:List α} {e:α} {fr:Bool} {v:SV}
  (hi:idx xs n=some e) (ho:ops[i]? = some o) (hg:guardV ops s.L o=some true) (hop:o.op=.load t x) (hd:o.dst=some d)
  (hx:evalO s.L x=some (.c (.px q off))) (hV:look s.V q=some (.el k (n.toNat * R.sz))) (hM:look s.M k=some (.own R xs fr)) (ht:look tt t=some td)
  (hl:loadC td off (O.cells s.nx e)=some v) (hc:Nat.blt d X.fn.ntmps=true)
  (k:WPr X ops rest todo ⟨(d,v)::s.L,s.M,O.facts s.nx e++s.V,s.nx+O.nk⟩):WPr X ops (i::rest) todo s:=by
 refine WPr.op ho hg (fun E F w a hs=>?_) k
 rename_i k0
 obtain ⟨_,_,hxs⟩:=idx_ok hi
 have hsl:=hs.hM k0 _ hM
 simp only [MO.ok] at hsl
 rcases hsl with ⟨rfl,_⟩ | ⟨b,o',cap,arr,ty,fz,hv,hcap,_,_,hh,hr⟩
 ·simp at hxs
 obtain ⟨vs,hrep,hvs⟩:=hr n.toNat e hxs
 obtain ⟨E2,a1,_,_,a3,a4,a5,a6⟩:=O.ok hrep s.nx E hs.one
 obtain ⟨hq,_⟩:=hs.hV q _ hV
 have hqn:=(hs.wf.hV q _ hV).1
 have hcell:∀ (j:Nat) c,(O.cells s.nx e)[j]? = some c→arr[o'+n.toNat * R.sz+j]? = some (den E2 c):=fun j c hj=>hvs j _ (by rw [a4,List.getElem?_map,hj];rfl)
 have hld:=run_loadVar_cells (E:=E2) (base:=o'+n.toNat * R.sz) (htt.get ht) hh (cs:=O.cells s.nx e) hcell hl
 obtain ⟨e1,_⟩:=hs.eval hx
 have hrun:(execOp a.eval o).run X.P w=.ok (.value (denV E2 v)) w:=by
  have:(Instr.loadAt t (a.eval x)).run X.P w=.ok (denV E2 v) w:=by
   rw [e1]
   simp only [Instr.loadAt,denV,den,hq,hv,addP,Instr.sureAddr,Sem.run_bind,Sem.run_pure,Result.andThen_ok,hld]
  simp only [execOp,hop]
  exact exec_v this
 refine wp_value hrun ?_
 have s1:=hs.env a1 a3
 have s2:=s1.addF (fs:=O.facts s.nx e) (n:=O.nk) (fun p hp=>a5 p hp)
 have s3:=s2.setL (d:=d) (v:=v) (loadC_kb hl a6) (blt_lt hc)
 rw [hd]
 exact ⟨E2,F,s3⟩
def setL' {α:Type} (xs:List α) (n:Int) (e:α):List α:=xs.set n.toNat e
theorem WPr.sto {α:Type} {R:TRep α} (O:Opn R) (htt:TTOk X.P tt) {i:Nat} {rest:List Nat} {o:Oper} {t:TypeId} {td:TD} {x y:Operand} {k q off:Nat} {n:Int} {xs:List α} {e:α} {fr:Bool} {v:SV} {ps:List SC} (e':α)
  (hi:idx xs n=some e) (ho:ops[i]? = some o) (hg:guardV ops s.L o=some true) (hop:o.op=.store t x y) (hd:o.dst=none)
  (hx:evalO s.L x=some (.c (.px q off))) (hV:look s.V q=some (.el k (n.toNat * R.sz))) (hM:look s.M k=some (.own R xs fr)) (ht:look tt t=some td)
  (hy:evalO s.L y=some v) (hp:svCells v=some ps)
  (hk:O.chk (look s.V) e' ((O.cells s.nx e).take off++ps++(O.cells s.nx e).drop (off+ps.length)))
  (hc:(Nat.beq ps.length td.sz && Nat.ble (off+ps.length) R.sz && (Nat.beq ps.length R.sz || Nat.beq O.nk 0))=true)
  (k:WPr X ops rest todo ⟨s.L,(k,.own R (setL' xs n e') fr)::s.M,s.V,s.nx⟩):WPr X ops (i::rest) todo s:=by
 refine WPr.op ho hg (fun E F w a hs=>?_) k
 rename_i k0
 simp only [Bool.and_eq_true,Bool.or_eq_true] at hc
 obtain ⟨⟨c1,c2⟩,c3⟩:=hc
 have c1:=Nat.eq_of_beq_eq_true c1
 have c2:=Nat.le_of_ble_eq_true c2
 obtain ⟨_,_,hxs⟩:=idx_ok hi
 have hsl:=hs.hM k0 _ hM
 simp only [MO.ok] at hsl
 rcases hsl with ⟨rfl,_⟩ | ⟨b,o',cap,arr,ty,fz,hv,hcap,hsza,hth,hh,hr⟩
 ·simp at hxs
 obtain ⟨vs,hrep,hvs⟩:=hr n.toNat e hxs
 obtain ⟨E2,a1,_,a2,a3,a4,a5,a6⟩:=O.ok hrep s.nx E hs.one
 obtain ⟨hq,_⟩:=hs.hV q _ hV
 obtain ⟨e1,_⟩:=hs.eval hx
 obtain ⟨e2,ek⟩:=hs.eval hy
 obtain ⟨ec,ekk⟩:=svCells_ok (s:=s) hs.one hp ek
 have hvl:=R.len hrep
 have hcl:(O.cells s.nx e).length=R.sz:=by rw [← hvl,a4,List.length_map]
 have hin:n.toNat < xs.length:=(List.getElem?_eq_some_iff.1 hxs).1
 have hroom:o'+n.toNat * R.sz+R.sz≤arr.size:=by
  have:(n.toNat+1) * R.sz≤cap * R.sz:=Nat.mul_le_mul_right _ (by omega)
  rw [Nat.add_mul] at this
  omega
 have hpl:(ps.map (den E)).length=ps.length:=List.length_map ..
 have hst:=run_storeCells_thaw (P:=X.P) b (o'+n.toNat * R.sz+off) ty fz (ps.map (den E)) 0 arr w hh hth (by rw [hpl];omega)
  (by intro u hu;obtain ⟨c,hc',rfl⟩:=List.mem_map.1 hu;exact den_one hs.one (ekk c hc'))
 let arr':=(arr.toList.take (o'+n.toNat * R.sz+off+0)++ps.map (den E)++arr.toList.drop (o'+n.toNat * R.sz+off+0+(ps.map (den E)).length)).toArray
 have hrun:(execOp a.eval o).run X.P w=.ok .skip (w.setRow b arr'):=by
  have hsv:(Instr.storeAt t (a.eval x) (a.eval y)).run X.P w=.ok () (w.setRow b arr'):=by
   rw [e1,e2]
   have hsz:(denV E v).cells.size=td.sz:=by rw [ec];simp [c1]
   have hp:denV E (.c (.px q off))=.pointer (some ⟨b,o'+n.toNat * R.sz+off,none⟩):=by
    show addP (E.ρ q) off=_
    rw [hq,hv];rfl
   rw [hp]
   simp only [Instr.storeAt,Instr.sureAddr,Sem.run_bind,Sem.run_pure,Result.andThen_ok,storeVar,run_sizeOf' w (htt.get ht),hsz,ne_eq,not_true_eq_false,if_false]
   have:(denV E v).cells.toList=ps.map (den E):=by rw [ec]
   rw [this]
   exact hst
  simp only [execOp,hop,Sem.run_bind,hsv,Result.andThen_ok,Sem.run_pure]
 refine wp_skip' hrun ?_
 have hmf:=hs.mF k0 _ hM
 have hbF:¬ F b:=(hmf b (by show blockOf (E.ρ k0)=some b;rw [hv];rfl)).1
 have hg:Grow F w F (w.setRow b arr'):=⟨fun _ h=>h,fun b' hb'=>setRow_other w b b' _ (fun h=>hbF (h ▸ hb'))⟩
 have hasz:arr'.size=arr.size:=by
  have hal:arr.toList.length=arr.size:=Array.length_toList
  simp only [arr',List.size_toArray,List.length_append,List.length_take,List.length_drop,hal,hpl];omega
 -- what the cells are now
 have hget:∀ j,arr'[j]? = if o'+n.toNat * R.sz+off≤j∧j < o'+n.toNat * R.sz+off+ps.length then (ps.map (den E))[j-(o'+n.toNat * R.sz+off)]? else arr[j]? := by
  intro j
  have hal:arr.toList.length=arr.size:=Array.length_toList
  have htk:(arr.toList.take (o'+n.toNat * R.sz+off)).length=o'+n.toNat * R.sz+off:=by rw [List.length_take,hal];omega
  show ((arr.toList.take (o'+n.toNat * R.sz+off+0)++ps.map (den E)++arr.toList.drop (o'+n.toNat * R.sz+off+0+(ps.map (den E)).length)).toArray)[j]? = _
  simp only [Nat.add_zero,List.getElem?_toArray,List.append_assoc,hpl]
  by_cases c:j < o'+n.toNat * R.sz+off
  ·rw [List.getElem?_append_left (by rw [htk];exact c),List.getElem?_take,if_pos c,if_neg (by omega)];simp
  ·rw [List.getElem?_append_right (by rw [htk];omega),htk]
   by_cases c':j < o'+n.toNat * R.sz+off+ps.length
   ·rw [List.getElem?_append_left (by rw [hpl];omega),if_pos ⟨by omega,c'⟩]
   ·rw [List.getElem?_append_right (by rw [hpl];omega),hpl,List.getElem?_drop,if_neg (by omega)]
    rw [show o'+n.toNat * R.sz+off+ps.length+(j-(o'+n.toNat * R.sz+off)-ps.length)=j by omega]
    simp
 have hEc:∀ (j:Nat) (c:SC),(O.cells s.nx e)[j]? = some c→(j < off∨off+ps.length≤j)→den E c=den E2 c:=by
  intro j c hj hout
  rcases c3 with h | h
  ·have:=Nat.eq_of_beq_eq_true h
   have hjl:=(List.getElem?_eq_some_iff.1 hj).1
   omega
  ·have h:=Nat.eq_of_beq_eq_true h
   have hk':=a6 c (List.mem_of_getElem? hj)
   rw [h,Nat.add_zero] at hk'
   exact (den_eqb a1 hk').symm
 have hnewrep:R.rep F (w.setRow b arr') e' (((O.cells s.nx e).take off++ps++(O.cells s.nx e).drop (off+ps.length)).map (den E)) :=
  R.mono hg (O.cok hk E F w (fun k f h=>hs.hV k f h))
 have hrow:Row R F (w.setRow b arr') (setL' xs n e') arr' o':=by
  intro i' x' hx'
  unfold setL' at hx'
  rw [List.getElem?_set] at hx'
  split at hx'
  ·rename_i hii
   try rw [if_pos hin] at hx'
   cases hx'
   refine ⟨_,hnewrep,fun j u hj=>?_⟩
   rw [hget,← hii]
   rw [List.getElem?_map] at hj
   have hcl2:((O.cells s.nx e).take off).length=off:=by rw [List.length_take,hcl];omega
   by_cases c:off≤j∧j < off+ps.length
   ·rw [if_pos ⟨by omega,by omega⟩,show o'+n.toNat * R.sz+j-(o'+n.toNat * R.sz+off)=j-off by omega,List.getElem?_map]
    rw [List.append_assoc,List.getElem?_append_right (by rw [hcl2];exact c.1),hcl2,List.getElem?_append_left (by omega)] at hj
    exact hj
   ·rw [if_neg (by omega)]
    have hkeep:∃ cc,(O.cells s.nx e)[j]? = some cc∧u=den E cc:=by
     rcases Nat.lt_or_ge j off with hlt | hge
     ·rw [List.append_assoc,List.getElem?_append_left (by rw [hcl2];exact hlt),List.getElem?_take,if_pos hlt] at hj
      rw [Option.map_eq_some_iff] at hj
      obtain ⟨cc,h1,h2⟩:=hj
      exact ⟨cc,h1,h2.symm⟩
     ·rw [List.append_assoc,List.getElem?_append_right (by rw [hcl2];exact hge),hcl2,List.getElem?_append_right (by omega),List.getElem?_drop,
       show off+ps.length+(j-off-ps.length)=j by omega,Option.map_eq_some_iff] at hj
      obtain ⟨cc,h1,h2⟩:=hj
      exact ⟨cc,h1,h2.symm⟩
    obtain ⟨cc,h1,h2⟩:=hkeep
    have:=hvs j (den E2 cc) (by rw [a4,List.getElem?_map,h1];rfl)
    rw [h2,hEc j cc h1 (by omega)]
    exact this
  ·rename_i hne
   obtain ⟨us,hu,huv⟩:=hr i' x' hx'
   refine ⟨us,R.mono hg hu,fun j u hj=>?_⟩
   have hjl:j < R.sz:=by rw [← R.len hu];exact (List.getElem?_eq_some_iff.1 hj).1
   rw [hget,if_neg]
   ·exact huv j u hj
   ·rintro ⟨g1,g2⟩
    rcases Nat.lt_or_ge i' n.toNat with hlt | hge
    ·have:(i'+1) * R.sz≤n.toNat * R.sz:=Nat.mul_le_mul_right _ hlt
     rw [Nat.add_mul] at this;omega
    ·have:(n.toNat+1) * R.sz≤i' * R.sz:=Nat.mul_le_mul_right _ (by omega)
     rw [Nat.add_mul] at this;omega
 refine ⟨E,F,?_⟩
 rw [hd]
 refine hs.setM (m':=.own R (setL' xs n e') fr) hM rfl rfl .m (by simp) (fun b' _ hne=>setRow_other w b b' _ (fun h=>hne (by subst h;show blockOf (E.ρ k0)=some b';rw [hv];rfl))) (fun _ h=>h) ?_ trivial (fun h=>h)
 refine .inr ⟨b,o',cap,arr',ty,fz,?_,?_,by rw [hasz];exact hsza,by rw [hasz];exact hth,setRow_heap w b arr _ ty fz hh,hrow⟩
 ·rw [hv];simp [setL']
 ·simpa [setL'] using hcap
end
end Go.Kx
end
section
namespace Go.Kx
variable [LxP]
abbrev w64 (n:Int):Int:=IntKind.i64.wrap n
abbrev wk (k:IntKind) (n:Int):Int:=k.wrap n
abbrev str (l:List UInt8):ByteArray:=⟨⟨l⟩⟩
abbrev dead {α:Type} (_:Nat):Option α:=none
theorem oc' {α:Type} {c:Bool} {x y:Option α} {r:α} (h:(bif c then x else y)=some r):(c=false∧y=some r)∨(c=true∧x=some r):=(oc h).symm
section
variable {X:Ctx} {s:St} {ops:Array Oper} {todo:Act→World→Prop}
end
end Go.Kx
end
section
namespace Go.Kx
variable [LxP]
def restL {α:Type _} (t:List (Nat × α)):List (Nat × α)→List (Nat × α)
 | []=>[]
 | (d,_)::r=>match look t d with
  | some v=>(d,v)::restL t r
  | none=>restL t r
theorem restL_look {α:Type _} {t:List (Nat × α)}:∀ {l:List (Nat × α)} {d:Nat} {v:α},look (restL t l) d=some v→look t d=some v
 | [],d,v,h=>by cases h
 | (d',v')::r,d,v,h=>by
  unfold restL at h
  split at h
  ·rename_i x hx
   rw [look_cons] at h
   split at h
   ·rename_i e;cases h;subst e;exact hx
   ·exact restL_look h
  ·exact restL_look h
def restS (t s:St):St:=⟨restL t.L s.L,restL t.M s.M,restL t.V s.V,t.nx⟩
theorem Sat.rest {X:Ctx} {s t:St} {E F w a} (hs:Sat X t E F w a):Sat X (restS t s) E F w a:={ hs with
 wf:=⟨fun d v h=>hs.wf.hL d v (restL_look h),fun d v h=>hs.wf.hM d v (restL_look h),fun d v h=>hs.wf.hV d v (restL_look h)⟩
 hL:=fun d v h=>hs.hL d v (restL_look h)
 hV:=fun d v h=>hs.hV d v (restL_look h)
 hM:=fun d v h=>hs.hM d v (restL_look h)
 dis:=fun k k' m m' h h'=>hs.dis k k' m m' (restL_look h) (restL_look h')
 mF:=fun k m h=>hs.mF k m (restL_look h)
 fresh:=fun k m h=>hs.fresh k m (restL_look h) }
section
variable {X:Ctx} {s:St} {ops:Array Oper} {todo:Act→World→Prop} {tt:List (Nat × TD)}
end
end Go.Kx
end
section
namespace Go.Kx
variable [LxP]
def binO (op:BinOp) (k:IntKind) (m n:Int):Option Int:=match op with
 | .quo=>bif n==0 then none else some (k.wrap (m.tdiv n))
 | .rem=>bif n==0 then none else some (m.tmod n)
 | .shl=>bif decide (n < 0) then none else some (k.wrap (m * 2 ^ (min n.toNat k.bits)))
 | .shr=>bif decide (n < 0) then none else some (m.fdiv (2 ^ (min n.toNat k.bits)))
 | .and=>some (k.wrap ((BitVec.ofInt k.bits m &&& BitVec.ofInt k.bits n).toNat:Int))
 | .or=>some (k.wrap ((BitVec.ofInt k.bits m ||| BitVec.ofInt k.bits n).toNat:Int))
 | .xor=>some (k.wrap ((BitVec.ofInt k.bits m ^^^ BitVec.ofInt k.bits n).toNat:Int))
 | .andNot=>some (k.wrap ((BitVec.ofInt k.bits m &&& ~~~ BitVec.ofInt k.bits n).toNat:Int))
 | _=>none
def isSh:BinOp→Bool
 | .shl | .shr=>true
 | _=>false
theorem binO_run {P:Program} {op:BinOp} {t:TypeId} {x y:Operand} {k k':IntKind} {m n z:Int} {w:World} (h:binO op k m n=some z) (hk:(isSh op || decide (k=k'))=true) :
  (do eqGuard op t x y (.int k m) (.int k' n);binOp op t (.int k m) (.int k' n):Sem Value).run P w=.ok (.int k z) w:=by
 cases op<;>simp only [binO] at h<;>(try (cases h;done))
 all_goals simp only [isSh,Bool.false_or,Bool.true_or,decide_eq_true_eq] at hk
 all_goals try subst hk
 ·cases hn:(n==0) with
  | true=>rw [hn] at h;cases h
  | false =>
   rw [hn] at h;cases h
   have:¬ n=0:=by simpa using hn
   simp [eqGuard,binOp,Op.intDiv,this]
 ·cases hn:(n==0) with
  | true=>rw [hn] at h;cases h
  | false =>
   rw [hn] at h;cases h
   have:¬ n=0:=by simpa using hn
   simp [eqGuard,binOp,Op.intDiv,this]
 ·cases h;simp [eqGuard,binOp,Op.intBits]
 ·cases h;simp [eqGuard,binOp,Op.intBits]
 ·cases h;simp [eqGuard,binOp,Op.intBits]
 ·cases hn:(decide (n < 0)) with
  | true=>rw [hn] at h;cases h
  | false =>
   rw [hn] at h;cases h
   have:¬ n < 0:=by simpa using hn
   simp [eqGuard,binOp,Op.shift,this]
 ·cases hn:(decide (n < 0)) with
  | true=>rw [hn] at h;cases h
  | false =>
   rw [hn] at h;cases h
   have:¬ n < 0:=by simpa using hn
   simp [eqGuard,binOp,Op.shift,this]
 ·cases h;simp [eqGuard,binOp,Op.intBits]
def sidx (s:ByteArray) (n:Int):Option Int:=bif decide (0≤n) then s[n.toNat]?.map (fun b=>(b.toNat:Int)) else none
def catS (x y:ByteArray):Option ByteArray:=bif decide (((x.size+y.size:Nat):Int) > IntKind.i64.max) then none else some (x++y)
section
variable {X:Ctx} {s:St} {ops:Array Oper} {todo:Act→World→Prop} {tt:List (Nat × TD)}
theorem WPr.bin {i:Nat} {rest:List Nat} {o:Oper} {t yt:TypeId} {x y:Operand} {d:Nat} {op:BinOp} {k k':IntKind} {m n z:Int}
  (hz:binO op k m n=some z) (ho:ops[i]? = some o) (hg:guardV ops s.L o=some true) (hop:o.op=.binOp op t x y yt) (hd:o.dst=some d)
  (hx:evalO s.L x=some (.c (.i k m))) (hy:evalO s.L y=some (.c (.i k' n))) (hk:(isSh op || decide (k=k'))=true) (hn:Nat.blt d X.fn.ntmps=true)
  (kk:WPr X ops rest todo ⟨(d,.c (.i k z))::s.L,s.M,s.V,s.nx⟩):WPr X ops (i::rest) todo s:=by
 refine WPr.op ho hg (fun E F w a hs=>?_) kk
 obtain ⟨e1,_⟩:=hs.eval hx
 obtain ⟨e2,_⟩:=hs.eval hy
 have hrun:(execOp a.eval o).run X.P w=.ok (.value (.int k z)) w:=by
  simp only [execOp,hop,e1,e2,denV,den]
  exact exec_v (binO_run hz hk)
 refine wp_value hrun ⟨E,F,?_⟩
 rw [hd]
 exact hs.setL (v:=.c (.i k z)) trivial (blt_lt hn)
theorem WPr.cat {i:Nat} {rest:List Nat} {o:Oper} {t yt:TypeId} {x y:Operand} {d:Nat} {m n z:ByteArray}
  (hz:catS m n=some z) (ho:ops[i]? = some o) (hg:guardV ops s.L o=some true) (hop:o.op=.binOp .add t x y yt) (hd:o.dst=some d)
  (hx:evalO s.L x=some (.c (.s m))) (hy:evalO s.L y=some (.c (.s n))) (hn:Nat.blt d X.fn.ntmps=true)
  (kk:WPr X ops rest todo ⟨(d,.c (.s z))::s.L,s.M,s.V,s.nx⟩):WPr X ops (i::rest) todo s:=by
 refine WPr.op ho hg (fun E F w a hs=>?_) kk
 obtain ⟨e1,_⟩:=hs.eval hx
 obtain ⟨e2,_⟩:=hs.eval hy
 have hrun:(execOp a.eval o).run X.P w=.ok (.value (.string z)) w:=by
  simp only [execOp,hop,e1,e2,denV,den]
  refine exec_v ?_
  unfold catS at hz
  cases hq:decide (((m.size+n.size:Nat):Int) > IntKind.i64.max) with
  | true=>rw [hq] at hz;cases hz
  | false =>
   rw [hq] at hz;cases hz
   have:¬ ((m.size+n.size:Nat):Int) > IntKind.i64.max:=by simpa using hq
   simp only [eqGuard,binOp,Op.stringOp,this,if_false,Sem.run_bind,Sem.run_pure]
   rfl
 refine wp_value hrun ⟨E,F,?_⟩
 rw [hd]
 exact hs.setL (v:=.c (.s z)) trivial (blt_lt hn)
theorem WPr.sx (htt:TTOk X.P tt) {i:Nat} {rest:List Nat} {o:Oper} {t:TypeId} {td:TD} {x y:Operand} {d:Nat} {ik:IntKind} {m:ByteArray} {n z:Int}
  (hz:sidx m n=some z) (ho:ops[i]? = some o) (hg:guardV ops s.L o=some true) (hop:o.op=.index t x y) (hd:o.dst=some d)
  (ht:look tt t=some td) (hkd:Nat.beq td.kd 2=true)
  (hx:evalO s.L x=some (.c (.s m))) (hy:evalO s.L y=some (.c (.i ik n))) (hn:Nat.blt d X.fn.ntmps=true)
  (kk:WPr X ops rest todo ⟨(d,.c (.i .u8 z))::s.L,s.M,s.V,s.nx⟩):WPr X ops (i::rest) todo s:=by
 refine WPr.op ho hg (fun E F w a hs=>?_) kk
 obtain ⟨e1,_⟩:=hs.eval hx
 obtain ⟨e2,_⟩:=hs.eval hy
 have hu:X.P.underlying t=some .string:=by
  have h2:=(htt.get ht).2.1
  have hkd:=Nat.eq_of_beq_eq_true hkd
  unfold kindOk at h2
  split at h2<;>simp_all
 have hrun:(execOp a.eval o).run X.P w=.ok (.value (.int .u8 z)) w:=by
  simp only [execOp,hop,e1,e2,denV,den]
  refine exec_v ?_
  unfold sidx at hz
  cases hq:decide (0≤n) with
  | false=>rw [hq] at hz;cases hz
  | true =>
   rw [hq] at hz
   simp only [cond_true,Option.map_eq_some_iff] at hz
   obtain ⟨b,hb,rfl⟩:=hz
   have h0:0≤n:=by simpa using hq
   simp only [Instr.index,asIntOf,Sem.run_bind,Sem.run_pure,Result.andThen_ok,run_underlying' hu,h0,if_true,hb]
 refine wp_value hrun ⟨E,F,?_⟩
 rw [hd]
 exact hs.setL (v:=.c (.i .u8 z)) trivial (blt_lt hn)
end
end Go.Kx
end
section
namespace Go.Kx
variable [LxP]
theorem WP.condCT {X:Ctx} {s:St} {k:List Item} {x y:Code} (h:WP X (.code x::k) s):WP X (.code (.cond (.const (.bool true)) x y)::k) s:=fun E F w a hs =>
 Runs.head (fun _ _ _ _=>.one (step_cond (t:=true) rfl)) (h E F w a hs)
theorem WP.condCF {X:Ctx} {s:St} {k:List Item} {x y:Code} (h:WP X (.code y::k) s):WP X (.code (.cond (.const (.bool false)) x y)::k) s:=fun E F w a hs =>
 Runs.head (fun _ _ _ _=>.one (step_cond (t:=false) rfl)) (h E F w a hs)
def bnd (lo hi:Option Int) (len:Nat):Option (Nat × Nat) :=
 bif decide (0≤lo.getD 0) && decide (lo.getD 0≤hi.getD len) && decide (hi.getD len≤(len:Int)) then some ((lo.getD 0).toNat,(hi.getD len).toNat) else none
theorem bnd_ok {lo hi:Option Int} {len:Nat} {p:Nat × Nat} (h:bnd lo hi len=some p):0≤lo.getD 0∧lo.getD 0≤hi.getD len∧hi.getD len≤(len:Int)∧p=((lo.getD 0).toNat,(hi.getD len).toNat):=by
 unfold bnd at h
 cases hq:(decide (0≤lo.getD 0) && decide (lo.getD 0≤hi.getD len) && decide (hi.getD len≤(len:Int))) with
 | false=>rw [hq] at h;cases h
 | true =>
  rw [hq] at h;cases h
  simp only [Bool.and_eq_true,decide_eq_true_eq] at hq
  exact ⟨hq.1.1,hq.1.2,hq.2,rfl⟩
def ssl (s:ByteArray) (lo hi:Option Int):Option ByteArray:=(bnd lo hi s.size).map fun p=>s.extract p.1 p.2
def lsl {α:Type} (xs:List α) (lo hi:Option Int):Option (List α):=(bnd lo hi xs.length).map fun p=>(xs.take p.2).drop p.1
def evOI (L:List (Nat × SV)):Option Operand→Option (Option (IntKind × Int))
 | none=>some none
 | some x=>match evalO L x with
  | some (.c (.i k n))=>some (some (k,n))
  | _=>none
theorem evOI_ok {X:Ctx} {s:St} {E F w a} (hs:Sat X s E F w a) {x:Option Operand} {r:Option (IntKind × Int)} (h:evOI s.L x=some r):x.map a.eval=r.map fun p=>.int p.1 p.2:=by
 cases x with
 | none=>cases h;rfl
 | some x =>
  simp only [evOI] at h
  split at h
  ·rename_i k n he
   cases h
   obtain ⟨e1,_⟩:=hs.eval he
   simp [e1,denV,den]
  ·cases h
theorem run_sliceBounds {P:Program} {w:World} {is:Bool} {len cap:Nat} {lo hi:Option (IntKind × Int)} {p:Nat × Nat} (hc:len≤cap) (h:bnd (lo.map (·.2)) (hi.map (·.2)) len=some p) :
    (Instr.sliceBounds is len cap (lo.map fun p=>.int p.1 p.2) (hi.map fun p=>.int p.1 p.2) none).run P w=.ok (p.1,p.2,cap) w:=by
  obtain ⟨h0,h1,h2,rfl⟩:=bnd_ok h
  cases lo with
  | none =>
    cases hi with
    | none=>simp [Instr.sliceBounds]
    | some q =>
      simp at h0 h1 h2
      have:q.2≤(cap:Int):=by omega
      simp [Instr.sliceBounds,Instr.sliceBound,asIntOf,h1,this]
  | some r =>
    cases hi with
    | none =>
      simp at h0 h1 h2
      simp [Instr.sliceBounds,Instr.sliceBound,asIntOf,h0,h1]
    | some q =>
      simp at h0 h1 h2
      have h3:q.2≤(cap:Int):=by omega
      have h4:0≤q.2:=by omega
      have h5:r.2≤(q.2.toNat:Int):=by omega
      have h6:r.2≤max q.2 0:=by omega
      simp [Instr.sliceBounds,Instr.sliceBound,asIntOf,h3,h4,h0,h6]
theorem run_slice_sl {P:Program} {w:World} {t el:TypeId} {es:Nat} {b:Option Addr} {len cap:Nat} {lo hi:Option (IntKind × Int)} {p:Nat × Nat} (hu:P.underlying t=some (.slice el)) (hz:(sizeOf el).run P w=.ok es w)
    (hc:len≤cap) (h:bnd (lo.map (·.2)) (hi.map (·.2)) len=some p) :
    (Instr.sliceAt t (.slice b len cap) (lo.map fun p=>.int p.1 p.2) (hi.map fun p=>.int p.1 p.2) none).run P w =
      .ok (.slice (if cap=p.1 then b else b.map (·.add (p.1 * es))) (p.2-p.1) (cap-p.1)) w:=by
  simp only [Instr.sliceAt,Sem.run_bind,run_underlying' hu,Result.andThen_ok,Instr.slice,run_sliceBounds hc h,hz,Sem.run_pure]
theorem run_slice_s {P:Program} {w:World} {t:TypeId} {s:ByteArray} {lo hi:Option (IntKind × Int)} {p:Nat × Nat} (hu:P.underlying t=some .string) (h:bnd (lo.map (·.2)) (hi.map (·.2)) s.size=some p) :
    (Instr.sliceAt t (.string s) (lo.map fun p=>.int p.1 p.2) (hi.map fun p=>.int p.1 p.2) none).run P w=.ok (.string (s.extract p.1 p.2)) w:=by
  simp only [Instr.sliceAt,Sem.run_bind,run_underlying' hu,Result.andThen_ok,Instr.slice,Option.isSome_none,Bool.false_eq_true,if_false,run_sliceBounds (Nat.le_refl _) h,Sem.run_pure]
theorem Row.sub {α:Type} {R:TRep α} {F w} {xs:List α} {arr:Array Value} {off:Nat} (h:Row R F w xs arr off) (l m:Nat):Row R F w ((xs.take m).drop l) arr (off+l * R.sz):=by
 intro i x hx
 rw [List.getElem?_drop,List.getElem?_take] at hx
 split at hx
 ·obtain ⟨vs,hr,hv⟩:=h (l+i) x hx
  refine ⟨vs,hr,fun j v hj=>?_⟩
  have:=hv j v hj
  rw [show off+l * R.sz+i * R.sz+j=off+(l+i) * R.sz+j by rw [Nat.add_mul];omega]
  exact this
 ·cases hx
theorem Row.empty {α:Type} {R:TRep α} {F w} {arr:Array Value} {off:Nat}:Row R F w ([]:List α) arr off:=fun i x hx=>by simp at hx
section
variable {X:Ctx} {s:St} {ops:Array Oper} {todo:Act→World→Prop} {tt:List (Nat × TD)}
theorem WPr.ssl (htt:TTOk X.P tt) {i:Nat} {rest:List Nat} {o:Oper} {t:TypeId} {td:TD} {x:Operand} {lo hi:Option Operand} {l h:Option (IntKind × Int)} {d:Nat} {m z:ByteArray}
    (hz:ssl m (l.map (·.2)) (h.map (·.2))=some z) (ho:ops[i]? = some o) (hg:guardV ops s.L o=some true) (hop:o.op=.slice t x lo hi none) (hd:o.dst=some d)
    (ht:look tt t=some td) (hkd:Nat.beq td.kd 2=true) (hx:evalO s.L x=some (.c (.s m))) (hlo:evOI s.L lo=some l) (hhi:evOI s.L hi=some h) (hn:Nat.blt d X.fn.ntmps=true)
    (kk:WPr X ops rest todo ⟨(d,.c (.s z))::s.L,s.M,s.V,s.nx⟩):WPr X ops (i::rest) todo s:=by
  refine WPr.op ho hg (fun E F w a hs=>?_) kk
  obtain ⟨e1,_⟩:=hs.eval hx
  have hu:X.P.underlying t=some .string:=by
    have h2:=(htt.get ht).2.1
    have hkd:=Nat.eq_of_beq_eq_true hkd
    unfold kindOk at h2
    split at h2<;>simp_all
  unfold Kx.ssl at hz
  rw [Option.map_eq_some_iff] at hz
  obtain ⟨p,hp,rfl⟩:=hz
  have hrun:(execOp a.eval o).run X.P w=.ok (.value (.string (m.extract p.1 p.2))) w:=by
    simp only [execOp,hop,e1,denV,den,evOI_ok hs hlo,evOI_ok hs hhi]
    exact exec_v (run_slice_s hu hp)
  refine wp_value hrun ⟨E,F,?_⟩
  rw [hd]
  exact hs.setL (v:=.c (.s (m.extract p.1 p.2))) trivial (blt_lt hn)
theorem SlR.sub {α:Type} {R:TRep α} {F w} {xs:List α} {b:Option Addr} {c:Nat} {p:Nat × Nat} (h:SlR R F w xs (.slice b xs.length c)) (hp:p.1≤p.2) (hq:p.2≤xs.length) :
    SlR R F w ((xs.take p.2).drop p.1) (.slice (if c=p.1 then b else b.map (·.add (p.1 * R.sz))) (p.2-p.1) (c-p.1)):=by
  have hlen:((xs.take p.2).drop p.1).length=p.2-p.1:=by simp;omega
  rcases h with ⟨rfl,hv⟩ | ⟨b',off,cap,arr,el,fz,hv,hc,hF,hh,hr⟩
  · cases hv
    simp at hq
    refine .inl ⟨by simp,?_⟩
    have:p.1=0:=by omega
    simp [this,hq]
  · cases hv
    split
    · rename_i he
      have h0:(xs.take p.2).drop p.1=[]:=List.eq_nil_of_length_eq_zero (by rw [hlen];omega)
      refine .inr ⟨b',off,c-p.1,arr,el,fz,by rw [hlen],by rw [hlen];omega,hF,hh,by rw [h0];exact Row.empty⟩
    · refine .inr ⟨b',off+p.1 * R.sz,c-p.1,arr,el,fz,by rw [hlen];simp [addr_add],by rw [hlen];omega,hF,hh,hr.sub p.1 p.2⟩
theorem WPr.isl {α:Type} {R:TRep α} (htt:TTOk X.P tt) {i:Nat} {rest:List Nat} {o:Oper} {t:TypeId} {td:TD} {x:Operand} {lo hi:Option Operand} {l h:Option (IntKind × Int)} {d k:Nat} {xs zs:List α}
    (hz:lsl xs (l.map (·.2)) (h.map (·.2))=some zs) (ho:ops[i]? = some o) (hg:guardV ops s.L o=some true) (hop:o.op=.slice t x lo hi none) (hd:o.dst=some d)
    (ht:look tt t=some td) (hx:evalO s.L x=some (.c (.sl k))) (hV:look s.V k=some (.sl R xs)) (hlo:evOI s.L lo=some l) (hhi:evOI s.L hi=some h)
    (hc:(Nat.blt d X.fn.ntmps && Nat.beq td.kd 6 && Nat.beq td.es R.sz)=true)
    (kk:WPr X ops rest todo ⟨(d,.c (.sl s.nx))::s.L,s.M,(s.nx,.sl R zs)::s.V,s.nx+1⟩):WPr X ops (i::rest) todo s:=by
  refine WPr.op ho hg (fun E F w a hs=>?_) kk
  simp only [Bool.and_eq_true] at hc
  obtain ⟨⟨c1,c2⟩,c3⟩:=hc
  have c3:=Nat.eq_of_beq_eq_true c3
  obtain ⟨e1,_⟩:=hs.eval hx
  obtain ⟨el,hu,hsz⟩:=(htt.get ht).sliceOf c2
  have hsl:SlR R F w xs (E.ρ k):=hs.hV k _ hV
  obtain ⟨b,c,hv⟩:=SlR_len hsl
  rw [hv] at hsl
  unfold Kx.lsl at hz
  rw [Option.map_eq_some_iff] at hz
  obtain ⟨p,hp,rfl⟩:=hz
  obtain ⟨q1,q2,q3,q4⟩:=bnd_ok hp
  have hcap:xs.length≤c:=by
    rcases hsl with ⟨rfl,hv⟩ | ⟨b',off,cap,arr,el,fz,hv,hc,_⟩
    · simp
    · cases hv;exact hc
  have hrun:(execOp a.eval o).run X.P w=.ok (.value (.slice (if c=p.1 then b else b.map (·.add (p.1 * R.sz))) (p.2-p.1) (c-p.1))) w:=by
    simp only [execOp,hop,e1,denV,den,hv,evOI_ok hs hlo,evOI_ok hs hhi]
    rw [← c3]
    exact exec_v (run_slice_sl hu (hsz w) hcap hp)
  have hnew:=hsl.sub (p:=p) (by rw [q4];simp;omega) (by rw [q4];simp;omega)
  refine wp_value hrun ?_
  have hE1:E.Eqb s.nx (E.setρ s.nx (.slice (if c=p.1 then b else b.map (·.add (p.1 * R.sz))) (p.2-p.1) (c-p.1))):=E.eqb_setρ _ _ _ (Nat.le_refl _)
  have s1:=hs.env hE1 (fun j=>by
    simp only [Env.setρ];split
    · rfl
    · exact hs.one j)
  have hρ:(E.setρ s.nx (.slice (if c=p.1 then b else b.map (·.add (p.1 * R.sz))) (p.2-p.1) (c-p.1))).ρ s.nx=.slice (if c=p.1 then b else b.map (·.add (p.1 * R.sz))) (p.2-p.1) (c-p.1):=by simp [Env.setρ]
  have s2:=s1.addV (f:=.sl R ((xs.take p.2).drop p.1)) (by
    show SlR _ _ _ _ _
    rw [hρ];exact hnew) trivial
  have s3:=s2.setL (d:=d) (v:=.c (.sl s.nx)) (Nat.lt_succ_self _) (blt_lt c1)
  simp only [denV,den] at s3
  rw [hρ] at s3
  rw [hd]
  exact ⟨_,F,s3⟩
end
end Go.Kx
end
section
namespace Go.Kx
variable [LxP]
def Cw (w w':World):Prop:=Ext (fun b=>b < w.heap.size) w w'
theorem Cw.refl (w:World):Cw w w:=Ext.refl _ _
theorem Cw.trans {a b c:World} (h:Cw a b) (k:Cw b c):Cw a c:=Ext.trans h (k.mono fun _ hb=>Nat.lt_of_lt_of_le hb h.size)
theorem Sat.cw {X:Ctx} {s:St} {E F w a w'} (hs:Sat X s E F w a) (h:Cw w w'):Sat X s E F w' a:=hs.world h.os h.tape h.output h.size h.block
def WPq (X:Ctx) (ops:Array Oper) (idx:List Nat) (todo:List Item) (s:St):Prop :=
  ∀ E F w a,Sat X s E F w a→wpQuiet X.P ops (Cw w) (fun a'=>∀ w',Cw w w'→Runs X.P X.f X.post a' todo w') (idx.filterMap (ops[·]?)) a
def VS (X:Ctx) (s:St) (o:Oper) (s':St):Prop :=
 ∀ E F w a,Sat X s E F w a→∃ v E' F',(∀ w',Cw w w'→o.quietAt X.P a (Cw w) w' v)∧Sat X s' E' F' w (a.put o.dst v)
def VN (X:Ctx) (s:St) (o:Oper) (s':St):Prop :=
 s'.M=s.M∧∀ E F w a,Sat X s E F w a→∃ v E',E.Eqb s.nx E'∧(∀ w',(execOp a.eval o).run X.P w'=.ok (.value v) w')∧Sat X s' E' F w (a.put o.dst v)
theorem quiet_value {P:Program} {o:Oper} {a:Act} {w w':World} {v:Value} (h:(execOp a.eval o).run P w'=.ok (.value v) w'):o.quietAt P a (Cw w) w' v:=by
 unfold Oper.quietAt;rw [h];exact ⟨rfl,rfl⟩
theorem VN.vs {X:Ctx} {s s':St} {o:Oper} (h:VN X s o s'):VS X s o s':=fun E F w a hs=>by
 obtain ⟨v,E',_,h1,h2⟩:=h.2 E F w a hs
 exact ⟨v,E',F,fun w' _=>quiet_value (h1 w'),h2⟩
section
variable {X:Ctx} {s s':St} {ops:Array Oper} {todo:List Item} {tt:List (Nat × TD)}
theorem WPq.nil (h:WP X todo s):WPq X ops [] todo s:=fun E F _ a hs w' hw=>h E F w' a (hs.cw hw)
theorem WPq.op {i:Nat} {rest:List Nat} {o:Oper} (ho:ops[i]? = some o) (hg:guardV ops s.L o=some true) (h:VS X s o s') (k:WPq X ops rest todo s'):WPq X ops (i::rest) todo s:=by
 intro E F w a hs
 obtain ⟨v,E',F',h1,h2⟩:=h E F w a hs
 simp only [List.filterMap_cons,ho,wpQuiet,guardV_ok hs hg,if_true]
 exact ⟨v,h1,k E' F' w _ h2⟩
theorem WPq.skip {i:Nat} {rest:List Nat} {o:Oper} {d:Nat} (ho:ops[i]? = some o) (hg:guardV ops s.L o=some false) (hd:o.dst=some d) (hn:d < X.fn.ntmps)
  (k:WPq X ops rest todo ⟨(d,.u)::s.L,s.M,s.V,s.nx⟩):WPq X ops (i::rest) todo s:=by
 intro E F w a hs
 simp only [List.filterMap_cons,ho,wpQuiet,guardV_ok hs hg,Bool.false_eq_true,if_false,hd]
 exact k E F w _ (hs.setL (v:=.u) trivial hn)
theorem VS.sval (htt:TTOk X.P tt) {o:Oper} {d:Nat} {v:SV} (hd:o.dst=some d) (hn:d < X.fn.ntmps) (h:sval tt s o.op=some v):VS X s o ⟨(d,v)::s.L,s.M,s.V,s.nx⟩:=by
 intro E F w a hs
 refine ⟨denV E v,E,F,fun w' hw=>quiet_value (sval_ok htt (hs.cw hw) h).1,?_⟩
 rw [hd]
 exact hs.setL (sval_ok htt hs h).2 hn
theorem WPq.kb {idx:List Nat} {c b:Bool} (d:Nat) (hc:c=b) (hd:look s.L d=some (.c (.b c))) (h:WPq X ops idx todo ⟨(d,.c (.b b))::s.L,s.M,s.V,s.nx⟩) :
  WPq X ops idx todo s:=fun E F w a hs=>h E F w a { hs with
   wf:=⟨fun j v hl=>by
    simp only [look_cons] at hl
    split at hl
    ·cases hl;trivial
    ·exact hs.wf.hL j v hl,hs.wf.hM,hs.wf.hV⟩
   hL:=fun j v hl=>by
    simp only [look_cons] at hl
    split at hl
    ·rename_i e;cases hl;subst e;subst hc;exact hs.hL d _ hd
    ·exact hs.hL j v hl }
end
end Go.Kx
end
section
namespace Go.Kx
variable [LxP]
section
variable {X:Ctx} {s:St} {ops:Array Oper} {todo:List Item} {tt:List (Nat × TD)}
theorem VN.eqa {o:Oper} {t yt:TypeId} {x y:Operand} {d:Nat} {cs cs':List SC} {b:Bool} {neg:Bool}
  (hq:∀ E w,(Op.equal t (.agg (cs.map (den E)).toArray) (.agg (cs'.map (den E)).toArray)).run X.P w=.ok b w) (hgt:X.P.eqGuardType X.P.depth t=false)
  (hop:o.op=.binOp (bif neg then .neq else .eql) t x y yt) (hd:o.dst=some d)
  (hx:evalO s.L x=some (.a cs)) (hy:evalO s.L y=some (.a cs')) (hn:Nat.blt d X.fn.ntmps=true):VN X s o ⟨(d,.c (.b (bif neg then !b else b)))::s.L,s.M,s.V,s.nx⟩:=by
 refine ⟨rfl,fun E F w a hs=>?_⟩
 obtain ⟨e1,_⟩:=hs.eval hx
 obtain ⟨e2,_⟩:=hs.eval hy
 have hrun:∀ w',(execOp a.eval o).run X.P w'=.ok (.value (.bool (bif neg then !b else b))) w':=by
  intro w'
  simp only [execOp,hop,e1,e2,denV]
  refine exec_v ?_
  have hgu:∀ op,(eqGuard op t x y (.agg (cs.map (den E)).toArray) (.agg (cs'.map (den E)).toArray)).run X.P w'=.ok () w':=by
   intro op
   unfold eqGuard
   cases op<;>simp [hgt]
  cases neg with
  | false =>
   simp only [cond_false,Sem.run_bind,hgu,Result.andThen_ok]
   show (do pure (Value.bool (← Op.equal t _ _)):Sem Value).run X.P w'=_
   simp only [Sem.run_bind,hq E w',Result.andThen_ok,Sem.run_pure]
  | true =>
   simp only [cond_true,Sem.run_bind,hgu,Result.andThen_ok]
   show (do pure (Value.bool (!(← Op.equal t _ _))):Sem Value).run X.P w'=_
   simp only [Sem.run_bind,hq E w',Result.andThen_ok,Sem.run_pure]
 refine ⟨_,E,Env.Eqb.refl _ _,hrun,?_⟩
 rw [hd]
 exact hs.setL (v:=.c (.b (bif neg then !b else b))) trivial (blt_lt hn)
theorem VN.bin {o:Oper} {t yt:TypeId} {x y:Operand} {d:Nat} {op:BinOp} {k k':IntKind} {m n z:Int}
  (hz:binO op k m n=some z) (hop:o.op=.binOp op t x y yt) (hd:o.dst=some d)
  (hx:evalO s.L x=some (.c (.i k m))) (hy:evalO s.L y=some (.c (.i k' n))) (hk:(isSh op || decide (k=k'))=true) (hn:Nat.blt d X.fn.ntmps=true):VN X s o ⟨(d,.c (.i k z))::s.L,s.M,s.V,s.nx⟩:=by
 refine ⟨rfl,fun E F w a hs=>?_⟩
 obtain ⟨e1,_⟩:=hs.eval hx
 obtain ⟨e2,_⟩:=hs.eval hy
 have hrun:∀ w',(execOp a.eval o).run X.P w'=.ok (.value (.int k z)) w':=by
  intro w'
  simp only [execOp,hop,e1,e2,denV,den]
  exact exec_v (binO_run hz hk)
 refine ⟨_,E,Env.Eqb.refl _ _,hrun,?_⟩
 rw [hd]
 exact hs.setL (v:=.c (.i k z)) trivial (blt_lt hn)
theorem VN.cat {o:Oper} {t yt:TypeId} {x y:Operand} {d:Nat} {m n z:ByteArray}
  (hz:catS m n=some z) (hop:o.op=.binOp .add t x y yt) (hd:o.dst=some d)
  (hx:evalO s.L x=some (.c (.s m))) (hy:evalO s.L y=some (.c (.s n))) (hn:Nat.blt d X.fn.ntmps=true):VN X s o ⟨(d,.c (.s z))::s.L,s.M,s.V,s.nx⟩:=by
 refine ⟨rfl,fun E F w a hs=>?_⟩
 obtain ⟨e1,_⟩:=hs.eval hx
 obtain ⟨e2,_⟩:=hs.eval hy
 have hrun:∀ w',(execOp a.eval o).run X.P w'=.ok (.value (.string z)) w':=by
  intro w'
  simp only [execOp,hop,e1,e2,denV,den]
  refine exec_v ?_
  unfold catS at hz
  cases hq:decide (((m.size+n.size:Nat):Int) > IntKind.i64.max) with
  | true=>rw [hq] at hz;cases hz
  | false =>
   rw [hq] at hz;cases hz
   have:¬ ((m.size+n.size:Nat):Int) > IntKind.i64.max:=by simpa using hq
   simp only [eqGuard,binOp,Op.stringOp,this,if_false,Sem.run_bind,Sem.run_pure]
   rfl
 refine ⟨_,E,Env.Eqb.refl _ _,hrun,?_⟩
 rw [hd]
 exact hs.setL (v:=.c (.s z)) trivial (blt_lt hn)
theorem VN.sx (htt:TTOk X.P tt) {o:Oper} {t:TypeId} {td:TD} {x y:Operand} {d:Nat} {ik:IntKind} {m:ByteArray} {n z:Int}
  (hz:sidx m n=some z) (hop:o.op=.index t x y) (hd:o.dst=some d)
  (ht:look tt t=some td) (hkd:Nat.beq td.kd 2=true)
  (hx:evalO s.L x=some (.c (.s m))) (hy:evalO s.L y=some (.c (.i ik n))) (hn:Nat.blt d X.fn.ntmps=true):VN X s o ⟨(d,.c (.i .u8 z))::s.L,s.M,s.V,s.nx⟩:=by
 refine ⟨rfl,fun E F w a hs=>?_⟩
 obtain ⟨e1,_⟩:=hs.eval hx
 obtain ⟨e2,_⟩:=hs.eval hy
 have hu:X.P.underlying t=some .string:=by
  have h2:=(htt.get ht).2.1
  have hkd:=Nat.eq_of_beq_eq_true hkd
  unfold kindOk at h2
  split at h2<;>simp_all
 have hrun:∀ w',(execOp a.eval o).run X.P w'=.ok (.value (.int .u8 z)) w':=by
  intro w'
  simp only [execOp,hop,e1,e2,denV,den]
  refine exec_v ?_
  unfold sidx at hz
  cases hq:decide (0≤n) with
  | false=>rw [hq] at hz;cases hz
  | true =>
   rw [hq] at hz
   simp only [cond_true,Option.map_eq_some_iff] at hz
   obtain ⟨b,hb,rfl⟩:=hz
   have h0:0≤n:=by simpa using hq
   simp only [Instr.index,asIntOf,Sem.run_bind,Sem.run_pure,Result.andThen_ok,run_underlying' hu,h0,if_true,hb]
 refine ⟨_,E,Env.Eqb.refl _ _,hrun,?_⟩
 rw [hd]
 exact hs.setL (v:=.c (.i .u8 z)) trivial (blt_lt hn)
theorem VN.ssl (htt:TTOk X.P tt) {o:Oper} {t:TypeId} {td:TD} {x:Operand} {lo hi:Option Operand} {l h:Option (IntKind × Int)} {d:Nat} {m z:ByteArray}
    (hz:ssl m (l.map (·.2)) (h.map (·.2))=some z) (hop:o.op=.slice t x lo hi none) (hd:o.dst=some d)
    (ht:look tt t=some td) (hkd:Nat.beq td.kd 2=true) (hx:evalO s.L x=some (.c (.s m))) (hlo:evOI s.L lo=some l) (hhi:evOI s.L hi=some h) (hn:Nat.blt d X.fn.ntmps=true):VN X s o ⟨(d,.c (.s z))::s.L,s.M,s.V,s.nx⟩:=by
  refine ⟨rfl,fun E F w a hs=>?_⟩
  obtain ⟨e1,_⟩:=hs.eval hx
  have hu:X.P.underlying t=some .string:=by
    have h2:=(htt.get ht).2.1
    have hkd:=Nat.eq_of_beq_eq_true hkd
    unfold kindOk at h2
    split at h2<;>simp_all
  unfold Kx.ssl at hz
  rw [Option.map_eq_some_iff] at hz
  obtain ⟨p,hp,rfl⟩:=hz
  have hrun:∀ w',(execOp a.eval o).run X.P w'=.ok (.value (.string (m.extract p.1 p.2))) w':=by
    intro w'
    simp only [execOp,hop,e1,denV,den,evOI_ok hs hlo,evOI_ok hs hhi]
    exact exec_v (run_slice_s hu hp)
  refine ⟨_,E,Env.Eqb.refl _ _,hrun,?_⟩
  rw [hd]
  exact hs.setL (v:=.c (.s (m.extract p.1 p.2))) trivial (blt_lt hn)
theorem VN.isl {α:Type} {R:TRep α} (htt:TTOk X.P tt) {o:Oper} {t:TypeId} {td:TD} {x:Operand} {lo hi:Option Operand} {l h:Option (IntKind × Int)} {d k:Nat} {xs zs:List α}
    (hz:lsl xs (l.map (·.2)) (h.map (·.2))=some zs) (hop:o.op=.slice t x lo hi none) (hd:o.dst=some d)
    (ht:look tt t=some td) (hx:evalO s.L x=some (.c (.sl k))) (hV:look s.V k=some (.sl R xs)) (hlo:evOI s.L lo=some l) (hhi:evOI s.L hi=some h)
    (hc:(Nat.blt d X.fn.ntmps && Nat.beq td.kd 6 && Nat.beq td.es R.sz)=true):VN X s o ⟨(d,.c (.sl s.nx))::s.L,s.M,(s.nx,.sl R zs)::s.V,s.nx+1⟩:=by
  refine ⟨rfl,fun E F w a hs=>?_⟩
  simp only [Bool.and_eq_true] at hc
  obtain ⟨⟨c1,c2⟩,c3⟩:=hc
  have c3:=Nat.eq_of_beq_eq_true c3
  obtain ⟨e1,_⟩:=hs.eval hx
  obtain ⟨el,hu,hsz⟩:=(htt.get ht).sliceOf c2
  have hsl:SlR R F w xs (E.ρ k):=hs.hV k _ hV
  obtain ⟨b,c,hv⟩:=SlR_len hsl
  rw [hv] at hsl
  unfold Kx.lsl at hz
  rw [Option.map_eq_some_iff] at hz
  obtain ⟨p,hp,rfl⟩:=hz
  obtain ⟨q1,q2,q3,q4⟩:=bnd_ok hp
  have hcap:xs.length≤c:=by
    rcases hsl with ⟨rfl,hv⟩ | ⟨b',off,cap,arr,el,fz,hv,hc,_⟩
    · simp
    · cases hv;exact hc
  have hrun:∀ w',(execOp a.eval o).run X.P w'=.ok (.value (.slice (if c=p.1 then b else b.map (·.add (p.1 * R.sz))) (p.2-p.1) (c-p.1))) w':=by
    intro w'
    simp only [execOp,hop,e1,denV,den,hv,evOI_ok hs hlo,evOI_ok hs hhi]
    rw [← c3]
    exact exec_v (run_slice_sl hu (hsz w') hcap hp)
  have hnew:=hsl.sub (p:=p) (by rw [q4];simp;omega) (by rw [q4];simp;omega)
  have hE1:E.Eqb s.nx (E.setρ s.nx (.slice (if c=p.1 then b else b.map (·.add (p.1 * R.sz))) (p.2-p.1) (c-p.1))):=E.eqb_setρ _ _ _ (Nat.le_refl _)
  have s1:=hs.env hE1 (fun j=>by
    simp only [Env.setρ];split
    · rfl
    · exact hs.one j)
  have hρ:(E.setρ s.nx (.slice (if c=p.1 then b else b.map (·.add (p.1 * R.sz))) (p.2-p.1) (c-p.1))).ρ s.nx=.slice (if c=p.1 then b else b.map (·.add (p.1 * R.sz))) (p.2-p.1) (c-p.1):=by simp [Env.setρ]
  have s2:=s1.addV (f:=.sl R ((xs.take p.2).drop p.1)) (by
    show SlR _ _ _ _ _
    rw [hρ];exact hnew) trivial
  have s3:=s2.setL (d:=d) (v:=.c (.sl s.nx)) (Nat.lt_succ_self _) (blt_lt c1)
  simp only [denV,den] at s3
  rw [hρ] at s3
  rw [hd]
  exact ⟨_,_,hE1,hrun,s3⟩
theorem VN.ix {α:Type} {R:TRep α} (O:Opn R) (htt:TTOk X.P tt) {o:Oper} {t:TypeId} {td:TD} {x iO:Operand} {d k:Nat} {ik:IntKind} {n:Int} {xs:List α} {e:α}
  (hi:idx xs n=some e) (hop:o.op=.indexAddr t x iO) (hd:o.dst=some d)
  (hx:evalO s.L x=some (.c (.sl k))) (hV:look s.V k=some (.sl R xs)) (hn:evalO s.L iO=some (.c (.i ik n))) (ht:look tt t=some td)
  (hc:(Nat.blt d X.fn.ntmps && Nat.beq td.kd 6 && Nat.beq td.es R.sz)=true):VN X s o ⟨(d,.c (.px s.nx 0))::s.L,s.M,O.facts (s.nx+1) e++(s.nx,.pl (O.cells (s.nx+1) e))::s.V,s.nx+1+O.nk⟩:=by
 refine ⟨rfl,fun E F w a hs=>?_⟩
 simp only [Bool.and_eq_true] at hc
 obtain ⟨⟨c1,c2⟩,c3⟩:=hc
 have c3:=Nat.eq_of_beq_eq_true c3
 obtain ⟨h0,h1,hxs⟩:=idx_ok hi
 obtain ⟨el,hu,hz⟩:=(htt.get ht).sliceOf c2
 have hsl:SlR R F w xs (E.ρ k):=hs.hV k _ hV
 rcases hsl with ⟨rfl,_⟩ | ⟨b,off,cap,arr,ty,fz,hv,hcap,hF,hh,hr⟩
 ·simp at hxs
 obtain ⟨vs,hrep,hvs⟩:=hr n.toNat e hxs
 obtain ⟨e1,e2⟩:=hs.eval hx
 obtain ⟨e3,_⟩:=hs.eval hn
 have hrun:∀ w',(execOp a.eval o).run X.P w'=.ok (.value (.pointer (some ⟨b,off+n.toNat * R.sz,none⟩))) w':=by
  intro w'
  simp only [execOp,hop,e1,e3,denV,den,hv]
  refine exec_v ?_
  rw [← c3]
  exact run_indexAt_ok w' hu (hz w') h0 h1
 -- the environment: the place, then the element's slices
 have hE1:E.Eqb s.nx (E.setρ s.nx (.pointer (some ⟨b,off+n.toNat * R.sz,none⟩))):=E.eqb_setρ _ _ _ (Nat.le_refl _)
 have ho1:∀ j,((E.setρ s.nx (.pointer (some ⟨b,off+n.toNat * R.sz,none⟩))).ρ j).oneCell'=true:=fun j=>by
  simp only [Env.setρ];split
  ·rfl
  ·exact hs.one j
 obtain ⟨E2,a1,_,_,a3,a4,a5,a6⟩:=O.ok hrep (s.nx+1) _ ho1
 have hE2:E.Eqb s.nx E2:=hE1.trans (a1.mono (Nat.le_succ _))
 have hρ:E2.ρ s.nx=.pointer (some ⟨b,off+n.toNat * R.sz,none⟩):=by
  rw [(a1 s.nx (Nat.lt_succ_self _)).1];simp [Env.setρ]
 have s1:=hs.env hE2 a3
 -- facts first, then the place
 have s2:Sat X ⟨s.L,s.M,O.facts (s.nx+1) e++(s.nx,.pl (O.cells (s.nx+1) e))::s.V,s.nx+1+O.nk⟩ E2 F w a:=by
  have hb:=s1.nxt (n:=s.nx+1+O.nk) (by omega)
  have hpl:(VF.pl (O.cells (s.nx+1) e)).ok E2 F w (E2.ρ s.nx):=by
   refine ⟨b,off+n.toNat * R.sz,arr,ty,fz,hρ,hF,hh,fun j c hj=>?_⟩
   refine hvs j _ ?_
   rw [a4,List.getElem?_map,hj];rfl
  exact { hb with
   wf:=⟨hb.wf.hL,hb.wf.hM,fun q f hl=>by
    simp only [look_append] at hl
    split at hl
    ·rename_i f' hf
     cases hl
     obtain ⟨_,h2,h3,_⟩:=a5 _ (look_mem hf)
     refine ⟨h2,?_⟩
     cases f<;>first | trivial | cases h3
    ·rw [look_cons] at hl
     split at hl
     ·rename_i eq;cases hl;subst eq
      exact ⟨(show s.nx < s.nx+1+O.nk by omega),a6⟩
     ·exact hb.wf.hV q f hl⟩
   hV:=fun q f hl=>by
    simp only [look_append] at hl
    split at hl
    ·rename_i f' hf
     cases hl
     exact (a5 _ (look_mem hf)).2.2.2
    ·rw [look_cons] at hl
     split at hl
     ·rename_i eq;cases hl;subst eq;exact hpl
     ·exact s1.hV q f hl }
 refine ⟨_,E2,hE2,hrun,?_⟩
 have s3:=s2.setL (d:=d) (v:=.c (.px s.nx 0)) (show s.nx < s.nx+1+O.nk by omega) (blt_lt c1)
 simp only [denV,den,hρ,addP,Nat.add_zero] at s3
 rw [hd]
 exact s3
theorem VN.ixo {α:Type} {R:TRep α} (htt:TTOk X.P tt) {o:Oper} {t:TypeId} {td:TD} {x iO:Operand} {d k:Nat} {ik:IntKind} {n:Int} {xs:List α} {e:α} {fr:Bool}
  (hi:idx xs n=some e) (hop:o.op=.indexAddr t x iO) (hd:o.dst=some d)
  (hx:evalO s.L x=some (.c (.sl k))) (hM:look s.M k=some (.own R xs fr)) (hn:evalO s.L iO=some (.c (.i ik n))) (ht:look tt t=some td)
  (hc:(Nat.blt d X.fn.ntmps && Nat.beq td.kd 6 && Nat.beq td.es R.sz)=true):VN X s o ⟨(d,.c (.px s.nx 0))::s.L,s.M,(s.nx,.el k (n.toNat * R.sz))::s.V,s.nx+1⟩:=by
 refine ⟨rfl,fun E F w a hs=>?_⟩
 simp only [Bool.and_eq_true] at hc
 obtain ⟨⟨c1,c2⟩,c3⟩:=hc
 have c3:=Nat.eq_of_beq_eq_true c3
 obtain ⟨h0,h1,hxs⟩:=idx_ok hi
 obtain ⟨el,hu,hz⟩:=(htt.get ht).sliceOf c2
 have hsl:=hs.hM k _ hM
 simp only [MO.ok] at hsl
 rcases hsl with ⟨rfl,_⟩ | ⟨b,off,cap,arr,ty,fz,hv,hcap,_,_,hh,hr⟩
 ·simp at hxs
 obtain ⟨e1,_⟩:=hs.eval hx
 obtain ⟨e3,_⟩:=hs.eval hn
 have hrun:∀ w',(execOp a.eval o).run X.P w'=.ok (.value (.pointer (some ⟨b,off+n.toNat * R.sz,none⟩))) w':=by
  intro w'
  simp only [execOp,hop,e1,e3,denV,den,hv]
  refine exec_v ?_
  rw [← c3]
  exact run_indexAt_ok w' hu (hz w') h0 h1
 have hE:E.Eqb s.nx (E.setρ s.nx (.pointer (some ⟨b,off+n.toNat * R.sz,none⟩))):=E.eqb_setρ _ _ _ (Nat.le_refl _)
 have hv1:(E.setρ s.nx (.pointer (some ⟨b,off+n.toNat * R.sz,none⟩))).ρ s.nx=.pointer (some ⟨b,off+n.toNat * R.sz,none⟩):=by simp [Env.setρ]
 have s1:=hs.env hE (fun j=>by
  simp only [Env.setρ];split
  ·rfl
  ·exact hs.one j)
 have hk:=(hs.wf.hM k _ hM).1
 have s2:=s1.addV (f:=.el k (n.toNat * R.sz)) (by
  show _=addP _ _∧_
  rw [hv1,(hE k hk).1,hv]
  exact ⟨rfl,_,_,rfl⟩) (Nat.lt_succ_of_lt hk)
 have s3:=s2.setL (d:=d) (v:=.c (.px s.nx 0)) (Nat.lt_succ_self _) (blt_lt c1)
 simp only [denV,den,hv1,addP,Nat.add_zero] at s3
 rw [hd]
 exact ⟨_,_,hE,hrun,s3⟩
theorem WPq.call {i:Nat} {rest:List Nat} {o:Oper} {f:FuncId} {args:Array Operand} {ts:Array TypeId} {c:Ct} {d:Nat}
  (ct:Fn X.P f c) (l:List (Nat × SC)) (bor:List Nat) (ho:ops[i]? = some o) (hg:guardV ops s.L o=some true)
  (hop:o.op=.call { callee:=.value (.func f),args:=args,argTypes:=ts }) (hd:o.dst=some d) (hdn:Nat.blt d X.fn.ntmps=true)
  (hargs:evalL s.L args.toList=some (c.args.map (renV ⟨l,c.nk,s.nx⟩)))
  (hV:c.V0.map (fun p=>findVb s ⟨l,c.nk,s.nx⟩ bor p.1 p.2)=c.V0.map (fun p=>some p.2))
  (hM:c.M0=[]) (hM1:c.M1=[]) (hV1:c.V1=[]) (hres:c.res.kbb 0=true) (hc:callB s c l bor=true) (k:WPq X ops rest todo ⟨(d,c.res)::s.L,s.M,s.V,s.nx⟩):WPq X ops (i::rest) todo s:=by
 refine WPq.op ho hg (fun E F w a hs=>?_) k
 have hz:c.res.kb 0:=SV.kbb_ok hres
 have hres':∀ E1 E2:Env,denV E1 c.res=denV E2 c.res:=fun E1 E2=>denV_eqb (n:=0) (fun _ h=>absurd h (Nat.not_lt_zero _)) hz
 refine ⟨denV E c.res,E,F,fun w' hw=>?_,?_⟩
 ·have hs':=hs.cw hw
  have hM':c.M0.map (fun p=>findM s ⟨l,c.nk,s.nx⟩ p.1 p.2)=c.M0.map (fun p=>some (renM ⟨l,c.nk,s.nx⟩ p.2)):=by rw [hM];rfl
  obtain ⟨hpre,_⟩:=called hs' (d:=d) (blt_lt hdn) hV hM' (.inr ⟨hV1,by rw [hM1];trivial⟩) hc
  have hall:c.args.all (okV ⟨l,c.nk,s.nx⟩)=true:=by simp only [callB,Bool.and_eq_true] at hc;exact hc.2
  have hev:=(evalL_ok hs' hargs).1
  have hargv:args.map a.eval=(c.args.map (denV ((⟨l,c.nk,s.nx⟩:Ren).env E))).toArray:=by
   apply Array.ext'
   rw [Array.toList_map,hev,List.map_map]
   exact List.map_congr_left fun v hv=>(denV_ren _ E (List.all_eq_true.1 hall v hv)).symm
  have hrun:(execOp a.eval o).run X.P w'=.ok (.enter f (args.map a.eval)) w':=by
   unfold execOp
   simp only [hop,resolve,Deferred.ofValue,Act.eval,invoke,Sem.run_bind,Sem.run_pure,Result.andThen_ok]
   have:=callFunc_run ct.callable (#[]++args.map a.eval++#[]) w'
   simpa using this
  unfold Oper.quietAt
  rw [hrun]
  refine ⟨rfl,?_⟩
  rw [hargv]
  refine (ct.calls _ _ _ hpre).mono ?_
  rintro e w'' ⟨E',F',rfl,hp⟩
  refine ⟨by rw [hres' E' E],hw.trans (hp.ext.mono fun b hb=>⟨hb,fun hf=>?_⟩)⟩
  obtain ⟨k,m,hk,_⟩:=hf
  rw [hM] at hk;cases hk
 ·rw [hd]
  exact hs.setL (hz.mono (Nat.zero_le _)) (blt_lt hdn)
end
end Go.Kx
end
section
namespace Go.Kx
variable [LxP]
def eqFs (P:Program) (g:TypeId→List SC→List SC→Option Bool):List Field→List SC→List SC→Option Bool
 | [],_,_=>some true
 | f::fs,cs,ds=>bif f.name == "_" then none else match P.info? f.type with
  | some i=>match g f.type ((cs.drop f.offset).take i.size) ((ds.drop f.offset).take i.size) with
   | some a=>match eqFs P g fs cs ds with
    | some b=>some (a && b)
    | none=>none
   | none=>none
  | none=>none
def eqAs (g:TypeId→List SC→List SC→Option Bool) (el sz:Nat):List Nat→List SC→List SC→Option Bool
 | [],_,_=>some true
 | j::js,cs,ds=>match g el ((cs.drop (j * sz)).take sz) ((ds.drop (j * sz)).take sz) with
  | some a=>match eqAs g el sz js cs ds with
   | some b=>some (a && b)
   | none=>none
  | none=>none
def eqS (P:Program):Nat→TypeId→List SC→List SC→Option Bool
 | 0,_,_,_=>none
 | d+1,t,cs,ds=>match P.underlying t with
  | some (.int _)=>match cs,ds with
   | [.i k m],[.i k' n]=>bif decide (k=k') then some (m==n) else none
   | _,_=>none
  | some .bool=>match cs,ds with
   | [.b a],[.b b]=>some (a==b)
   | _,_=>none
  | some .string=>match cs,ds with
   | [.s a],[.s b]=>some (a.toList==b.toList)
   | _,_=>none
  | some (.struct fs)=>bif P.stoodInHeld t then none else eqFs P (eqS P d) fs.toList cs ds
  | some (.array n el)=>match P.info? el with
   | some i=>bif i.size==P.cellsOf el then eqAs (eqS P d) el (P.cellsOf el) (List.range n) cs ds else none
   | none=>none
  | _=>none
def cellV (P:Program) (t:TypeId) (E:Env) (cs:List SC):Value:=bif aggOf P t then .agg (cs.map (den E)).toArray else match cs with
 | [c]=>den E c
 | _=>undef
theorem extract_map (E:Env) (cs:List SC) (o n:Nat):((cs.map (den E)).toArray).extract o (o+n)=(((cs.drop o).take n).map (den E)).toArray:=by
 simp [List.map_drop,List.map_take]
theorem take_one {cs:List SC} {o n:Nat} {c:SC} (h:(cs.drop o).take n=[c]):cs[o]? = some c:=by
 have:((cs.drop o).take n)[0]? = some c:=by rw [h];rfl
 rw [List.getElem?_take] at this
 split at this
 ·simpa using this
 ·cases this
theorem part_run {P:Program} {w:World} {E:Env} {d:Nat} {t:TypeId} {i:TypeInfo} {cs es:List SC} {o:Nat} {b:Bool} (hi:P.info? t=some i)
  (h:eqS P d t ((cs.drop o).take i.size) es=some b∨eqS P d t es ((cs.drop o).take i.size)=some b) :
  (part t (cs.map (den E)).toArray o).run P w=.ok (cellV P t E ((cs.drop o).take i.size)) w:=by
 have leaf:∀ c,(cs.drop o).take i.size=[c]→aggOf P t=false→∀ u,P.underlying t=some u→(match u with | .struct _ | .array _ _=>False | _=>True) →
   (part t (cs.map (den E)).toArray o).run P w=.ok (cellV P t E ((cs.drop o).take i.size)) w:=by
  intro c hc ha u hu hn
  have hcs:=take_one hc
  have hia:(isAgg t).run P w=.ok false w:=by
   simp only [isAgg,Sem.run_bind,run_underlying' hu,Result.andThen_ok]
   cases u<;>first | rfl | exact hn.elim
  simp only [part,Sem.run_bind,hia,Result.andThen_ok,Bool.false_eq_true,if_false]
  have:(cs.map (den E)).toArray[o]? = some (den E c):=by simp [hcs]
  rw [this,hc]
  simp only [cellV,ha,cond_false,Sem.run_pure]
 cases d with
 | zero=>rcases h with h | h<;>cases h
 | succ d =>
  unfold eqS at h
  split at h
  ·rename_i k hu
   rcases h with h | h<;>(split at h)<;>first | (rename_i hc he;exact leaf _ (by first | exact hc | exact he) (by simp [aggOf,hu]) _ hu trivial) | cases h
  ·rename_i hu
   rcases h with h | h<;>(split at h)<;>first | (rename_i hc he;exact leaf _ (by first | exact hc | exact he) (by simp [aggOf,hu]) _ hu trivial) | cases h
  ·rename_i hu
   rcases h with h | h<;>(split at h)<;>first | (rename_i hc he;exact leaf _ (by first | exact hc | exact he) (by simp [aggOf,hu]) _ hu trivial) | cases h
  ·rename_i fs hu
   have hia:(isAgg t).run P w=.ok true w:=by simp only [isAgg,Sem.run_bind,run_underlying' hu,Result.andThen_ok];rfl
   have hz:(sizeOf t).run P w=.ok i.size w:=by simp [sizeOf,typeInfo,hi]
   simp only [part,Sem.run_bind,hia,Result.andThen_ok,if_true,hz,Sem.run_pure]
   rw [extract_map]
   simp [cellV,aggOf,hu]
  ·rename_i n el hu
   have hia:(isAgg t).run P w=.ok true w:=by simp only [isAgg,Sem.run_bind,run_underlying' hu,Result.andThen_ok];rfl
   have hz:(sizeOf t).run P w=.ok i.size w:=by simp [sizeOf,typeInfo,hi]
   simp only [part,Sem.run_bind,hia,Result.andThen_ok,if_true,hz,Sem.run_pure]
   rw [extract_map]
   simp [cellV,aggOf,hu]
  ·rcases h with h | h<;>cases h
theorem eqAs_run {P:Program} {w:World} {E:Env} {n d:Nat} {el:TypeId} {i:TypeInfo} (hi:P.info? el=some i) (hsz:i.size=P.cellsOf el)
  (ih:∀ t cs ds b,eqS P d t cs ds=some b→(Op.equalIn (n+d) t (cellV P t E cs) (cellV P t E ds)).run P w=.ok b w) :
  ∀ (js:List Nat) {cs ds:List SC} {b:Bool},eqAs (eqS P d) el (P.cellsOf el) js cs ds=some b→(Op.eqItems (n+d) el (P.cellsOf el) (cs.map (den E)).toArray (ds.map (den E)).toArray js).run P w=.ok b w
 | [],cs,ds,b,h=>by cases h;simp [Op.eqItems]
 | j::js,cs,ds,b,h=>by
  unfold eqAs at h
  split at h
  ·rename_i a ha
   split at h
   ·rename_i b' hb'
    cases h
    have ha':=ha
    rw [← hsz] at ha'
    have p1:=part_run (w:=w) (E:=E) hi (cs:=cs) (o:=j * i.size) (.inl ha')
    have p2:=part_run (w:=w) (E:=E) hi (cs:=ds) (o:=j * i.size) (.inr ha')
    have p3:=ih _ _ _ _ ha'
    rw [hsz] at p1 p2 p3
    simp only [Op.eqItems,Sem.run_bind,p1,p2,p3,Result.andThen_ok]
    cases a
    ·simp
    ·simp only [Bool.not_true,Bool.false_eq_true,if_false,Bool.true_and]
     exact eqAs_run hi hsz ih js hb'
   ·cases h
  ·cases h
theorem eqFs_run {P:Program} {w:World} {E:Env} {n d:Nat} (ih:∀ t cs ds b,eqS P d t cs ds=some b→(Op.equalIn (n+d) t (cellV P t E cs) (cellV P t E ds)).run P w=.ok b w) :
  ∀ (fs:List Field) {cs ds:List SC} {b:Bool},eqFs P (eqS P d) fs cs ds=some b→(Op.eqFields (n+d) (cs.map (den E)).toArray (ds.map (den E)).toArray fs).run P w=.ok b w
 | [],cs,ds,b,h=>by cases h;simp [Op.eqFields]
 | f::fs,cs,ds,b,h=>by
  unfold eqFs at h
  cases hn:f.name == "_" with
  | true=>rw [hn] at h;cases h
  | false =>
   rw [hn] at h
   simp only [cond_false] at h
   split at h
   ·rename_i i hi
    split at h
    ·rename_i a ha
     split at h
     ·rename_i b' hb'
      cases h
      have hne:f.name ≠ "_":=by simpa using hn
      unfold Op.eqFields
      have p1:=part_run (w:=w) (E:=E) (cs:=cs) (o:=f.offset) (t:=f.type) hi (.inl ha)
      have p2:=part_run (w:=w) (E:=E) (cs:=ds) (o:=f.offset) (t:=f.type) hi (.inr ha)
      have p3:=ih _ _ _ _ ha
      simp only [ne_eq,hne,not_false_eq_true,if_true,Sem.run_bind,p1,p2,p3,Result.andThen_ok]
      cases a
      ·simp
      ·simp only [Bool.not_true,Bool.false_eq_true,if_false,Bool.true_and]
       exact eqFs_run ih fs hb'
     ·cases h
    ·cases h
   ·cases h
theorem eqS_run {P:Program} {w:World} {E:Env} {n:Nat}:∀ (d:Nat) {t:TypeId} {cs ds:List SC} {b:Bool},eqS P d t cs ds=some b→(Op.equalIn (n+d) t (cellV P t E cs) (cellV P t E ds)).run P w=.ok b w
 | 0,_,_,_,_,h=>by cases h
 | d+1,t,cs,ds,b,h=>by
  unfold eqS at h
  split at h
  ·rename_i k hu
   split at h
   ·rename_i k1 m k2 n'
    cases hk:decide (k1=k2) with
    | false=>rw [hk] at h;cases h
    | true =>
     rw [hk] at h;cases h
     have:k1=k2:=by simpa using hk
     subst this
     simp only [cellV,aggOf,hu,cond_false,den]
     exact run_equalIn_int w (n+d) t k1 k m n' hu
   ·cases h
  ·rename_i hu
   split at h
   ·cases h
    simp only [cellV,aggOf,hu,cond_false,den]
    exact run_equalIn_bool w (n+d) t _ _ hu
   ·cases h
  ·rename_i hu
   split at h
   ·cases h
    simp only [cellV,aggOf,hu,cond_false,den]
    exact run_equalIn_string w (n+d) t _ _ hu
   ·cases h
  ·rename_i fs hu
   cases hs:P.stoodInHeld t with
   | true=>rw [hs] at h;cases h
   | false =>
    rw [hs] at h
    simp only [cond_false] at h
    have hf:P.fieldsOf t=fs:=by simp [Program.fieldsOf,hu]
    have hr:=run_equalIn_struct w (n+d) t (cs.map (den E)).toArray (ds.map (den E)).toArray (by rw [hf];exact hu) hs
    rw [hf] at hr
    have ha:aggOf P t=true:=by simp [aggOf,hu]
    simp only [cellV,ha,cond_true]
    rw [show n+(d+1)=n+d+1 from rfl,hr]
    exact eqFs_run (fun t cs ds b h=>eqS_run d h) _ h
  ·rename_i m el hu
   split at h
   ·rename_i i hi
    cases hs:i.size==P.cellsOf el with
    | false=>rw [hs] at h;cases h
    | true =>
     rw [hs] at h
     simp only [cond_true] at h
     have hr:=run_equalIn_array w (n+d) (cs.map (den E)).toArray (ds.map (den E)).toArray hu hi
     have ha:aggOf P t=true:=by simp [aggOf,hu]
     simp only [cellV,ha,cond_true]
     rw [show n+(d+1)=n+d+1 from rfl,hr]
     exact eqAs_run hi (by simpa using hs) (fun t cs ds b h=>eqS_run d h) _ h
   ·cases h
  ·cases h
theorem equal_run {P:Program} {t:TypeId} {cs ds:List SC} {b:Bool} (ha:aggOf P t=true) (h:eqS P 20 t cs ds=some b) (E:Env) (w:World) :
  (Op.equal t (.agg (cs.map (den E)).toArray) (.agg (ds.map (den E)).toArray)).run P w=.ok b w:=by
 have:=eqS_run (w:=w) (E:=E) (n:=9980) 20 h
 simpa [cellV,ha,Op.equal,Op.maxDepth] using this
end Go.Kx
end
section
namespace Go.Kx
variable [LxP]
def mkL {α:Type} (z:α) (l c:Int):Option (List α):=bif decide (0≤l) && decide (l≤c) && decide (c≤4294967296) then some (List.replicate l.toNat z) else none
section
variable {X:Ctx} {s:St} {ops:Array Oper} {todo:Act→World→Prop} {tt:List (Nat × TD)}
theorem wrap_small {n:Int} (h0:0≤n) (h1:n≤4294967296):IntKind.i64.wrap n=n:=by
 simp [IntKind.wrap,IntKind.signed,IntKind.bits]
 omega
theorem zero_row {α:Type} {R:TRep α} {z:α} {E:Env} {F:FSet} {w:World} {zs:List SC} (hr:RowL R F w [z] (zs.map (den E))) (n:Nat) {arr:Array Value}
  (harr:arr.toList=(zeroRow zs (n * R.sz)).map (den E)) (m:Nat) (hm:m≤n):Row R F w (List.replicate m z) arr 0:=by
 have hlen:zs.length=R.sz:=by have:=hr.1;simpa using this
 intro i x hx
 rw [List.getElem?_replicate] at hx
 split at hx
 ·rename_i hi
  cases hx
  obtain ⟨vs,h1,h2⟩:=hr.2 0 z rfl
  refine ⟨vs,h1,fun j v hj=>?_⟩
  have h3:=h2 j v hj
  rw [Nat.zero_mul,Nat.zero_add,List.getElem?_map,Option.map_eq_some_iff] at h3
  obtain ⟨c,hc,rfl⟩:=h3
  have hjl:j < zs.length:=(List.getElem?_eq_some_iff.1 hc).1
  rw [← Array.getElem?_toList,harr,Nat.zero_add,List.getElem?_map,Option.map_eq_some_iff]
  refine ⟨c,?_,rfl⟩
  unfold zeroRow
  have hlt:i * R.sz+j < n * R.sz:=by
   have:(i+1) * R.sz≤n * R.sz:=Nat.mul_le_mul_right _ (by omega)
   rw [Nat.add_mul] at this
   omega
  rw [List.getElem?_map,List.getElem?_range hlt]
  simp only [Option.map_some,Option.some.injEq]
  have hmod:(i * R.sz+j) % zs.length=j:=by
   rw [hlen,Nat.mul_comm,Nat.mul_add_mod]
   exact Nat.mod_eq_of_lt (by omega)
  rw [hmod,List.getD,hc]
  rfl
 ·cases hx
theorem WPr.mk {α:Type} {R:TRep α} (O:Opn R) (htt:TTOk X.P tt) (z:α) {i:Nat} {rest:List Nat} {o:Oper} {t:TypeId} {td te:TD} {x y:Operand} {d:Nat} {k k':IntKind} {l c:Int} {xs:List α}
    (hm:mkL z l c=some xs) (ho:ops[i]? = some o) (hg:guardV ops s.L o=some true) (hop:o.op=.makeSlice t x y) (hd:o.dst=some d) (ht:look tt t=some td) (hte:look tt td.el=some te)
    (hx:evalO s.L x=some (.c (.i k l))) (hy:evalO s.L y=some (.c (.i k' c))) (hk:chkRow O (look s.V) [z] te.z)
    (hc:(Nat.blt d X.fn.ntmps && Nat.beq td.kd 6 && Nat.beq td.es R.sz && Nat.ble td.eb 32768 && !te.z.isEmpty)=true)
    (kk:WPr X ops rest todo ⟨(d,.c (.sl s.nx))::s.L,(s.nx,.own R xs true)::s.M,s.V,s.nx+1⟩):WPr X ops (i::rest) todo s:=by
  refine WPr.op ho hg (fun E F w a hs=>?_) kk
  simp only [Bool.and_eq_true] at hc
  obtain ⟨⟨⟨⟨c1,c2⟩,c3⟩,c4⟩,c5⟩:=hc
  have c3:=Nat.eq_of_beq_eq_true c3
  have c4:=Nat.le_of_ble_eq_true c4
  obtain ⟨e1,_⟩:=hs.eval hx
  obtain ⟨e2,_⟩:=hs.eval hy
  unfold mkL at hm
  cases hq:(decide (0≤l) && decide (l≤c) && decide (c≤4294967296)) with
  | false=>rw [hq] at hm;cases hm
  | true =>
    rw [hq] at hm;cases hm
    simp only [Bool.and_eq_true,decide_eq_true_eq] at hq
    obtain ⟨⟨q0,q1⟩,q2⟩:=hq
    obtain ⟨ie,hu,hie,hsz,heb,_⟩:=(htt.get ht).slc c2
    have hz:(sizeOf td.el).run X.P w=.ok td.es w:=by simp [sizeOf,typeInfo,hie,hsz]
    obtain ⟨zv,hzr,hzc⟩:=run_zeroValue' w (htt.get hte)
    have hzl:te.z.length=td.es:=by
      have h1:=(htt.get hte).2.2.2
      obtain ⟨i',z',hi',hs',_⟩:=(htt.get hte).info
      rw [hie] at hi'
      cases hi'
      rw [h1,← hs',hsz]
    have hzne:te.z≠[]:=by intro h;rw [h] at c5;simp at c5
    have hcc:(c.toNat:Int)=c:=Int.toNat_of_nonneg (by omega)
    have hrun:(execOp a.eval o).run X.P w=.ok (.value (.slice (some ⟨w.heap.size,0,none⟩) l.toNat c.toNat)) (w.alloc (.cells ((Array.range (c.toNat * td.es)).map (zv.cells[· % zv.cells.size]!)) td.el)):=by
      simp only [execOp,hop,e1,e2,denV,den]
      refine exec_v ?_
      have w1:IntKind.i64.wrap l=l:=wrap_small q0 (by omega)
      have w2:IntKind.i64.wrap c=c:=wrap_small (by omega) q2
      have hmul:(td.eb:Int) * c≤32768 * 4294967296:=Int.mul_le_mul (by omega) q2 (by omega) (by omega)
      have n1:¬ c < 0:=by omega
      have n2:¬ l < 0:=by omega
      have n3:¬ c < l:=by omega
      have n4:¬ (2:Int) ^ 48 < (td.eb:Int) * c:=by omega
      have n5:¬ roomBytes < c.toNat * td.eb:=by
        have:((c.toNat * td.eb:Nat):Int)=c * td.eb:=by rw [Int.natCast_mul,hcc]
        have h3:c * (td.eb:Int)=td.eb * c:=Int.mul_comm _ _
        show ¬ 2 ^ 47 < c.toNat * td.eb
        omega
      have hti:(typeInfo td.el).run X.P w=.ok ie w:=by simp [typeInfo,hie]
      simp only [Instr.makeSlice,Sem.run_bind,run_underlying' hu,Result.andThen_ok,asInt,asIntOf,Sem.run_pure,hti,heb,w1,w2]
      simp only [n1,n2,n3,n4,decide_false,Bool.or_false,Bool.or_self,gt_iff_lt,Bool.false_eq_true,if_false,askRoom,n5,Sem.run_pure,Sem.run_bind,Result.andThen_ok,hz]
      by_cases h0:c.toNat * td.es=0
      · have key:∀ f:Nat→Value,(Array.range (c.toNat * td.es)).map f=#[]:=by intro f;rw [h0];simp
        simp only [h0,if_true,Sem.run_pure,Result.andThen_ok]
        rw [h0] at key
        rw [key]
        simp [newRow]
        congr 2
        apply Array.ext<;>simp
      · simp [h0,hzr,newRow]
    refine wp_value hrun ?_
    have hrow:=chkRow_ok O (E:=E) (F:=F) (w:=w) (fun k f h=>hs.hV k f h) hk
    have harr:=zeroRow_ok (hzc E) (c.toNat * td.es) (.inr hzne)
    have hlc:l.toNat≤c.toNat:=by omega
    have hx:=hs.newRow (R:=R) (xs:=List.replicate l.toNat z) (arr:=(Array.range (c.toNat * td.es)).map (zv.cells[· % zv.cells.size]!)) (ty:=td.el) (cap:=c.toNat)
      (fun w' g=>zero_row (hrow.mono g) c.toNat (by rw [← c3];exact harr) l.toNat hlc) (by simpa using hlc) (by simp [c3]) (d:=d) (blt_lt c1) (w2:=w.alloc _) rfl rfl rfl .m
    rw [List.length_replicate] at hx
    rw [hd]
    exact hx
end
end Go.Kx
end
section
namespace Go.Kx
variable [LxP]
section keys
def SC.kp (p:Nat→Bool):SC→Bool
 | .sl k | .bp k _ | .px k _ | .sp k _ _ _=>p k
 | .cl _ fs ks=>fs.all p && ks.all p
 | _=>true
def SV.kp (p:Nat→Bool):SV→Bool
 | .c x=>x.kp p
 | .a cs=>cs.all (SC.kp p)
 | .t vs=>vs.all fun v=>match v with | .inl x=>SC.kp p x | .inr cs=>cs.all (SC.kp p)
 | .u=>true
def VF.kp (p:Nat→Bool):VF→Bool
 | .pl cs=>cs.all (SC.kp p)
 | .el k _ | .vw k _ _ _=>p k
 | _=>true
def MO.kp (p:Nat→Bool):MO→Bool
 | .box cs _=>cs.all (SC.kp p)
 | _=>true
def Env.Eqp (p:Nat→Bool) (E E':Env):Prop:=∀ k,p k=true→E'.ρ k=E.ρ k∧E'.β k=E.β k
variable {p:Nat→Bool} {E E':Env}
theorem denB_eqp (h:E.Eqp p E') {ks:List Nat} (hk:ks.all p=true):denB E' ks=denB E ks:=by
 unfold denB
 rw [List.map_congr_left fun k hm=>by rw [(h k (List.all_eq_true.1 hk k hm)).2]]
theorem den_eqp (h:E.Eqp p E'):∀ {x:SC},x.kp p=true→den E' x=den E x
 | .sl k,hx=>(h k hx).1
 | .bp k o,hx=>by simp [den,(h k hx).2]
 | .px k o,hx=>by simp [den,(h k hx).1]
 | .sp k _ _ _,hx=>by simp only [den,(h k hx).1,(h k hx).2]
 | .cl f fs ks,hx=>by
  simp only [SC.kp,Bool.and_eq_true] at hx
  simp only [den,denB_eqp h hx.1,denB_eqp h hx.2]
 | .i _ _,_ | .b _,_ | .s _,_ | .v _,_ | .nil,_=>rfl
theorem den_map_eqp (h:E.Eqp p E') {cs:List SC} (hc:cs.all (SC.kp p)=true):cs.map (den E')=cs.map (den E) :=
 List.map_congr_left fun x hx=>den_eqp h (List.all_eq_true.1 hc x hx)
theorem denV_eqp (h:E.Eqp p E'):∀ {x:SV},x.kp p=true→denV E' x=denV E x
 | .c _,hx=>den_eqp h hx
 | .a cs,hx=>by simp only [denV,den_map_eqp h hx]
 | .t vs,hx=>by
  simp only [denV]
  have:vs.map (denS E')=vs.map (denS E):=List.map_congr_left fun v hv=>by
   have hk:=List.all_eq_true.1 hx v hv
   cases v with
   | inl x=>exact den_eqp h hk
   | inr cs=>simp only [denS,den_map_eqp h hk]
  rw [this]
 | .u,_=>rfl
theorem VF.ok.eqp (h:E.Eqp p E') {F w v}:∀ {f:VF},f.kp p=true→f.ok E F w v→f.ok E' F w v
 | .sl _ _,_,hf=>hf
 | .pl cs,hk,⟨b,off,arr,ty,fz,hv,hF,hh,hx⟩=>⟨b,off,arr,ty,fz,hv,hF,hh,fun j x hj=>by
   rw [den_eqp h (List.all_eq_true.1 hk x (List.mem_of_getElem? hj))];exact hx j x hj⟩
 | .el k j,hk,hf=>by show _=addP (E'.ρ k) j∧_;rw [(h k hk).1];exact hf
 | .vw k l h' sz,hk,hf=>by show _=vwf l h' sz (E'.ρ k);rw [(h k hk).1];exact hf
 | .fn _,_,hf=>hf
theorem MO.ok.eqp (h:E.Eqp p E') {F w} {k:Nat} (hk:p k=true):∀ {m:MO},m.kp p=true→m.ok E F w k→m.ok E' F w k
 | .box cs t,hm,h'=>by
  show w.heap[E'.β k]? = _
  rw [(h k hk).2,den_map_eqp h hm];exact h'
 | .own _ _ _,_,h'=>by show OwnR _ _ _ _ (E'.ρ k);rw [(h k hk).1];exact h'
 | .abs _,_,h'=>h'
 | .buf _ _,_,h'=>by show BufR _ _ _ (E'.ρ k);rw [(h k hk).1];exact h'
 | .av A,_,h'=>by show A.ok _ _ (E'.ρ k);rw [(h k hk).1];exact h'
 | .gone,_,_=>trivial
theorem MO.fp_eqp (h:E.Eqp p E') {k:Nat} (hk:p k=true):∀ {m:MO} {b:Nat},m.fp E' k b↔m.fp E k b
 | .box _ _,b=>by simp only [MO.fp];rw [(h k hk).2]
 | .own _ _ _,b=>by simp only [MO.fp];rw [(h k hk).1]
 | .abs _,_=>Iff.rfl
 | .buf _ _,b=>by simp only [MO.fp];rw [(h k hk).1]
 | .av _,b=>by simp only [MO.fp];rw [(h k hk).1]
 | .gone,_=>Iff.rfl
variable {n:Nat}
theorem SC.kp_of_kb (h:∀ k,k < n→p k=true):∀ {x:SC},x.kb n→x.kp p=true
 | .sl k,hx | .bp k _,hx | .px k _,hx | .sp k _ _ _,hx=>h k hx
 | .cl f fs ks,hx=>by simp only [SC.kp,Bool.and_eq_true,List.all_eq_true];exact ⟨fun k hk=>h k (hx.1 k hk),fun k hk=>h k (hx.2 k hk)⟩
 | .i _ _,_ | .b _,_ | .s _,_ | .v _,_ | .nil,_=>rfl
theorem SV.kp_of_kb (h:∀ k,k < n→p k=true):∀ {x:SV},x.kb n→x.kp p=true
 | .c _,hx=>SC.kp_of_kb h hx
 | .a cs,hx=>List.all_eq_true.2 fun x hm=>SC.kp_of_kb h (hx x hm)
 | .t vs,hx=>List.all_eq_true.2 fun v hm=>by
  have:=hx v hm
  cases v with
  | inl x=>exact SC.kp_of_kb h this
  | inr cs=>exact List.all_eq_true.2 fun x hm=>SC.kp_of_kb h (this x hm)
 | .u,_=>rfl
theorem VF.kp_of_kb (h:∀ k,k < n→p k=true):∀ {x:VF},x.kb n→x.kp p=true
 | .pl cs,hx=>List.all_eq_true.2 fun x hm=>SC.kp_of_kb h (hx x hm)
 | .el k _,hx | .vw k _ _ _,hx=>h k hx
 | .sl _ _,_ | .fn _,_=>rfl
theorem MO.kp_of_kb (h:∀ k,k < n→p k=true):∀ {x:MO},x.kb n→x.kp p=true
 | .box cs _,hx=>List.all_eq_true.2 fun x hm=>SC.kp_of_kb h (hx x hm)
 | .own _ _ _,_ | .abs _,_ | .buf _ _,_ | .av _,_ | .gone,_=>rfl
theorem SC.kp_mono {q:Nat→Bool} (h:∀ k,p k=true→q k=true):∀ {x:SC},x.kp p=true→x.kp q=true
 | .sl k,hx | .bp k _,hx | .px k _,hx | .sp k _ _ _,hx=>h k hx
 | .cl f fs ks,hx=>by
  simp only [SC.kp,Bool.and_eq_true,List.all_eq_true] at hx ⊢;exact ⟨fun k hk=>h k (hx.1 k hk),fun k hk=>h k (hx.2 k hk)⟩
 | .i _ _,_ | .b _,_ | .s _,_ | .v _,_ | .nil,_=>rfl
theorem SCs.kp_mono {q:Nat→Bool} (h:∀ k,p k=true→q k=true) {cs:List SC} (hx:cs.all (SC.kp p)=true):cs.all (SC.kp q)=true :=
 List.all_eq_true.2 fun x hm=>SC.kp_mono h (List.all_eq_true.1 hx x hm)
theorem SV.kp_mono {q:Nat→Bool} (h:∀ k,p k=true→q k=true):∀ {x:SV},x.kp p=true→x.kp q=true
 | .c _,hx=>SC.kp_mono h hx
 | .a cs,hx=>SCs.kp_mono h hx
 | .t vs,hx=>List.all_eq_true.2 fun v hm=>by
  have:=List.all_eq_true.1 hx v hm
  cases v with
  | inl x=>exact SC.kp_mono h this
  | inr cs=>exact SCs.kp_mono h this
 | .u,_=>rfl
theorem VF.kp_mono {q:Nat→Bool} (h:∀ k,p k=true→q k=true):∀ {x:VF},x.kp p=true→x.kp q=true
 | .pl cs,hx=>SCs.kp_mono h hx
 | .el k _,hx | .vw k _ _ _,hx=>h k hx
 | .sl _ _,_ | .fn _,_=>rfl
theorem MO.kp_mono {q:Nat→Bool} (h:∀ k,p k=true→q k=true):∀ {x:MO},x.kp p=true→x.kp q=true
 | .box cs _,hx=>SCs.kp_mono h hx
 | .own _ _ _,_ | .abs _,_ | .buf _ _,_ | .av _,_ | .gone,_=>rfl
end keys
structure Ent:Type 1 where
 L:List (Nat × SV)
 V:List (Nat × VF)
 W:List (Nat × MO)
 R:List (Nat × MO)
 k0:Nat
 dL:List (Nat × SV)
 dV:List (Nat × VF)
 dM:List (Nat × MO)
 k1:Nat
@[reducible] def Ent.s (e:Ent):St:=⟨e.L,e.W++e.R,e.V,e.k0⟩
@[reducible] def Ent.s' (e:Ent):St:=⟨e.dL,e.dM++e.R,e.dV,e.k1⟩
@[reducible] def Ctx.var (X:Ctx) (nk:Nat) (E0:Env) (F0:FSet) (w0:World) (n0:Nat) (Z:FSet):Ctx:={ X with nk:=nk,E0:=E0,F0:=F0,w0:=w0,n0:=n0,Z:=Z }
theorem Oper.wp_put {P:Program} {o:Oper} {a:Act} {w:World} {K:Act→World→Prop} {Q:Exit→Act→World→Prop} (h:o.wp P a w K Q) :
  o.wp P a w (fun a' w'=>K a' w'∧((∃ v,a'=a.put o.dst v)∨∃ d l,a'.defers=d::l)) Q:=by
 unfold Oper.wp at *
 generalize (execOp a.eval o).run P w=r at *
 cases r with
 | ok n w' =>
  cases n<;>simp only [Oper.upon] at h ⊢
  case value u=>exact ⟨h,.inl ⟨u,rfl⟩⟩
  case skip=>exact ⟨h,.inl ⟨undef,rfl⟩⟩
  case defer d=>exact ⟨h,.inr ⟨d,a.defers,by rw [put_defers]⟩⟩
  case enter f args =>
   refine Calls.mono h fun e w'' he=>?_
   cases e with
   | returned u=>exact ⟨he,.inl ⟨u,rfl⟩⟩
   | panicked c=>exact he
   | outgrown=>exact he
  case row row args=>exact Rows.mono h fun u w'' he=>⟨he,.inl ⟨u,rfl⟩⟩
 | halt x w' =>
  cases x<;>simp only [Oper.upon] at h ⊢
  case panic u=>exact h
section
variable {X:Ctx} {s:St} {E:Env} {F:FSet} {w:World} {a:Act} {o:Oper} {e:Ent}
theorem put_ne {a:Act} {x:Option Tmp} {u:Value} {d:Nat} (h:x≠some d):(a.put x u).tmps[d]? = a.tmps[d]? := by
 cases x with
 | none=>rfl
 | some d'=>have:d'≠d:=fun e=>h (by rw [e]);simp [Act.put,this]
theorem dst_none {d:Nat} (hd:e.dL.map (·.1)=o.dst.toList) (h:look e.dL d=none):o.dst≠some d:=fun hx=>by
  rw [hx] at hd
  simp only [Option.toList_some] at hd
  obtain ⟨q,hq,he⟩:=List.mem_map.1 (show d∈e.dL.map (·.1) by rw [hd];simp)
  exact look_none_of h q.2 (by rw [← he];exact hq)
theorem LS.frame (hs:Sat X s E F w a) (hd:e.dL.map (·.1)=o.dst.toList)
    (st:∀ nk E0 F0 w0 n0 Z E F w a,Sat (X.var nk E0 F0 w0 n0 Z) e.s E F w a→o.wp X.P a w (fun a' w'=>∃ E' F',Sat (X.var nk E0 F0 w0 n0 Z) e.s' E' F' w' a') (fun _ _ _=>False))
    (wf:e.s.Wf) (nL:∀ d v,look e.L d=some v→look s.L d=some v) (nV:∀ k f,look e.V k=some f→look s.V k=some f)
    (nM:∀ k m,look (e.W++e.R) k=some m→look s.M k=some m) (hW:∀ k,look e.dM k=none→look e.W k=none)
    (hk0:X.nk≤e.k0) (hk:e.k0≤e.k1) (hnx:e.k1≤s.nx) {p:Nat→Bool} (hp:∀ k,p k=true→¬ (e.k0≤k∧k < e.k1))
    (pL:∀ d v,look s.L d=some v→v.kp p=true) (pM:∀ k m,look s.M k=some m→p k=true∧m.kp p=true) (pV:∀ k f,look s.V k=some f→p k=true∧f.kp p=true) :
    o.wp X.P a w (fun a' w'=>∃ E' F',Sat X ⟨e.dL++s.L,e.dM++s.M,e.dV++s.V,s.nx⟩ E' F' w' a') (fun _ _ _=>False):=by
  let Z':FSet:=fun b=>X.Z b∨F b∨∃ k m,look s.M k=some m∧look (e.W++e.R) k=none∧m.fp E k b
  have h1:Sat (X.var e.k0 E F w X.n0 Z') e.s E F w a:={
    wf:=wf
    nk:=Nat.le_refl _
    defers:=hs.defers
    size:=hs.size
    hL:=fun d v h=>hs.hL d v (nL d v h)
    hV:=fun k f h=>hs.hV k f (nV k f h)
    hM:=fun k m h=>hs.hM k m (nM k m h)
    dis:=fun k k' m m' h h'=>hs.dis k k' m m' (nM k m h) (nM k' m' h')
    mF:=fun k m h b hb=>by
      have h0:=hs.mF k m (nM k m h) b hb
      refine ⟨h0.1,?_,h0.2.2⟩
      rintro (hz | hz | ⟨k',m',h3,h4,h5⟩)
      · exact h0.2.1 hz
      · exact h0.1 hz
      · refine hs.dis k k' m m' (nM k m h) h3 (fun hkk=>?_) b hb h5
        subst hkk
        have hh:look (e.W++e.R) k=some m:=h
        rw [h4] at hh;cases hh
    fresh:=fun k m h=>hs.fresh k m (nM k m h)
    hF:=hs.hF
    hF0:=fun _ h=>h
    hF1:=fun _ h=>.inl h
    hn0:=Nat.le_trans hs.hn0 hs.ext.size
    hZ:=fun b hz=>by
      rcases hz with hz | hz | ⟨k',m',h3,h4,h5⟩
      · exact Nat.lt_of_lt_of_le (hs.hZ b hz) hs.ext.size
      · exact hs.hF b hz
      · exact (hs.mF k' m' h3 b h5).2.2
    ext:=Ext.refl _ _
    link:=Env.Eqb.refl _ _
    one:=hs.one }
  refine Oper.wp_mono (fun a' w' hq=>?_) (Oper.wp_put (st _ _ _ _ _ _ E F w a h1))
  obtain ⟨⟨E',F',h2⟩,hput⟩:=hq
  have hput':∃ v,a'=a.put o.dst v:=by
    rcases hput with h | ⟨d,l,h⟩
    · exact h
    · rw [h2.defers] at h;cases h
  obtain ⟨u,rfl⟩:=hput'
  let E2:Env:=⟨fun k=>if e.k0≤k∧k < e.k1 then E'.ρ k else E.ρ k,fun k=>if e.k0≤k∧k < e.k1 then E'.β k else E.β k⟩
  have q1:E.Eqp p E2:=fun k hk=>by
    have:=hp k hk
    simp only [E2,if_neg this,and_self]
  have hlink:E.Eqb e.k0 E':=h2.link
  have q2:E'.Eqb e.k1 E2:=fun k hk=>by
    by_cases hc:e.k0≤k∧k < e.k1
    · simp only [E2,if_pos hc,and_self]
    · have:=hlink k (by omega)
      simp only [E2,if_neg hc,this,and_self]
  have hext:Ext Z' w w':=h2.ext
  have g:Grow F w F' w':=⟨h2.hF0,fun b hb=>hext.block b (.inr (.inl hb))⟩
  have cl:∀ k m,look (e.dM++s.M) k=some m→look (e.dM++e.R) k=some m∨(look s.M k=some m∧look (e.W++e.R) k=none):=fun k m h=>by
    rw [look_append] at h ⊢
    cases hd:look e.dM k with
    | some x=>rw [hd] at h;exact .inl h
    | none =>
      rw [hd] at h
      simp only [] at h ⊢
      have hw:=hW k hd
      cases hr:look e.R k with
      | some y =>
        have:=nM k y (by rw [look_append,hw];exact hr)
        rw [h] at this
        exact .inl this.symm
      | none=>exact .inr ⟨h,by rw [look_append,hw];exact hr⟩
  have fA:∀ k m,look (e.dM++e.R) k=some m→∀ b,m.fp E2 k b→m.fp E' k b:=fun k m h b hb=>(MO.fp_eqb q2 (h2.wf.hM k m h).1).1 hb
  have fB:∀ k m,look s.M k=some m→∀ b,m.fp E2 k b→m.fp E k b:=fun k m h b hb=>(MO.fp_eqp q1 (pM k m h).1).1 hb
  refine ⟨E2,F',?_⟩
  exact {
    wf:=⟨fun d v h=>by
        rw [look_append] at h
        split at h
        · rename_i x hx;cases h;exact (h2.wf.hL d _ hx).mono hnx
        · exact hs.wf.hL d v h,fun k m h=>by
        rcases cl k m h with h | ⟨h,_⟩
        · exact ⟨Nat.lt_of_lt_of_le (h2.wf.hM k m h).1 hnx,(h2.wf.hM k m h).2.mono hnx⟩
        · exact hs.wf.hM k m h,fun k f h=>by
        rw [look_append] at h
        split at h
        · rename_i x hx;cases h;exact ⟨Nat.lt_of_lt_of_le (h2.wf.hV k _ hx).1 hnx,(h2.wf.hV k _ hx).2.mono hnx⟩
        · exact hs.wf.hV k f h⟩
    nk:=hs.nk
    defers:=h2.defers
    size:=h2.size
    hL:=fun d v h=>by
      rw [look_append] at h
      split at h
      · rename_i x hx
        cases h
        rw [denV_eqb q2 (h2.wf.hL d _ hx)]
        exact h2.hL d _ hx
      · rename_i hx
        rw [put_ne (dst_none hd hx),denV_eqp q1 (pL d v h)]
        exact hs.hL d v h
    hV:=fun k f h=>by
      rw [look_append] at h
      split at h
      · rename_i x hx
        cases h
        have:=(h2.hV k _ hx).eqb q2 (h2.wf.hV k _ hx).2
        rw [(q2 k (h2.wf.hV k _ hx).1).1]
        exact this
      · have:=((hs.hV k f h).mono g).eqp q1 (pV k f h).2
        rw [(q1 k (pV k f h).1).1]
        exact this
    hM:=fun k m h=>by
      rcases cl k m h with h | ⟨h,h'⟩
      · exact (h2.hM k m h).eqb q2 (h2.wf.hM k m h).1 (h2.wf.hM k m h).2
      · exact ((hs.hM k m h).mono g fun b hb=>hext.block b (.inr (.inr ⟨k,m,h,h',hb⟩))).eqp q1 (pM k m h).1 (pM k m h).2
    dis:=fun k k' m m' h h' hne b hb hb'=>by
      rcases cl k m h with h | ⟨h,g1⟩
      · rcases cl k' m' h' with h' | ⟨h',g2⟩
        · exact h2.dis k k' m m' h h' hne b (fA k m h b hb) (fA k' m' h' b hb')
        · exact (h2.mF k m h b (fA k m h b hb)).2.1 (.inr (.inr ⟨k',m',h',g2,fB k' m' h' b hb'⟩))
      · rcases cl k' m' h' with h' | ⟨h',g2⟩
        · exact (h2.mF k' m' h' b (fA k' m' h' b hb')).2.1 (.inr (.inr ⟨k,m,h,g1,fB k m h b hb⟩))
        · exact hs.dis k k' m m' h h' hne b (fB k m h b hb) (fB k' m' h' b hb')
    mF:=fun k m h b hb=>by
      rcases cl k m h with h | ⟨h,g1⟩
      · have:=h2.mF k m h b (fA k m h b hb)
        exact ⟨this.1,fun hz=>this.2.1 (.inl hz),this.2.2⟩
      · have h0:=hs.mF k m h b (fB k m h b hb)
        refine ⟨fun hF'=>?_,h0.2.1,Nat.lt_of_lt_of_le h0.2.2 hext.size⟩
        rcases h2.hF1 b hF' with h3 | h3
        · exact h0.1 h3
        · exact h3.2 (.inr (.inr ⟨k,m,h,g1,fB k m h b hb⟩))
    fresh:=fun k m h hf b hb=>by
      rcases cl k m h with h | ⟨h,g1⟩
      · exact h2.fresh k m h hf b (fA k m h b hb)
      · exact hs.fresh k m h hf b (fB k m h b hb)
    hF:=h2.hF
    hF0:=fun b hb=>h2.hF0 b (hs.hF0 b hb)
    hF1:=fun b hb=>by
      rcases h2.hF1 b hb with h3 | h3
      · exact hs.hF1 b h3
      · exact .inr ⟨h3.1,fun hz=>h3.2 (.inl hz)⟩
    hn0:=hs.hn0
    hZ:=hs.hZ
    ext:=hs.ext.trans (hext.mono fun _ hz=>.inl hz)
    link:=hs.link.trans fun k hk=>by
      have:¬ (e.k0≤k∧k < e.k1):=by omega
      simp only [E2,if_neg this,and_self]
    one:=fun k=>by
      simp only [E2]
      split
      · exact h2.one k
      · exact hs.one k }
theorem LS.skipped (hs:Sat X s E F w a) (hd:e.dL.map (·.1)=o.dst.toList) (hu:∀ d v,(d,v)∈e.dL→v=.u∧d < X.fn.ntmps) (h1:e.dM=[]) (h2:e.dV=[]) :
    Sat X ⟨e.dL++s.L,e.dM++s.M,e.dV++s.V,s.nx⟩ E F w (a.put o.dst undef):=by
  rw [h1,h2]
  cases ho:o.dst with
  | none =>
    rw [ho] at hd
    simp only [Option.toList_none,List.map_eq_nil_iff] at hd
    rw [hd]
    exact hs
  | some d =>
    rw [ho] at hd
    simp only [Option.toList_some] at hd
    obtain ⟨q,hq⟩:∃ q,e.dL=[q]:=by
      cases hl:e.dL with
      | nil=>rw [hl] at hd;cases hd
      | cons q r=>rw [hl] at hd;simp only [List.map_cons,List.cons.injEq,List.map_eq_nil_iff] at hd;exact ⟨q,by rw [hd.2]⟩
    obtain ⟨d',v⟩:=q
    obtain ⟨rfl,hlt⟩:=hu d' v (by rw [hq];simp)
    rw [hq] at hd ⊢
    simp only [List.map_cons,List.map_nil,List.cons.injEq,and_true] at hd
    subst hd
    exact hs.setL (v:=.u) trivial hlt
end
def LS (X:Ctx) (ops:Array Oper) (i:Nat) (e:Ent):Prop:=∃ o,ops[i]? = some o∧e.dL.map (·.1)=o.dst.toList ∧
  ((guardV ops e.L o=some true∧∀ nk E0 F0 w0 n0 Z E F w a,Sat (X.var nk E0 F0 w0 n0 Z) e.s E F w a →
      o.wp X.P a w (fun a' w'=>∃ E' F',Sat (X.var nk E0 F0 w0 n0 Z) e.s' E' F' w' a') (fun _ _ _=>False)) ∨
   (guardV ops e.L o=some false∧(∀ d v,(d,v)∈e.dL→v=.u∧d < X.fn.ntmps)∧e.dM=[]∧e.dV=[]))
section
variable {α:Type _} {dl:Nat→List (Nat × α)} {dn dn':Nat→Bool} {b:List (Nat × α)}
def gath (dl:Nat→List (Nat × α)) (dn:Nat→Bool) (b:List (Nat × α)):Nat→List (Nat × α)
 | 0=>b
 | j+1=>bif dn j then dl j++gath dl dn b j else gath dl dn b j
theorem look_gath_congr {k:Nat}:∀ {n:Nat},(∀ j,j < n→(look (dl j) k).isSome=true→dn j=dn' j)→look (gath dl dn b n) k=look (gath dl dn' b n) k
 | 0,_=>rfl
 | n+1,h=>by
  have ih:=look_gath_congr (n:=n) fun j hj=>h j (by omega)
  have hn:=h n (by omega)
  simp only [gath]
  cases hl:look (dl n) k with
  | some v =>
   rw [hn (by rw [hl];rfl)]
   cases dn' n
   ·exact ih
   ·simp only [cond_true,look_append,hl]
  | none =>
   cases dn n<;>cases dn' n<;>simp only [cond_true,cond_false,look_append,hl,ih]
theorem look_gath_add {i k:Nat}:∀ {n:Nat},i < n→dn i=false→(∀ j,j≠i→dn' j=dn j)→dn' i=true →
  ((look (dl i) k).isSome=true→∀ j,i < j→j < n→(look (dl j) k).isSome=true→dn j=false)→look (gath dl dn' b n) k=look (dl i++gath dl dn b n) k
 | 0,hi,_,_,_,_=>absurd hi (Nat.not_lt_zero _)
 | n+1,hi,h0,hne,h1,hlater=>by
  by_cases hin:i=n
  ·subst hin
   have hc:look (gath dl dn' b i) k=look (gath dl dn b i) k:=look_gath_congr fun j hj _=>hne j (by omega)
   simp only [gath,h0,h1,cond_true,cond_false,look_append,hc]
  ·have ih:=look_gath_add (k:=k) (n:=n) (by omega) h0 hne h1 fun hs j hj hjn=>hlater hs j hj (by omega)
   have hn:=hne n (fun e=>hin e.symm)
   simp only [gath,hn]
   cases hdn:dn n with
   | false=>simp only [cond_false];exact ih
   | true =>
    simp only [cond_true,look_append,ih]
    cases hl:look (dl n) k with
    | none=>rfl
    | some v =>
     cases hli:look (dl i) k with
     | none=>rfl
     | some u =>
      have:=hlater (by rw [hli];rfl) n (by omega) (by omega) (by rw [hl];rfl)
      rw [hdn] at this;cases this
theorem look_gath_mem {k:Nat} {v:α}:∀ {n:Nat},look (gath dl dn b n) k=some v→look b k=some v∨∃ j,j < n∧dn j=true∧look (dl j) k=some v
 | 0,h=>.inl h
 | n+1,h=>by
  simp only [gath] at h
  cases hdn:dn n with
  | false =>
   rw [hdn] at h
   rcases look_gath_mem (n:=n) h with h | ⟨j,hj,h1,h2⟩
   ·exact .inl h
   ·exact .inr ⟨j,by omega,h1,h2⟩
  | true =>
   rw [hdn] at h
   simp only [cond_true,look_append] at h
   split at h
   ·rename_i x hx;cases h;exact .inr ⟨n,by omega,hdn,hx⟩
   ·rcases look_gath_mem (n:=n) h with h | ⟨j,hj,h1,h2⟩
    ·exact .inl h
    ·exact .inr ⟨j,by omega,h1,h2⟩
end
def ancB (anc:List Nat) (i j:Nat):Bool:=Nat.testBit (anc.getD i 0) j
def ancF (anc:List Nat):List Edge→Nat
 | []=>0
 | e::r=>bif Region.binds .any e then Nat.lor (Nat.lor (2 ^ e.on) (anc.getD e.on 0)) (ancF anc r) else ancF anc r
theorem ancF_ok {anc:List Nat} {j:Nat}:∀ {l:List Edge},Nat.testBit (ancF anc l) j=true→∃ e∈l,Region.binds .any e=true∧(j=e.on∨ancB anc e.on j=true)
 | [],h=>by simp [ancF] at h
 | e::r,h=>by
  unfold ancF at h
  cases hb:Region.binds .any e with
  | false =>
   rw [hb] at h
   obtain ⟨x,hx,h1⟩:=ancF_ok (l:=r) h
   exact ⟨x,List.mem_cons_of_mem _ hx,h1⟩
  | true =>
   rw [hb] at h
   simp only [cond_true] at h
   have h':Nat.testBit ((2 ^ e.on ||| anc.getD e.on 0) ||| ancF anc r) j=true:=h
   rw [Nat.testBit_or,Nat.testBit_or,Bool.or_eq_true,Bool.or_eq_true] at h'
   rcases h' with (h' | h') | h'
   ·exact ⟨e,List.mem_cons_self,hb,.inl (by rw [Nat.testBit_two_pow] at h';simpa using (of_decide_eq_true h').symm)⟩
   ·exact ⟨e,List.mem_cons_self,hb,.inr h'⟩
   ·obtain ⟨x,hx,h1⟩:=ancF_ok (l:=r) h'
    exact ⟨x,List.mem_cons_of_mem _ hx,h1⟩
def memK {α:Type _} (k:Nat) (l:List (Nat × α)):Bool:=l.any fun q=>Nat.beq q.1 k
def shares {α:Type _} {β:Type _} (l:List (Nat × α)) (r:List (Nat × β)):Bool:=l.any fun q=>memK q.1 r
theorem memK_of {α:Type _} {k:Nat} {l:List (Nat × α)} (h:(look l k).isSome=true):memK k l=true:=by
 obtain ⟨v,hv⟩:=Option.isSome_iff_exists.1 h
 exact List.any_eq_true.2 ⟨_,look_mem hv,by simp⟩
theorem look_of_memK {α:Type _} {k:Nat} {l:List (Nat × α)} (h:memK k l=true):(look l k).isSome=true:=by
 cases hl:look l k with
 | some _=>rfl
 | none =>
  obtain ⟨q,hq,he⟩:=List.any_eq_true.1 h
  obtain rfl:=Nat.eq_of_beq_eq_true he
  exact absurd hq (look_none_of hl q.2)
theorem shares_of {α:Type _} {β:Type _} {l:List (Nat × α)} {r:List (Nat × β)} {k:Nat} (h:(look l k).isSome=true) (g:(look r k).isSome=true):shares l r=true:=by
 obtain ⟨v,hv⟩:=Option.isSome_iff_exists.1 h
 exact List.any_eq_true.2 ⟨_,look_mem hv,memK_of g⟩
def Ent.sh (e f:Ent):Bool:=shares e.L f.dL || shares e.dL f.dL || shares e.V f.dV || shares e.dV f.dV || shares e.W f.dM || shares e.R f.dM || shares e.dM f.dM
def ent0:Ent:=⟨[],[],[],[],0,[],[],[],0⟩
section chk
variable (ops:Array Oper) (ents:List Ent) (anc:List Nat) (nx0 nx:Nat)
def entA (i:Nat):Ent:=ents.getD i ent0
def okK (i k:Nat):Bool:=Nat.blt k nx0 || (List.range ents.length).any fun j=>(Nat.beq j i || ancB anc i j) && Nat.ble (entA ents j).k0 k && Nat.blt k (entA ents j).k1
def chkP (i j:Nat):Bool:=Nat.beq i j || ((!((entA ents i).sh (entA ents j)) || ancB anc i j || ancB anc j i) && (Nat.ble (entA ents i).k1 (entA ents j).k0 || Nat.ble (entA ents j).k1 (entA ents i).k0))
def chkE (i:Nat):Bool :=
  let e:=entA ents i
  let p:=okK ents anc nx0 i
  wfb e.L (e.W++e.R) e.V e.k0 && Nat.ble nx0 e.k0 && Nat.ble e.k0 e.k1 && Nat.ble e.k1 nx && e.W.all (fun q=>memK q.1 e.dM) &&
    e.dL.all (fun q=>q.2.kp p) && e.dM.all (fun q=>p q.1 && q.2.kp p) && e.dV.all (fun q=>p q.1 && q.2.kp p) &&
    (match ops[i]? with
     | some o=>Nat.beq (anc.getD i 0) (ancF anc o.after.toList) && o.after.toList.all (fun d => !Region.binds .any d || Nat.blt d.on i)
     | none=>false)
def chkB:Bool:=Nat.beq ops.size ents.length && Nat.ble nx0 nx && (List.range ents.length).all fun i=>chkE ops ents anc nx0 nx i && (List.range ents.length).all fun j=>chkP ents anc i j
def needs (s:St):List (List (Option SV) × List (Option VF) × List (Option MO)):=(List.range ents.length).map fun i =>
  let e:=entA ents i
  (e.L.map fun q=>look (gath (fun j=>(entA ents j).dL) (ancB anc i) s.L ents.length) q.1,
   e.V.map fun q=>look (gath (fun j=>(entA ents j).dV) (ancB anc i) s.V ents.length) q.1,
   (e.W++e.R).map fun q=>look (gath (fun j=>(entA ents j).dM) (ancB anc i) s.M ents.length) q.1)
def wants:List (List (Option SV) × List (Option VF) × List (Option MO)):=(List.range ents.length).map fun i =>
 let e:=entA ents i
 (e.L.map fun q=>some q.2,e.V.map fun q=>some q.2,(e.W++e.R).map fun q=>some q.2)
def stD (s:St) (dn:Nat→Bool):St :=
 ⟨gath (fun j=>(entA ents j).dL) dn s.L ents.length,gath (fun j=>(entA ents j).dM) dn s.M ents.length,gath (fun j=>(entA ents j).dV) dn s.V ents.length,nx⟩
end chk
inductive AllLS (X:Ctx) (ops:Array Oper):Nat→List Ent→Prop
 | nil {i:Nat}:AllLS X ops i []
 | cons {i:Nat} {e:Ent} {r:List Ent} (h:LS X ops i e) (k:AllLS X ops (i+1) r):AllLS X ops i (e::r)
theorem AllLS.get {X:Ctx} {ops:Array Oper}:∀ {l:List Ent} {i:Nat},AllLS X ops i l→∀ j,j < l.length→LS X ops (i+j) (entA l j)
 | _::_,i,.cons h k,0,_=>h
 | _::r,i,.cons h k,j+1,hj=>by
  have:=k.get j (by simpa using hj)
  rw [show i+(j+1)=i+1+j by omega]
  exact this
def cnt (dn:Nat→Bool):Nat→Nat
 | 0=>0
 | j+1=>cnt dn j+(bif dn j then 0 else 1)
theorem cnt_zero {dn:Nat→Bool}:∀ {n:Nat},cnt dn n=0→∀ j,j < n→dn j=true
 | 0,_,j,hj=>absurd hj (Nat.not_lt_zero _)
 | n+1,h,j,hj=>by
  simp only [cnt] at h
  by_cases e:j=n
  ·subst e
   cases hd:dn j with
   | true=>rfl
   | false=>rw [hd] at h;simp at h
  ·exact cnt_zero (n:=n) (by omega) j (by omega)
theorem cnt_congr {dn dn':Nat→Bool}:∀ {n:Nat},(∀ j,j < n→dn' j=dn j)→cnt dn' n=cnt dn n
 | 0,_=>rfl
 | n+1,h=>by simp only [cnt,cnt_congr (n:=n) fun j hj=>h j (by omega),h n (by omega)]
theorem cnt_add {dn dn':Nat→Bool} {i:Nat}:∀ {n:Nat},i < n→dn i=false→dn' i=true→(∀ j,j≠i→dn' j=dn j)→cnt dn' n+1=cnt dn n
 | 0,h,_,_,_=>absurd h (Nat.not_lt_zero _)
 | n+1,hi,h0,h1,hne=>by
  simp only [cnt]
  by_cases e:i=n
  ·subst e
   rw [cnt_congr (dn:=dn) (dn':=dn') fun j hj=>hne j (by omega),h0,h1];rfl
  ·have:=cnt_add (n:=n) (by omega) h0 h1 hne
   rw [hne n (fun h=>e h.symm)];omega
theorem cnt_false {dn:Nat→Bool}:∀ {n:Nat},(∀ j,j < n→dn j=false)→cnt dn n=n
 | 0,_=>rfl
 | n+1,h=>by simp only [cnt,cnt_false (n:=n) fun j hj=>h j (by omega),h n (by omega)];rfl
theorem Sat.weaken {X:Ctx} {s t:St} {E F w a} (hs:Sat X s E F w a) (hn:t.nx=s.nx) (hL:∀ d v,look t.L d=some v→look s.L d=some v)
  (hM:∀ d v,look t.M d=some v→look s.M d=some v) (hV:∀ d v,look t.V d=some v→look s.V d=some v):Sat X t E F w a:={ hs with
 wf:=⟨fun d v h=>hn ▸ hs.wf.hL d v (hL d v h),fun d v h=>hn ▸ hs.wf.hM d v (hM d v h),fun d v h=>hn ▸ hs.wf.hV d v (hV d v h)⟩
 nk:=hn ▸ hs.nk
 hL:=fun d v h=>hs.hL d v (hL d v h)
 hV:=fun d v h=>hs.hV d v (hV d v h)
 hM:=fun d v h=>hs.hM d v (hM d v h)
 dis:=fun k k' m m' h h'=>hs.dis k k' m m' (hM k m h) (hM k' m' h')
 mF:=fun k m h=>hs.mF k m (hM k m h)
 fresh:=fun k m h=>hs.fresh k m (hM k m h) }
theorem Sat.same {X:Ctx} {s t:St} {E F w a} (hs:Sat X s E F w a) (hn:t.nx=s.nx) (hL:∀ d,look t.L d=look s.L d) (hM:∀ d,look t.M d=look s.M d) (hV:∀ d,look t.V d=look s.V d) :
  Sat X t E F w a:=hs.weaken hn (fun d v h=>by rw [← hL];exact h) (fun d v h=>by rw [← hM];exact h) (fun d v h=>by rw [← hV];exact h)
end Go.Kx
end
section
namespace Go.Kx
variable [LxP]
theorem guardV_mono {ops:Array Oper} {L L':List (Nat × SV)} {o:Oper} {t:Bool} (hm:∀ d v,look L d=some v→look L' d=some v) (h:guardV ops L o=some t):guardV ops L' o=some t:=by
 unfold guardV at *
 split
 ·rename_i hg;rw [hg] at h;exact h
 ·rename_i j want hg
  rw [hg] at h
  simp only [] at h
  split
  ·rename_i oj hj
   rw [hj] at h
   simp only [] at h
   split
   ·rename_i d hd
    rw [hd] at h
    simp only [] at h
    cases hl:look L d with
    | none=>rw [hl] at h;cases h
    | some v=>rw [hl] at h;rw [hm d v hl];exact h
   ·rename_i hd;rw [hd] at h;exact h
  ·rename_i hj;rw [hj] at h;exact h
theorem getD_set {l:Array Bool} {i j:Nat} (hi:i < l.size):(l.setIfInBounds i true).getD j false=if j=i then true else l.getD j false:=by
 by_cases e:j=i
 ·subst e;simp [hi]
 ·rw [if_neg e];simp only [Array.getD_eq_getD_getElem?,Array.getElem?_setIfInBounds_ne (Ne.symm e)]
section
variable {X:Ctx} {ops:Array Oper} {ents:List Ent} {anc:List Nat} {s:St} {nx:Nat}
theorem gath_false {α:Type _} (dl:Nat→List (Nat × α)) (b:List (Nat × α)):∀ n:Nat,gath dl (fun _=>false) b n=b
 | 0=>rfl
 | n+1=>by simp only [gath,cond_false];exact gath_false dl b n
structure ChkE (ops:Array Oper) (ents:List Ent) (anc:List Nat) (nx0 nx i:Nat):Prop where
 wf:(entA ents i).s.Wf
 lo:nx0≤(entA ents i).k0
 le:(entA ents i).k0≤(entA ents i).k1
 hi:(entA ents i).k1≤nx
 W:∀ k,look (entA ents i).dM k=none→look (entA ents i).W k=none
 dL:∀ d v,look (entA ents i).dL d=some v→v.kp (okK ents anc nx0 i)=true
 dM:∀ k m,look (entA ents i).dM k=some m→okK ents anc nx0 i k=true∧m.kp (okK ents anc nx0 i)=true
 dV:∀ k f,look (entA ents i).dV k=some f→okK ents anc nx0 i k=true∧f.kp (okK ents anc nx0 i)=true
 edges:∃ o,ops[i]? = some o∧(∀ d∈o.after,Region.binds .any d=true→d.on < i) ∧
  ∀ j,ancB anc i j=true→∃ d∈o.after,Region.binds .any d=true∧(j=d.on∨ancB anc d.on j=true)
theorem chkE_ok {nx0 i:Nat} (h:chkE ops ents anc nx0 nx i=true):ChkE ops ents anc nx0 nx i:=by
 unfold chkE at h
 simp only [Bool.and_eq_true] at h
 obtain ⟨⟨⟨⟨⟨⟨⟨⟨h1,h2⟩,h3⟩,h4⟩,h5⟩,h6⟩,h7⟩,h8⟩,h9⟩:=h
 refine ⟨wfb_ok h1,Nat.le_of_ble_eq_true h2,Nat.le_of_ble_eq_true h3,Nat.le_of_ble_eq_true h4,fun k hk=>?_,fun d v hl=>?_,fun k m hl=>?_,fun k f hl=>?_,?_⟩
 ·cases hl:look (entA ents i).W k with
  | none=>rfl
  | some v =>
   have:=look_of_memK (List.all_eq_true.1 h5 _ (look_mem hl))
   rw [hk] at this;cases this
 ·exact List.all_eq_true.1 h6 _ (look_mem hl)
 ·have:=List.all_eq_true.1 h7 _ (look_mem hl)
  rwa [Bool.and_eq_true] at this
 ·have:=List.all_eq_true.1 h8 _ (look_mem hl)
  rwa [Bool.and_eq_true] at this
 ·split at h9
  ·rename_i o ho
   rw [Bool.and_eq_true] at h9
   refine ⟨o,ho,fun d hd hb=>?_,fun j hj=>?_⟩
   ·have:=List.all_eq_true.1 h9.2 d (by simpa using hd)
    rw [hb] at this
    exact blt_lt this
   ·unfold ancB at hj
    rw [Nat.eq_of_beq_eq_true h9.1] at hj
    obtain ⟨d,hd,h1⟩:=ancF_ok hj
    exact ⟨d,by simpa using hd,h1⟩
  ·cases h9
structure Chk (ops:Array Oper) (ents:List Ent) (anc:List Nat) (nx0 nx:Nat):Prop where
 size:ops.size=ents.length
 nxle:nx0≤nx
 E:∀ i,i < ents.length→ChkE ops ents anc nx0 nx i
 sh:∀ i j,i < ents.length→j < ents.length→i≠j→(entA ents i).sh (entA ents j)=true→ancB anc i j=true∨ancB anc j i=true
 rg:∀ i j,i < ents.length→j < ents.length→i≠j→(entA ents i).k1≤(entA ents j).k0∨(entA ents j).k1≤(entA ents i).k0
theorem chkB_ok {nx0:Nat} (h:chkB ops ents anc nx0 nx=true):Chk ops ents anc nx0 nx:=by
  unfold chkB at h
  rw [Bool.and_eq_true,Bool.and_eq_true] at h
  obtain ⟨⟨h1,h2⟩,h3⟩:=h
  have hp:∀ i j,i < ents.length→j < ents.length→chkE ops ents anc nx0 nx i=true∧chkP ents anc i j=true:=fun i j hi hj=>by
    have:=List.all_eq_true.1 h3 i (List.mem_range.2 hi)
    rw [Bool.and_eq_true] at this
    exact ⟨this.1,List.all_eq_true.1 this.2 j (List.mem_range.2 hj)⟩
  refine ⟨Nat.eq_of_beq_eq_true h1,Nat.le_of_ble_eq_true h2,fun i hi=>chkE_ok (hp i i hi hi).1,fun i j hi hj hne hs=>?_,fun i j hi hj hne=>?_⟩
  all_goals
    have:=(hp i j hi hj).2
    unfold chkP at this
    rw [Bool.or_eq_true] at this
    rcases this with h | h
    · exact absurd (Nat.eq_of_beq_eq_true h) hne
    · rw [Bool.and_eq_true,Bool.or_eq_true,Bool.or_eq_true,Bool.or_eq_true] at h
      first
        | (rcases h.1 with (h | h) | h
           · rw [hs] at h;cases h
           · exact .inl h
           · exact .inr h)
        | exact h.2.imp Nat.le_of_ble_eq_true Nat.le_of_ble_eq_true
theorem Chk.anc_lt {nx0:Nat} (c:Chk ops ents anc nx0 nx):∀ (i:Nat),i < ents.length→∀ j,ancB anc i j=true→j < i:=by
 intro i
 induction i using Nat.strongRecOn with
 | _ i ih =>
  intro hi j hj
  obtain ⟨o,_,h1,h2⟩:=(c.E i hi).edges
  obtain ⟨d,hd,hb,h3⟩:=h2 j hj
  have:=h1 d hd hb
  rcases h3 with rfl | h3
  ·exact this
  ·have:=ih d.on this (by omega) j h3
   omega
theorem sh_of (e f:Ent) (h:shares e.L f.dL=true∨shares e.dL f.dL=true∨shares e.V f.dV=true∨shares e.dV f.dV=true∨shares e.W f.dM=true∨shares e.R f.dM=true∨shares e.dM f.dM=true):e.sh f=true:=by
 unfold Ent.sh
 rcases h with h | h | h | h | h | h | h<;>simp [h]
theorem cnt_all {dn:Nat→Bool}:∀ {n:Nat},(∀ j,j < n→dn j=true)→cnt dn n=0
 | 0,_=>rfl
 | n+1,h=>by simp only [cnt,cnt_all (n:=n) fun j hj=>h j (by omega),h n (by omega)];rfl
theorem regionD_tail {t:Nat} {ops':Array Oper} (ht:t≤1) (hsz':ops.size=ents.length+t) (hpx:∀ i,i < ents.length→ops'[i]? = ops[i]?)
  (hT:∀ i o,ents.length≤i→ops[i]? = some o→(∀ d∈o.after,Region.binds .any d=true→d.on < ents.length)∧∀ j,j < ents.length→∃ d∈o.after,Region.binds .any d=true∧d.on=j)
  (hl:AllLS X ops 0 ents) (c:Chk ops' ents anc s.nx nx) (hN:needs ents anc s=wants ents) (hwf:s.Wf) (hnk:X.nk≤s.nx) {todo:Act→World→Prop}
  (hend:∀ E F w a,Sat X (stD ents nx s fun _=>true) E F w a→wpOps X.P ops (fun e a' w'=>e=.normal∧todo a' w') (List.range' ents.length t) a w) :
  ∀ (fuel:Nat) (l:Array Bool) (E:Env) (F:FSet) (w:World) (a:Act),l.size=ops.size→(∀ j,ents.length≤j→l.getD j false=false)→(∀ i,l.getD i false=true→∀ j,ancB anc i j=true→l.getD j false=true) →
   cnt (fun j=>l.getD j false) ents.length=fuel→Sat X (stD ents nx s fun j=>l.getD j false) E F w a→wpAny X.P .any ops (fun e a' w'=>e=.normal∧todo a' w') (fuel+t) l a w:=by
 have hflip:∀ {l:Array Bool} {i:Nat},l.getD i true=false→l.getD i false=false:=fun {l i} h=>by
  rcases Nat.lt_or_ge i l.size with h' | h'
  ·simp [h'] at h ⊢;exact h
  ·simp [h'] at h
 have hflip':∀ {l:Array Bool} {i:Nat},i < l.size→l.getD i false=false→l.getD i true=false:=fun {l i} h' h=>by
  simp [h'] at h ⊢;exact h
 have hall:∀ {l:Array Bool} {E F w a},l.size=ops.size→(∀ j,ents.length≤j→l.getD j false=false)→(∀ j,j < ents.length→l.getD j false=true)→Sat X (stD ents nx s fun j=>l.getD j false) E F w a →
   wpAny X.P .any ops (fun e a' w'=>e=.normal∧todo a' w') t l a w:=fun {l E F w a} hsz hfr hd hs=>by
  have hw:=hend E F w a (hs.same rfl (fun d=>look_gath_congr fun j hj _=>(hd j hj).symm) (fun d=>look_gath_congr fun j hj _=>(hd j hj).symm) (fun d=>look_gath_congr fun j hj _=>(hd j hj).symm))
  have hin:∀ j,j∈Region.ready .any ops l→ents.length≤j∧j < ops.size:=fun j hj=>by
   obtain ⟨h0,o,ho,_⟩:=mem_ready.1 hj
   refine ⟨Nat.not_lt.1 fun h=>?_,(Array.getElem?_eq_some_iff.1 ho).1⟩
   have:=hd j h
   rw [hflip h0] at this;cases this
  match t,ht,hsz',hw with
  | 0,_,hsz',hw=>exact ⟨List.eq_nil_iff_forall_not_mem.2 fun j hj=>by have:=hin j hj;omega,hw⟩
  | 1,_,hsz',hw =>
   rw [show List.range' ents.length 1=[ents.length] from rfl,wpOps_cons] at hw
   have hlt:ents.length < ops.size:=by omega
   have ho:=Array.getElem?_eq_getElem hlt
   obtain ⟨t1,t2⟩:=hT _ _ (Nat.le_refl _) ho
   refine ⟨fun hr=>?_,fun i hi=>?_⟩
   ·have:ents.length∈Region.ready .any ops l:=mem_ready.2 ⟨hflip' (by rw [hsz];exact hlt) (hfr _ (Nat.le_refl _)),_,ho,fun d hdm hb=>hd d.on (t1 d hdm hb)⟩
    rw [hr] at this;cases this
   ·obtain rfl:i=ents.length:=by have:=hin i hi;omega
    refine wpOp_mono (fun a' w' h=>⟨List.eq_nil_iff_forall_not_mem.2 fun j hj=>?_,h⟩) hw
    obtain ⟨h0,o,ho',_⟩:=mem_ready.1 hj
    have hj':=(Array.getElem?_eq_some_iff.1 ho').1
    have h0:=hflip h0
    rw [getD_set (by rw [hsz];exact hlt)] at h0
    split at h0
    ·cases h0
    ·rw [hd j (by omega)] at h0;cases h0
 have hneed:∀ i,i < ents.length →
   (∀ d v,look (entA ents i).L d=some v→look (gath (fun j=>(entA ents j).dL) (ancB anc i) s.L ents.length) d=some v) ∧
   (∀ d v,look (entA ents i).V d=some v→look (gath (fun j=>(entA ents j).dV) (ancB anc i) s.V ents.length) d=some v) ∧
   (∀ d v,look ((entA ents i).W++(entA ents i).R) d=some v→look (gath (fun j=>(entA ents j).dM) (ancB anc i) s.M ents.length) d=some v):=fun i hi=>by
  have:=map_eq_mem hN i (List.mem_range.2 hi)
  simp only [Prod.mk.injEq] at this
  exact ⟨fun d v h=>map_eq_mem this.1 _ (look_mem h),fun d v h=>map_eq_mem this.2.1 _ (look_mem h),fun d v h=>map_eq_mem this.2.2 _ (look_mem h)⟩
 intro fuel
 induction fuel with
 | zero =>
  intro l E F w a hsz hfr hcl hcnt hs
  rw [Nat.zero_add]
  exact hall hsz hfr (cnt_zero hcnt) hs
 | succ fuel ih =>
  intro l E F w a hsz hfr hcl hcnt hs
  rw [show fuel+1+t=fuel+t+1 by omega]
  have hdone:Region.ready .any ops l=[]→∀ j,j < ents.length→l.getD j false=true:=fun hr j=>by
   induction j using Nat.strongRecOn with
   | _ j ihj =>
    intro hj
    cases hd:l.getD j false with
    | true=>rfl
    | false =>
     obtain ⟨o,ho,h1,_⟩:=(c.E j hj).edges
     rw [hpx j hj] at ho
     have:j∈Region.ready .any ops l:=mem_ready.2 ⟨hflip' (by rw [hsz,hsz'];omega) hd,o,ho,fun d hdm hb=>ihj d.on (h1 d hdm hb) (by have:=h1 d hdm hb;omega)⟩
     rw [hr] at this;cases this
  refine ⟨fun hr=>?_,fun i hi=>?_⟩
  ·have:=hall hsz hfr (hdone hr) hs
   match t,ht,this with
   | 0,_,h=>exact h.2
   | 1,_,h=>exact h.1 hr
  ·obtain ⟨h0,o,ho,hpre⟩:=mem_ready.1 hi
   have hi':i < ents.length:=by
    refine Nat.not_le.1 fun hge=>?_
    obtain ⟨_,t2⟩:=hT i o hge ho
    have:cnt (fun j=>l.getD j false) ents.length=0:=cnt_all fun j hj=>by
     obtain ⟨d,hd,hb,rfl⟩:=t2 j hj
     exact hpre d hd hb
    omega
   have hil:i < l.size:=by rw [hsz,hsz'];omega
   have hdi:=hflip h0
   have ce:=c.E i hi'
   obtain ⟨o',ho',he1,he2⟩:=ce.edges
   rw [hpx i hi'] at ho'
   obtain rfl:o'=o:=by rw [ho] at ho';exact (Option.some.inj ho').symm
   have hanc:∀ j,ancB anc i j=true→l.getD j false=true:=fun j hj=>by
    obtain ⟨d,hd,hb,h3⟩:=he2 j hj
    have:=hpre d hd hb
    rcases h3 with rfl | h3
    ·exact this
    ·exact hcl d.on this j h3
   -- who shares anything with i has come up just if i waits for him
   have hsh:∀ j,j < ents.length→(j=i∨(entA ents i).sh (entA ents j)=true)→l.getD j false=ancB anc i j:=fun j hj h=>by
    by_cases e:j=i
    ·subst e
     rw [hdi]
     cases hb:ancB anc j j with
     | false=>rfl
     | true=>exact absurd (c.anc_lt j hj j hb) (Nat.lt_irrefl _)
    ·rcases c.sh i j hi' hj (Ne.symm e) (h.resolve_left e) with h1 | h1
     ·rw [h1,hanc j h1]
     ·cases hb:ancB anc i j with
      | true=>have:=c.anc_lt i hi' j hb;have:=c.anc_lt j hj i h1;omega
      | false =>
       cases hd:l.getD j false with
       | false=>rfl
       | true=>have:=hcl j hd i h1;rw [hdi] at this;cases this
   have hlater:∀ j,i < j→j < ents.length→(entA ents i).sh (entA ents j)=true→l.getD j false=false:=fun j hij hj h=>by
    rw [hsh j hj (.inr h)]
    cases hb:ancB anc i j with
    | false=>rfl
    | true=>have:=c.anc_lt i hi' j hb;omega
   obtain ⟨n1,n2,n3⟩:=hneed i hi'
   have nL:∀ d v,look (entA ents i).L d=some v→look (stD ents nx s fun j=>l.getD j false).L d=some v:=fun d v h=>by
    rw [← n1 d v h]
    exact look_gath_congr fun j hj hk=>hsh j hj (.inr (sh_of _ _ (.inl (shares_of (by rw [h];rfl) hk))))
   have nV:∀ d v,look (entA ents i).V d=some v→look (stD ents nx s fun j=>l.getD j false).V d=some v:=fun d v h=>by
    rw [← n2 d v h]
    exact look_gath_congr fun j hj hk=>hsh j hj (.inr (sh_of _ _ (.inr (.inr (.inl (shares_of (by rw [h];rfl) hk))))))
   have nM:∀ d v,look ((entA ents i).W++(entA ents i).R) d=some v→look (stD ents nx s fun j=>l.getD j false).M d=some v:=fun d v h=>by
    rw [← n3 d v h]
    refine look_gath_congr fun j hj hk=>hsh j hj (.inr (sh_of _ _ (.inr (.inr (.inr (.inr ?_))))))
    rw [look_append] at h
    split at h
    ·rename_i x hx;exact .inl (shares_of (by rw [hx];rfl) hk)
    ·exact .inr (.inl (shares_of (by rw [h];rfl) hk))
   let l':=l.setIfInBounds i true
   have hl':∀ j,l'.getD j false=if j=i then true else l.getD j false:=fun j=>getD_set hil
   have hfr':∀ j,ents.length≤j→l'.getD j false=false:=fun j hj=>by rw [hl',if_neg (by omega)];exact hfr j hj
   have hcl':∀ j,l'.getD j false=true→∀ k,ancB anc j k=true→l'.getD k false=true:=fun j hj k hk=>by
    rw [hl'] at hj ⊢
    split
    ·rfl
    ·split at hj
     ·rename_i e;subst e;exact hanc k hk
     ·exact hcl j hj k hk
   have hcnt':cnt (fun j=>l'.getD j false) ents.length=fuel:=by
    have:=cnt_add (dn:=fun j=>l.getD j false) (dn':=fun j=>l'.getD j false) (n:=ents.length) hi' hdi (by simp only [hl',if_true]) (fun j hj=>by simp only [hl',if_neg hj])
    omega
   have hgo:∀ {E F w a},Sat X ⟨(entA ents i).dL++(stD ents nx s fun j=>l.getD j false).L,(entA ents i).dM++(stD ents nx s fun j=>l.getD j false).M,
     (entA ents i).dV++(stD ents nx s fun j=>l.getD j false).V,nx⟩ E F w a→Sat X (stD ents nx s fun j=>l'.getD j false) E F w a:=fun {E F w a} hs'=>by
    refine hs'.same rfl (fun d=>?_) (fun d=>?_) (fun d=>?_)
    ·exact look_gath_add (dl:=fun j=>(entA ents j).dL) hi' hdi (fun j hj=>by simp only [hl',if_neg hj]) (by simp only [hl',if_true]) fun h1 j hij hj h2=>hlater j hij hj (sh_of _ _ (.inr (.inl (shares_of h1 h2))))
    ·exact look_gath_add (dl:=fun j=>(entA ents j).dM) hi' hdi (fun j hj=>by simp only [hl',if_neg hj]) (by simp only [hl',if_true]) fun h1 j hij hj h2=>hlater j hij hj (sh_of _ _ (.inr (.inr (.inr (.inr (.inr (.inr (shares_of h1 h2))))))))
    ·exact look_gath_add (dl:=fun j=>(entA ents j).dV) hi' hdi (fun j hj=>by simp only [hl',if_neg hj]) (by simp only [hl',if_true]) fun h1 j hij hj h2=>hlater j hij hj (sh_of _ _ (.inr (.inr (.inr (.inl (shares_of h1 h2))))))
   have hLS:=hl.get i hi'
   rw [Nat.zero_add] at hLS
   obtain ⟨o2,ho2,hd,hst⟩:=hLS
   obtain rfl:o2=o':=by rw [ho] at ho2;exact (Option.some.inj ho2).symm
   unfold wpOp
   simp only [ho]
   rcases hst with ⟨hg,hst⟩ | ⟨hg,hu,hm,hv⟩
   ·rw [guardV_ok hs (guardV_mono nL hg),if_pos rfl]
    let p:Nat→Bool:=fun k => !(Nat.ble (entA ents i).k0 k && Nat.blt k (entA ents i).k1)
    have hp:∀ k,p k=true→¬ ((entA ents i).k0≤k∧k < (entA ents i).k1):=fun k hk hc=>by
     simp only [p,Bool.not_eq_true',Bool.and_eq_false_iff] at hk
     rcases hk with hk | hk
     ·rw [Nat.ble_eq_true_of_le hc.1] at hk;cases hk
     ·unfold Nat.blt at hk;rw [Nat.ble_eq_true_of_le hc.2] at hk;cases hk
    have hp':∀ k,¬ ((entA ents i).k0≤k∧k < (entA ents i).k1)→p k=true:=fun k hk=>by
     simp only [p,Bool.not_eq_true',Bool.and_eq_false_iff]
     by_cases h1:(entA ents i).k0≤k
     ·right
      cases hb:Nat.blt k (entA ents i).k1 with
      | false=>rfl
      | true=>exact absurd ⟨h1,blt_lt hb⟩ hk
     ·left
      cases hb:Nat.ble (entA ents i).k0 k with
      | false=>rfl
      | true=>exact absurd (Nat.le_of_ble_eq_true hb) h1
    have hp0:∀ k,k < s.nx→p k=true:=fun k hk=>hp' k fun hc=>by have:=ce.lo;omega
    have hpj:∀ j,j < ents.length→l.getD j false=true→∀ k,okK ents anc s.nx j k=true→p k=true:=fun j hj hdj k hk=>by
     unfold okK at hk
     rw [Bool.or_eq_true] at hk
     rcases hk with hk | hk
     ·exact hp0 k (blt_lt hk)
     ·obtain ⟨j',hj',hk⟩:=List.any_eq_true.1 hk
      have hj':=List.mem_range.1 hj'
      rw [Bool.and_eq_true,Bool.and_eq_true,Bool.or_eq_true] at hk
      obtain ⟨⟨hk1,hk2⟩,hk3⟩:=hk
      have hdj':l.getD j' false=true:=by
       rcases hk1 with h | h
       ·rw [Nat.eq_of_beq_eq_true h];exact hdj
       ·exact hcl j hdj j' h
      have hne:i≠j':=fun e=>by subst e;rw [hdi] at hdj';cases hdj'
      have:=c.rg i j' hi' hj' hne
      have h2:=Nat.le_of_ble_eq_true hk2
      have h3:=blt_lt hk3
      exact hp' k fun hc=>by omega
    refine .inl (Oper.wp_imp (fun a' w' hq=>?_) (LS.frame hs hd hst ce.wf nL nV nM ce.W (Nat.le_trans hnk ce.lo) ce.le ce.hi (p:=p) hp ?_ ?_ ?_))
    ·obtain ⟨E',F',hs'⟩:=hq
     exact ih l' E' F' w' a' (by simp [l',hsz]) hfr' hcl' hcnt' (hgo hs')
    ·intro d v h
     rcases look_gath_mem h with h | ⟨j,hj,h1,h2⟩
     ·exact SV.kp_of_kb hp0 (hwf.hL d v h)
     ·exact SV.kp_mono (hpj j hj h1) ((c.E j hj).dL d v h2)
    ·intro d v h
     rcases look_gath_mem h with h | ⟨j,hj,h1,h2⟩
     ·exact ⟨hp0 d (hwf.hM d v h).1,MO.kp_of_kb hp0 (hwf.hM d v h).2⟩
     ·exact ⟨hpj j hj h1 d ((c.E j hj).dM d v h2).1,MO.kp_mono (hpj j hj h1) ((c.E j hj).dM d v h2).2⟩
    ·intro d v h
     rcases look_gath_mem h with h | ⟨j,hj,h1,h2⟩
     ·exact ⟨hp0 d (hwf.hV d v h).1,VF.kp_of_kb hp0 (hwf.hV d v h).2⟩
     ·exact ⟨hpj j hj h1 d ((c.E j hj).dV d v h2).1,VF.kp_mono (hpj j hj h1) ((c.E j hj).dV d v h2).2⟩
   ·rw [guardV_ok hs (guardV_mono nL hg),if_neg (by simp)]
    exact ih l' E F w _ (by simp [l',hsz]) hfr' hcl' hcnt' (hgo (LS.skipped hs hd hu hm hv))
theorem regionD_aux (hl:AllLS X ops 0 ents) (c:Chk ops ents anc s.nx nx) (hN:needs ents anc s=wants ents) (hwf:s.Wf) (hnk:X.nk≤s.nx) {todo:Act→World→Prop}
  (hend:∀ E F w a,Sat X (stD ents nx s fun _=>true) E F w a→todo a w) (fuel:Nat) (l:Array Bool) (E:Env) (F:FSet) (w:World) (a:Act) (hz:l.size=ops.size)
  (hcl:∀ i,l.getD i false=true→∀ j,ancB anc i j=true→l.getD j false=true) (hcnt:cnt (fun j=>l.getD j false) ents.length=fuel) (hs:Sat X (stD ents nx s fun j=>l.getD j false) E F w a) :
  wpAny X.P .any ops (fun e a' w'=>e=.normal∧todo a' w') fuel l a w :=
 regionD_tail (t:=0) (Nat.zero_le _) c.size (fun _ _=>rfl) (fun i o h ho=>absurd (Array.getElem?_eq_some_iff.1 ho).1 (by rw [c.size];omega)) hl c hN hwf hnk (fun E F w a hs=>⟨rfl,hend E F w a hs⟩) fuel l E F w a hz
  (fun j hj=>by rw [← c.size,← hz] at hj;simp [Nat.not_lt.2 hj]) hcl hcnt hs
end
end Go.Kx
end
section
namespace Go.Kx
variable [LxP]
section
variable {X:Ctx} {ops:Array Oper} {tt:List (Nat × TD)} {i:Nat} {e:Ent}
theorem LS.of {o:Oper} {s1:St} (ho:ops[i]? = some o) (hd:e.dL.map (·.1)=o.dst.toList) (hg:guardV ops e.L o=some true)
    (r:∀ nk E0 F0 w0 n0 Z K,WPr (X.var nk E0 F0 w0 n0 Z) ops [] K s1→WPr (X.var nk E0 F0 w0 n0 Z) ops [i] K e.s) (hr:(s1.nx,restL s1.L e.dL,restL s1.M (e.dM++e.R),restL s1.V e.dV)=(e.k1,e.dL,e.dM++e.R,e.dV)):LS X ops i e:=by
  refine ⟨o,ho,hd,.inl ⟨hg,fun nk E0 F0 w0 n0 Z E F w a hs=>?_⟩⟩
  have h:=r nk E0 F0 w0 n0 Z (fun a' w'=>∃ E' F',Sat (X.var nk E0 F0 w0 n0 Z) e.s' E' F' w' a') (fun E F w a hs=>⟨rfl,E,F,?_⟩) E F w a hs
  · have hgk:=guardV_ok hs hg
    simp only [wpOps,ho,hgk,if_true] at h
    rcases h with h | ⟨_,h⟩
    · unfold Oper.wp at h ⊢
      unfold Oper.upon at h ⊢
      split at h
      · exact h.2
      · exact h.2
      · exact h.2
      · refine Calls.mono h fun e w' hr=>?_
        split at hr
        · exact hr.2
        · cases hr.1
        · obtain ⟨a1,w1,hf⟩:=hr;cases hf.1
      · exact Rows.mono h fun v w' hr=>hr.2
      · cases h.1
      · exact h.elim
    · obtain ⟨a1,w1,hf⟩:=h;cases hf.1
  · simp only [Prod.mk.injEq] at hr
    obtain ⟨h1,h2,h3,h4⟩:=hr
    exact hs.weaken h1.symm (fun d v h=>restL_look (by rw [h2];exact h)) (fun d v h=>restL_look (by rw [h3];exact h)) (fun d v h=>restL_look (by rw [h4];exact h))
theorem LS.skip {o:Oper} (ho:ops[i]? = some o) (hd:e.dL.map (·.1)=o.dst.toList) (hg:guardV ops e.L o=some false)
    (hu:e.dL=[]∨∃ d,e.dL=[(d,.u)]∧Nat.blt d X.fn.ntmps=true) (h1:e.dM=[]) (h2:e.dV=[]):LS X ops i e :=
  ⟨o,ho,hd,.inr ⟨hg,fun d v hm=>by
    rcases hu with h | ⟨d',h,hlt⟩
    · rw [h] at hm;cases hm
    · rw [h,List.mem_singleton] at hm;cases hm;exact ⟨rfl,blt_lt hlt⟩,h1,h2⟩⟩
theorem LS.kb {c b:Bool} {d:Nat} (hc:c=b) (he:e.dL=[(d,.c (.b c))]) (h:LS X ops i e):LS X ops i { e with dL:=[(d,.c (.b b))] }:=by
 subst hc
 obtain ⟨L,V,W,R,k0,dL,dV,dM,k1⟩:=e
 simp only at he
 subst he
 exact h
theorem WP.nm {id:Nat} {k':List Item} {s:St} (h:∀ A:Nat→Ent→Prop,(∀ i e,LS X ops i e→A i e)→(∀ i e,A i e→LS X ops i e)→WP X (.code (.region id ops true)::k') s) :
  WP X (.code (.region id ops true)::k') s:=h (LS X ops) (fun _ _ h=>h) (fun _ _ h=>h)
end
end Go.Kx
end
section
namespace Go.Kx
variable [LxP]
def bytesL (s:ByteArray):List Int:=s.data.toList.map fun b=>(b.toNat:Int)
def strOf (l:List Int):ByteArray:=l.foldl (fun r n=>r.push (UInt8.ofNat n.toNat)) ByteArray.empty
theorem bytesL_len (s:ByteArray):(bytesL s).length=s.size:=by
 unfold bytesL
 rw [List.length_map,Array.length_toList];rfl
theorem rowL_ints {F:FSet} {w:World} (k:IntKind) (l:List Int):RowL (rI k) F w l (l.map (Value.int k)):=by
 refine ⟨by rw [List.length_map];exact (Nat.mul_one _).symm,fun i x hx=>⟨[.int k x],rfl,fun j v hj=>?_⟩⟩
 cases j with
 | zero =>
  simp only [List.getElem?_cons_zero,Option.some.injEq] at hj
  subst hj
  show (l.map (Value.int k))[i * 1+0]? = _
  rw [Nat.mul_one,Nat.add_zero,List.getElem?_map,hx];rfl
 | succ j=>simp at hj
section
variable {X:Ctx} {s:St} {ops:Array Oper} {todo:Act→World→Prop} {tt:List (Nat × TD)} {E:Env} {F:FSet} {w:World} {a:Act}
theorem srcS {b:ByteArray}:SrcOk X s (rI .u8) (bytesL b) (.s b):=fun E F w a _=>by
 refine ⟨(bytesL b).map (Value.int .u8),rowL_ints _ _,fun w'=>by simp [Builtin.lenOf,den,bytesL_len],fun m w' hm _=>?_,fun u hu=>by obtain ⟨n,_,rfl⟩:=List.mem_map.1 hu;rfl⟩
 rw [bytesL_len] at hm
 simp only [Builtin.firstCells,den,Sem.run_pure]
 congr 1
 apply Array.ext'
 have h1:(b.extract 0 m).data.toList=b.data.toList.take m:=by
  rw [ByteArray.data_extract,Array.toList_extract];simp [List.extract]
 rw [Array.toList_map,h1]
 show _=(List.take (m * 1) _)
 rw [Nat.mul_one]
 simp only [bytesL,List.map_take,List.map_map]
 rfl
theorem WPr.val {i:Nat} {rest:List Nat} {o:Oper} {d:Nat} {v:SV} (hrun:∀ E F w a,Sat X s E F w a→(execOp a.eval o).run X.P w=.ok (.value (denV E v)) w∧v.kb s.nx)
  (ho:ops[i]? = some o) (hg:guardV ops s.L o=some true) (hd:o.dst=some d) (hn:Nat.blt d X.fn.ntmps=true) (kk:WPr X ops rest todo ⟨(d,v)::s.L,s.M,s.V,s.nx⟩):WPr X ops (i::rest) todo s:=by
 refine WPr.op ho hg (fun E F w a hs=>?_) kk
 obtain ⟨h1,h2⟩:=hrun E F w a hs
 refine wp_value h1 ⟨E,F,?_⟩
 rw [hd]
 exact hs.setL h2 (blt_lt hn)
theorem WPr.ax {α:Type} (mk:α→SC) (xs:List α) {e:α} {i:Nat} {rest:List Nat} {o:Oper} {t el len d:Nat} {x y:Operand} {ik:IntKind} {n:Int}
    (hi:idx xs n=some e) (ho:ops[i]? = some o) (hg:guardV ops s.L o=some true) (hop:o.op=.index t x y) (hd:o.dst=some d) (hu:X.P.underlying t=some (.array len el))
    (he:(X.P.info? el).map (·.size)=some 1) (ha:aggOf X.P el=false) (hel:(X.P.underlying el).isSome=true)
    (hx:evalO s.L x=some (.a (xs.map mk))) (hl:xs.length=len) (hy:evalO s.L y=some (.c (.i ik n))) (hn:Nat.blt d X.fn.ntmps=true)
    (kk:WPr X ops rest todo ⟨(d,.c (mk e))::s.L,s.M,s.V,s.nx⟩):WPr X ops (i::rest) todo s:=by
  refine WPr.val (fun E F w a hs=>?_) ho hg hd hn kk
  obtain ⟨h0,h1,h2⟩:=idx_ok hi
  obtain ⟨e1,k1⟩:=hs.eval hx
  obtain ⟨e2,_⟩:=hs.eval hy
  obtain ⟨ds,hds⟩:=Option.isSome_iff_exists.1 hel
  have hmem:mk e∈xs.map mk:=List.mem_map.2 ⟨e,List.mem_of_getElem? h2,rfl⟩
  refine ⟨?_,k1 _ hmem⟩
  simp only [execOp,hop,e1,e2,denV,den]
  refine exec_v ?_
  have hia:=run_isAgg' w hds
  rw [ha] at hia
  have hz:(sizeOf el).run X.P w=.ok 1 w:=by
    rw [Option.map_eq_some_iff] at he
    obtain ⟨inf,h3,h4⟩:=he
    simp [sizeOf,typeInfo,h3,h4]
  have hc:(0≤n∧n < (len:Int)):=⟨h0,by rw [← hl];exact h1⟩
  simp only [Instr.index,asIntOf,Sem.run_bind,Sem.run_pure,Result.andThen_ok,run_underlying' hu,hc,and_self,if_true,hz,part,hia,Bool.false_eq_true,if_false,Nat.mul_one]
  have:(((xs.map mk).map (den E)).toArray)[n.toNat]? = some (den E (mk e)):=by simp [h2]
  rw [this]
  rfl
theorem WPr.axb (j:Nat) {i:Nat} {rest:List Nat} {o:Oper} {t el len es d k off:Nat} {x y:Operand} {ik:IntKind} {n:Int}
    (hj:n=(j:Int)) (ho:ops[i]? = some o) (hg:guardV ops s.L o=some true) (hop:o.op=.indexAddr t x y) (hd:o.dst=some d) (hu:X.P.underlying t=some (.array len el))
    (he:(X.P.info? el).map (·.size)=some es) (hlt:Nat.blt j len=true)
    (hx:evalO s.L x=some (.c (.bp k off))) (hy:evalO s.L y=some (.c (.i ik n))) (hn:Nat.blt d X.fn.ntmps=true)
    (kk:WPr X ops rest todo ⟨(d,.c (.bp k (off+j * es)))::s.L,s.M,s.V,s.nx⟩):WPr X ops (i::rest) todo s:=by
  refine WPr.val (fun E F w a hs=>?_) ho hg hd hn kk
  obtain ⟨e1,k1⟩:=hs.eval hx
  obtain ⟨e2,_⟩:=hs.eval hy
  refine ⟨?_,k1⟩
  simp only [execOp,hop,e1,e2,denV,den]
  refine exec_v ?_
  have hz:(sizeOf el).run X.P w=.ok es w:=by
    rw [Option.map_eq_some_iff] at he
    obtain ⟨inf,h3,h4⟩:=he
    simp [sizeOf,typeInfo,h3,h4]
  have:=blt_lt hlt
  subst hj
  have hc:(0≤(j:Int)∧(j:Int) < (len:Int)):=⟨by omega,by omega⟩
  simp only [Instr.indexAt,asIntOf,Sem.run_bind,Sem.run_pure,Result.andThen_ok,run_underlying' hu,Instr.sureAddr,hc,and_self,if_true,hz,addr_add,Int.toNat_natCast]
theorem WPr.pnil (neg:Bool) {i:Nat} {rest:List Nat} {o:Oper} {t el yt d k off:Nat} {x y:Operand}
  (ho:ops[i]? = some o) (hg:guardV ops s.L o=some true) (hop:o.op=.binOp (bif neg then .neq else .eql) t x y yt) (hd:o.dst=some d) (hu:X.P.underlying t=some (.pointer el))
  (hx:evalO s.L x=some (.c (.bp k off))) (hy:evalO s.L y=some (.c (.v (.pointer none)))) (hn:Nat.blt d X.fn.ntmps=true)
  (kk:WPr X ops rest todo ⟨(d,.c (.b neg))::s.L,s.M,s.V,s.nx⟩):WPr X ops (i::rest) todo s:=by
 refine WPr.val (fun E F w a hs=>?_) ho hg hd hn kk
 obtain ⟨e1,k1⟩:=hs.eval hx
 obtain ⟨e2,_⟩:=hs.eval hy
 refine ⟨?_,trivial⟩
 simp only [execOp,hop,e1,e2,denV,den]
 refine exec_v ?_
 have heq:(Op.equal t (.pointer (some ⟨E.β k,off,none⟩)) (.pointer none)).run X.P w=.ok false w:=by
  show (Op.equalIn (9999+1) t _ _).run X.P w=.ok false w
  generalize 9999=q
  simp only [Op.equalIn,Sem.run_bind,run_underlying' hu,Result.andThen_ok,Sem.run_pure]
 cases neg with
 | false =>
  simp only [cond_false,eqGuard,Sem.run_bind,Sem.run_pure,Result.andThen_ok]
  show (do pure (Value.bool (← Op.equal t _ _)):Sem Value).run X.P w=_
  simp only [Sem.run_bind,heq,Result.andThen_ok,Sem.run_pure]
 | true =>
  simp only [cond_true,eqGuard,Sem.run_bind,Sem.run_pure,Result.andThen_ok]
  show (do pure (Value.bool (!(← Op.equal t _ _))):Sem Value).run X.P w=_
  simp only [Sem.run_bind,heq,Result.andThen_ok,Sem.run_pure,Bool.not_false]
theorem Sat.moveM {m m':MO} {k K:Nat} (hs:Sat X s E F w a) (hm:look s.M k=some m) (hK:look s.M K=none) (hlt:K < s.nx) (hok:m'.ok E F w K) (hkb:m'.kb s.nx)
  (hfp:∀ b,m'.fp E K b→m.fp E k b) (hfr:m'.isFresh=true→∀ b,m'.fp E K b→X.n0≤b):Sat X ⟨s.L,(K,m')::(k,.gone)::s.M,s.V,s.nx⟩ E F w a:=by
 have hne:K≠k:=fun e=>by subst e;rw [hm] at hK;cases hK
 have h1:=hs.drop hm
 have hK':look ((k,MO.gone)::s.M) K=none:=by rw [look_cons,if_neg (Ne.symm hne)];exact hK
 exact { h1 with
  wf:=⟨h1.wf.hL,fun j m2 h=>by
   rw [look_cons] at h
   split at h
   ·rename_i e;cases h;subst e;exact ⟨hlt,hkb⟩
   ·exact h1.wf.hM j m2 h,h1.wf.hV⟩
  hM:=fun j m2 h=>by
   rw [look_cons] at h
   split at h
   ·rename_i e;cases h;subst e;exact hok
   ·exact h1.hM j m2 h
  dis:=fun j j' m1 m2 g1 g2 hjj b hb hb'=>by
   have key:∀ q m2,q≠K→look ((k,MO.gone)::s.M) q=some m2→∀ b,m'.fp E K b→¬ m2.fp E q b:=fun q m2 hq h b hb hb'=>by
    rw [look_cons] at h
    split at h
    ·cases h;exact hb'
    ·rename_i hkq;exact hs.dis k q m m2 hm h hkq b (hfp b hb) hb'
   rw [look_cons] at g1 g2
   split at g1
   ·rename_i e1;cases g1;subst e1
    split at g2
    ·rename_i e2;exact hjj e2
    ·rename_i e2;exact key j' m2 (Ne.symm e2) g2 b hb hb'
   ·rename_i e1
    split at g2
    ·rename_i e2;cases g2;subst e2;exact key j m1 (Ne.symm e1) g1 b hb' hb
    ·exact h1.dis j j' m1 m2 g1 g2 hjj b hb hb'
  mF:=fun j m2 h b hb=>by
   rw [look_cons] at h
   split at h
   ·rename_i e;cases h;subst e;exact hs.mF k m hm b (hfp b hb)
   ·exact h1.mF j m2 h b hb
  fresh:=fun j m2 h hf b hb=>by
   rw [look_cons] at h
   split at h
   ·rename_i e;cases h;subst e;exact hfr hf b hb
   ·exact h1.fresh j m2 h hf b hb }
theorem WPr.slb {α:Type} {R:TRep α} (O:Opn R) (xs:List α) {i:Nat} {rest:List Nat} {o:Oper} {t el len d k ty:Nat} {x:Operand} {cs:List SC}
    (hk:chkRow O (look s.V) xs cs) (ho:ops[i]? = some o) (hg:guardV ops s.L o=some true) (hop:o.op=.slice t x none none none) (hd:o.dst=some d)
    (hu:X.P.underlying t=some (.array len el)) (he:(X.P.info? el).map (·.size)=some R.sz)
    (hx:evalO s.L x=some (.c (.bp k 0))) (hM:look s.M k=some (.box cs ty)) (hc:(Nat.blt d X.fn.ntmps && Nat.beq xs.length len && (look s.M s.nx).isNone)=true)
    (kk:WPr X ops rest todo ⟨(d,.c (.sl s.nx))::s.L,(s.nx,.own R xs false)::(k,.gone)::s.M,s.V,s.nx+1⟩):WPr X ops (i::rest) todo s:=by
  refine WPr.op ho hg (fun E F w a hs=>?_) kk
  simp only [Bool.and_eq_true,Option.isNone_iff_eq_none] at hc
  obtain ⟨⟨c1,c2⟩,c3⟩:=hc
  have c2:=Nat.eq_of_beq_eq_true c2
  obtain ⟨e1,_⟩:=hs.eval hx
  have hz:∀ w',(sizeOf el).run X.P w'=.ok R.sz w':=fun w'=>by
    rw [Option.map_eq_some_iff] at he
    obtain ⟨inf,h3,h4⟩:=he
    simp [sizeOf,typeInfo,h3,h4]
  have hb:w.heap[E.β k]? = some (.cells (cs.map (den E)).toArray ty (0,0)):=hs.hM k _ hM
  have hrow:=chkRow_ok O (E:=E) (F:=F) (w:=w) (fun k f h=>hs.hV k f h) hk
  have hrun:(execOp a.eval o).run X.P w=.ok (.value (.slice (some ⟨E.β k,0,none⟩) len len)) w:=by
    simp only [execOp,hop,e1,denV,den]
    refine exec_v ?_
    have hb:=run_sliceBounds (P:=X.P) (w:=w) (is:=false) (len:=len) (cap:=len) (lo:=none) (hi:=none) (p:=(0,len)) (Nat.le_refl _) (by simp [bnd])
    simp only [Option.map_none] at hb
    simp only [Instr.sliceAt,Option.map_none,Sem.run_bind,run_underlying' hu,Result.andThen_ok,Instr.sureAddr,Sem.run_pure,hb,hz,addr_add,Nat.zero_mul,Nat.add_zero,ite_self,Nat.sub_zero]
  refine wp_value hrun ?_
  have hE:E.Eqb s.nx (E.setρ s.nx (.slice (some ⟨E.β k,0,none⟩) len len)):=E.eqb_setρ _ _ _ (Nat.le_refl _)
  have hv:(E.setρ s.nx (.slice (some ⟨E.β k,0,none⟩) len len)).ρ s.nx=.slice (some ⟨E.β k,0,none⟩) len len:=by simp [Env.setρ]
  have s1:=(hs.env hE (fun j=>by
    simp only [Env.setρ];split
    · rfl
    · exact hs.one j)).nxt (n:=s.nx+1) (Nat.le_succ _)
  have s2:=s1.moveM (K:=s.nx) (m':=.own R xs false) hM c3 (Nat.lt_succ_self _) (by
      show OwnR R F w xs ((E.setρ s.nx _).ρ s.nx)
      rw [hv]
      refine .inr ⟨E.β k,0,len,_,ty,(0,0),by rw [c2],by omega,?_,thaw_zero _,hb,hrow.row fun j v hj=>by rw [Nat.zero_add];simpa using hj⟩
      rw [List.size_toArray,hrow.1,c2,Nat.zero_add];exact Nat.le_refl _) trivial (fun b hb=>by
      have hb:blockOf ((E.setρ s.nx _).ρ s.nx)=some b:=hb
      rw [hv] at hb
      cases hb
      exact rfl) (fun h=>by cases h)
  have s3:=s2.setL (d:=d) (v:=.c (.sl s.nx)) (Nat.lt_succ_self _) (blt_lt c1)
  simp only [denV,den] at s3
  rw [hv] at s3
  rw [hd]
  exact ⟨_,F,s3⟩
theorem WPr.cvs {i:Nat} {rest:List Nat} {o:Oper} {t u el d:Nat} {x:Operand} {src:SC} (ys:List Int) (hsrc:SrcOk X s (rI .u8) ys src)
  (hsl:(match src with | .nil | .sl _=>true | _=>false)=true) (ho:ops[i]? = some o) (hg:guardV ops s.L o=some true) (hop:o.op=.convert t u x) (hd:o.dst=some d)
  (ht:X.P.underlying t=some (.slice el)) (hu:X.P.underlying u=some .string) (he:X.P.underlying el=some (.int .u8))
  (hx:evalO s.L x=some (.c src)) (hsh:∀ E F w a,Sat X s E F w a→∃ b c,den E src=.slice b ys.length c) (hn:Nat.blt d X.fn.ntmps=true)
  (kk:WPr X ops rest todo ⟨(d,.c (.s (strOf ys)))::s.L,s.M,s.V,s.nx⟩):WPr X ops (i::rest) todo s:=by
 refine WPr.val (fun E F w a hs=>?_) ho hg hd hn kk
 obtain ⟨e1,_⟩:=hs.eval hx
 refine ⟨?_,trivial⟩
 obtain ⟨b,c,hv⟩:=hsh E F w a hs
 obtain ⟨ns,hrow,_,hfc,_⟩:=hsrc E F w a hs
 have h1:=hfc ys.length w (Nat.le_refl _) rfl
 have hns:ns=ys.map (Value.int .u8):=by
  apply List.ext_getElem?
  intro j
  by_cases hj:j < ys.length
  ·obtain ⟨vs,hr,h3⟩:=hrow.2 j _ (List.getElem?_eq_getElem hj)
   have hr:vs=[.int .u8 ys[j]]:=hr
   subst hr
   have:=h3 0 _ rfl
   have e:j * (rI .u8).sz+0=j:=by show j * 1+0=j;omega
   rw [e] at this
   rw [this,List.getElem?_map,List.getElem?_eq_getElem hj];rfl
  ·have hl:=hrow.1
   have e:ys.length * (rI .u8).sz=ys.length:=Nat.mul_one _
   rw [e] at hl
   rw [List.getElem?_eq_none (by omega),List.getElem?_eq_none (by simp;omega)]
 simp only [execOp,hop]
 rw [e1]
 simp only [denV,hv]
 refine exec_v ?_
 rw [run_convert_bytes_string w t u el b ys.length c ht he hu]
 rw [hv] at h1
 have e2:(ns.take (ys.length * (rI .u8).sz))=ns:=by rw [← hrow.1,List.take_length]
 rw [e2,hns] at h1
 cases b with
 | none =>
  simp only [Builtin.firstCells,Sem.run_pure,Result.ok.injEq,and_true] at h1
  have:ys=[]:=by
   cases ys with
   | nil=>rfl
   | cons y ys=>simp at h1
  subst this
  simp [Conv.bytesToString,strOf];rfl
 | some ad =>
  simp only [Builtin.firstCells] at h1
  have h1':(loadCells ad ys.length).run X.P w=.ok (ys.map (Value.int .u8)).toArray w:=by
   have:ys.length * (rI .u8).sz=ys.length:=Nat.mul_one _
   rw [this] at h1;exact h1
  exact run_bytesToString w ad ys.length c ys h1'
theorem shI {α:Type} {R:TRep α} {ys:List α} {k:Nat} (h:look s.V k=some (.sl R ys)):∀ E F w a,Sat X s E F w a→∃ b c,den E (.sl k)=.slice b ys.length c:=fun E F w a hs=>SlR_len (hs.hV k _ h)
theorem shO {α:Type} {R:TRep α} {ys:List α} {k:Nat} {fr:Bool} (h:look s.M k=some (.own R ys fr)):∀ E F w a,Sat X s E F w a→∃ b c,den E (.sl k)=.slice b ys.length c:=fun E F w a hs=>OwnR_len (hs.hM k _ h)
theorem WPr.nilc {α:Type} {R:TRep α} {xs:List α} (neg:Bool) {i:Nat} {rest:List Nat} {o:Oper} {t el yt d k:Nat} {x y:Operand}
  (hm:look s.V k=some (.sl R xs)∨∃ fr,look s.M k=some (.own R xs fr)) (ho:ops[i]? = some o) (hg:guardV ops s.L o=some true) (hop:o.op=.binOp (bif neg then .neq else .eql) t x y yt) (hd:o.dst=some d) (hu:X.P.underlying t=some (.slice el))
  (hx:evalO s.L x=some (.c (.sl k))) (hy:evalO s.L y=some (.c .nil)) (hn:Nat.blt d X.fn.ntmps=true)
  (kk:∀ b:Bool,(b=true→xs=[])→WPr X ops rest todo ⟨(d,.c (.b (bif neg then !b else b)))::s.L,s.M,s.V,s.nx⟩):WPr X ops (i::rest) todo s:=by
 intro E F w a hs
 obtain ⟨e1,_⟩:=hs.eval hx
 obtain ⟨e2,_⟩:=hs.eval hy
 have hv:∃ (b:Bool) (p:Option Addr) (l c:Nat),den E (.sl k)=.slice p l c∧p.isNone=b∧(b=true→xs=[]):=by
  rcases hm with h | ⟨fr,h⟩
  ·rcases (hs.hV k _ h:SlR R F w xs (E.ρ k)) with ⟨h1,a',c',h2⟩ | ⟨b,off,cap,arr,elt,fz,h1,_⟩
   ·exact ⟨a'.isNone,a',0,c',h2,rfl,fun _=>h1⟩
   ·exact ⟨false,_,_,_,h1,rfl,fun h=>by cases h⟩
  ·rcases (hs.hM k _ h:OwnR R F w xs (E.ρ k)) with ⟨h1,h2⟩ | ⟨b,off,cap,arr,elt,fz,h1,_⟩
   ·exact ⟨true,none,0,0,h2,rfl,fun _=>h1⟩
   ·exact ⟨false,_,_,_,h1,rfl,fun h=>by cases h⟩
 obtain ⟨b,p,l,c,hv,hp,hb⟩:=hv
 have hrun:(execOp a.eval o).run X.P w=.ok (.value (.bool (bif neg then !b else b))) w:=by
  simp only [execOp,hop,e1,e2,denV]
  rw [hv]
  simp only [den]
  refine exec_v ?_
  have heq:(Op.equal t (.slice p l c) (.slice none 0 0)).run X.P w=.ok b w:=by
   show (Op.equalIn (9999+1) t _ _).run X.P w=_
   generalize 9999=q
   subst hp
   cases p<;>simp only [Op.equalIn,Sem.run_bind,run_underlying' hu,Result.andThen_ok,Sem.run_pure,Option.isNone_none,Option.isNone_some]
  cases neg with
  | false =>
   simp only [cond_false,eqGuard,Sem.run_bind,Sem.run_pure,Result.andThen_ok]
   show (do pure (Value.bool (← Op.equal t _ _)):Sem Value).run X.P w=_
   simp only [Sem.run_bind,heq,Result.andThen_ok,Sem.run_pure]
  | true =>
   simp only [cond_true,eqGuard,Sem.run_bind,Sem.run_pure,Result.andThen_ok]
   show (do pure (Value.bool (!(← Op.equal t _ _))):Sem Value).run X.P w=_
   simp only [Sem.run_bind,heq,Result.andThen_ok,Sem.run_pure]
 have hk:=kk b hb E F w _ (hs.setL (d:=d) (v:=.c (.b (bif neg then !b else b))) trivial (blt_lt hn))
 simp only [wpOps,ho,guardV_ok hs hg,if_true]
 refine .inl (wp_value hrun ?_)
 rw [hd]
 exact hk
end
end Go.Kx
end
section
namespace Go.Kx
variable [LxP]
theorem RowL.take {α:Type} {R:TRep α} {F w} {xs:List α} {ns:List Value} (h:RowL R F w xs ns) {m:Nat} (hm:m≤xs.length):RowL R F w (xs.take m) (ns.take (m * R.sz)):=by
 have hle:m * R.sz≤xs.length * R.sz:=Nat.mul_le_mul_right _ hm
 refine ⟨by rw [List.length_take,List.length_take,h.1,Nat.min_eq_left hle,Nat.min_eq_left hm],fun i x hx=>?_⟩
 rw [List.getElem?_take] at hx
 split at hx
 ·rename_i him
  obtain ⟨vs,hr,hv⟩:=h.2 i x hx
  refine ⟨vs,hr,fun j v hj=>?_⟩
  have hjl:=(List.getElem?_eq_some_iff.1 hj).1
  rw [R.len hr] at hjl
  have:(i+1) * R.sz≤m * R.sz:=Nat.mul_le_mul_right _ him
  rw [Nat.add_mul] at this
  rw [List.getElem?_take,if_pos (by omega)]
  exact hv j v hj
 ·cases hx
theorem RowL.drop {α:Type} {R:TRep α} {F w} {xs:List α} {ns:List Value} (h:RowL R F w xs ns) (m:Nat):RowL R F w (xs.drop m) (ns.drop (m * R.sz)):=by
 refine ⟨by rw [List.length_drop,List.length_drop,h.1,Nat.sub_mul],fun i x hx=>?_⟩
 rw [List.getElem?_drop] at hx
 obtain ⟨vs,hr,hv⟩:=h.2 (m+i) x hx
 refine ⟨vs,hr,fun j v hj=>?_⟩
 have:=hv j v hj
 rw [List.getElem?_drop,show m * R.sz+(i * R.sz+j)=(m+i) * R.sz+j by rw [Nat.add_mul];omega]
 exact this
def hiN (h:Option Int) (len:Nat):Nat:=match h with | some h=>h.toNat | none=>len
theorem vwf_slice (l h:Option Int) (sz:Nat) (b:Option Addr) (len cap:Nat) :
    vwf l h sz (.slice b len cap)=.slice (if cap=(l.getD 0).toNat then b else b.map (·.add ((l.getD 0).toNat * sz))) (hiN h len-(l.getD 0).toNat) (cap-(l.getD 0).toNat):=by cases h<;>rfl
theorem bnd_hi {lo hi:Option Int} {len:Nat} {p:Nat × Nat} (h:bnd lo hi len=some p):p.1=(lo.getD 0).toNat∧p.2=hiN hi len:=by
 obtain ⟨_,_,_,q4⟩:=bnd_ok h
 rw [q4]
 cases hi<;>simp [hiN]
theorem OwnR.sub {α:Type} {R:TRep α} {F w} {xs:List α} {v:Value} {l h:Option Int} {p:Nat × Nat} (ho:OwnR R F w xs v) (hb:bnd l h xs.length=some p) :
  OwnR R F w ((xs.take p.2).drop p.1) (vwf l h R.sz v):=by
 obtain ⟨q1,q2,q3,q4⟩:=bnd_ok hb
 obtain ⟨hp1,hp2⟩:=bnd_hi hb
 have hle:p.1≤p.2:=by rw [q4];simp;omega
 have hle2:p.2≤xs.length:=by rw [q4];simp;omega
 have hlen:((xs.take p.2).drop p.1).length=p.2-p.1:=by simp;omega
 rcases ho with ⟨rfl,rfl⟩ | ⟨b,off,cap,arr,el,fz,rfl,hc,hs,ht,hh,hr⟩
 ·simp at hle2
  refine .inl ⟨by simp,?_⟩
  have h0:p.1=0:=by omega
  have h1:p.2=0:=by omega
  simp only [List.length_nil] at hp2
  rw [vwf_slice,← hp1,← hp2,h0,h1]
  rfl
 ·rw [vwf_slice,← hp1,← hp2]
  by_cases he:cap=p.1
  ·have h0:(xs.take p.2).drop p.1=[]:=List.eq_nil_of_length_eq_zero (by rw [hlen];omega)
   rw [if_pos he]
   refine .inr ⟨b,off,cap-p.1,arr,el,fz,by rw [hlen],by rw [hlen];omega,?_,ht,hh,by rw [h0];exact Row.empty⟩
   have:cap-p.1=0:=by omega
   rw [this,Nat.zero_mul]
   exact Nat.le_trans (Nat.le_add_right _ _) hs
  ·rw [if_neg he]
   refine .inr ⟨b,off+p.1 * R.sz,cap-p.1,arr,el,fz,by rw [hlen];simp [addr_add],by rw [hlen];omega,?_,ht,hh,hr.sub p.1 p.2⟩
   have:p.1 * R.sz+(cap-p.1) * R.sz=cap * R.sz:=by rw [← Nat.add_mul];congr 1;omega
   omega
theorem blockOf_vwf {l h:Option Int} {sz b:Nat} {v:Value} (hb:blockOf (vwf l h sz v)=some b):blockOf v=some b:=by
 unfold vwf at hb
 split at hb
 ·rename_i a len cap
  have hadd:∀ (a:Addr) n,(a.add n).block=a.block:=fun a n=>by unfold Addr.add;split<;>rfl
  cases a with
  | none=>split at hb<;>cases hb
  | some a =>
   split at hb
   ·exact hb
   ·simp only [Option.map_some,blockOf,Option.some.injEq,hadd] at hb ⊢;exact hb
 ·exact hb
section
variable {X:Ctx} {s:St} {ops:Array Oper} {todo:Act→World→Prop} {tt:List (Nat × TD)} {E:Env} {F:FSet} {w:World} {a:Act}
theorem WPr.vw {α:Type} {R:TRep α} (htt:TTOk X.P tt) {i:Nat} {rest:List Nat} {o:Oper} {t:TypeId} {td:TD} {x:Operand} {lo hi:Option Operand} {l h:Option (IntKind × Int)} {d k:Nat} {fr:Bool} {xs zs:List α}
    (hz:lsl xs (l.map (·.2)) (h.map (·.2))=some zs) (ho:ops[i]? = some o) (hg:guardV ops s.L o=some true) (hop:o.op=.slice t x lo hi none) (hd:o.dst=some d)
    (ht:look tt t=some td) (hx:evalO s.L x=some (.c (.sl k))) (hM:look s.M k=some (.own R xs fr)) (hlo:evOI s.L lo=some l) (hhi:evOI s.L hi=some h)
    (hc:(Nat.blt d X.fn.ntmps && Nat.beq td.kd 6 && Nat.beq td.es R.sz)=true)
    (kk:WPr X ops rest todo ⟨(d,.c (.sl s.nx))::s.L,s.M,(s.nx,.vw k (l.map (·.2)) (h.map (·.2)) R.sz)::s.V,s.nx+1⟩):WPr X ops (i::rest) todo s:=by
  refine WPr.op ho hg (fun E F w a hs=>?_) kk
  simp only [Bool.and_eq_true] at hc
  obtain ⟨⟨c1,c2⟩,c3⟩:=hc
  have c3:=Nat.eq_of_beq_eq_true c3
  obtain ⟨e1,_⟩:=hs.eval hx
  obtain ⟨el,hu,hsz⟩:=(htt.get ht).sliceOf c2
  have hsl:OwnR R F w xs (E.ρ k):=hs.hM k _ hM
  unfold Kx.lsl at hz
  rw [Option.map_eq_some_iff] at hz
  obtain ⟨p,hp,rfl⟩:=hz
  obtain ⟨q1,q2,q3,q4⟩:=bnd_ok hp
  obtain ⟨hp1,hp2⟩:=bnd_hi hp
  have hcap:∃ b c,E.ρ k=.slice b xs.length c∧xs.length≤c:=by
    rcases hsl with ⟨rfl,hv⟩ | ⟨b',off,cap,arr,el,fz,hv,hc,_⟩
    · exact ⟨none,0,hv,Nat.le_refl _⟩
    · exact ⟨_,_,hv,hc⟩
  obtain ⟨b,c,hv,hcap⟩:=hcap
  have hrun:(execOp a.eval o).run X.P w=.ok (.value (vwf (l.map (·.2)) (h.map (·.2)) R.sz (E.ρ k))) w:=by
    simp only [execOp,hop,e1,denV,den,hv,evOI_ok hs hlo,evOI_ok hs hhi,Option.map_none]
    refine exec_v ?_
    rw [run_slice_sl hu (hsz w) hcap hp,c3,vwf_slice,← hp1,← hp2]
  refine wp_value hrun ?_
  have hE:E.Eqb s.nx (E.setρ s.nx (vwf (l.map (·.2)) (h.map (·.2)) R.sz (E.ρ k))):=E.eqb_setρ _ _ _ (Nat.le_refl _)
  have hρ:(E.setρ s.nx (vwf (l.map (·.2)) (h.map (·.2)) R.sz (E.ρ k))).ρ s.nx=vwf (l.map (·.2)) (h.map (·.2)) R.sz (E.ρ k):=by simp [Env.setρ]
  have hk0:=(hs.wf.hM k _ hM).1
  have s1:=hs.env hE (fun j=>by
    simp only [Env.setρ];split
    · rw [hv];rfl
    · exact hs.one j)
  have s2:=s1.addV (f:=.vw k (l.map (·.2)) (h.map (·.2)) R.sz) (by
    show _=vwf _ _ _ _
    rw [hρ,(hE k hk0).1]) (Nat.lt_succ_of_lt hk0)
  have s3:=s2.setL (d:=d) (v:=.c (.sl s.nx)) (Nat.lt_succ_self _) (blt_lt c1)
  simp only [denV,den] at s3
  rw [hρ] at s3
  rw [hd]
  exact ⟨_,F,s3⟩
theorem view_own {α:Type} {R:TRep α} {xs zs:List α} {l h:Option Int} {k K:Nat} {fr:Bool} (hz:lsl xs l h=some zs) (hV:look s.V K=some (.vw k l h R.sz)) (hM:look s.M k=some (.own R xs fr)) (hs:Sat X s E F w a) :
  OwnR R F w zs (E.ρ K):=by
 unfold Kx.lsl at hz
 rw [Option.map_eq_some_iff] at hz
 obtain ⟨p,hp,rfl⟩:=hz
 have h1:E.ρ K=vwf l h R.sz (E.ρ k):=hs.hV K _ hV
 rw [h1]
 exact OwnR.sub (hs.hM k _ hM) hp
theorem Sat.settle {α:Type} {R:TRep α} {xs zs:List α} {l h:Option Int} {k K:Nat} {fr:Bool} (hz:lsl xs l h=some zs) (hV:look s.V K=some (.vw k l h R.sz)) (hM:look s.M k=some (.own R xs fr)) (hK:look s.M K=none)
  (hs:Sat X s E F w a):Sat X ⟨s.L,(K,.own R zs fr)::(k,.gone)::s.M,s.V,s.nx⟩ E F w a:=by
 have h1:E.ρ K=vwf l h R.sz (E.ρ k):=hs.hV K _ hV
 have hfp:∀ b,(MO.own R zs fr).fp E K b→(MO.own R xs fr).fp E k b:=fun b hb=>by
  have hb:blockOf (E.ρ K)=some b:=hb
  rw [h1] at hb
  exact blockOf_vwf hb
 exact hs.moveM (m':=.own R zs fr) hM hK (hs.wf.hV K _ hV).1 (view_own hz hV hM hs) trivial hfp (fun hf b hb=>hs.fresh k _ hM hf b (hfp b hb))
theorem WPr.ext {i:Nat} {rest:List Nat} {o:Oper} {f:FuncId} {args:Array Operand} {ts:Array TypeId} {d:Nat} {svs:List SV} {v:SV}
  (hrun:∀ (E:Env) (w:World),(callFunc f (svs.map (denV E)).toArray).run X.P w=.ok (.value (denV E v)) w) (hv:∀ n,v.kb n) (ho:ops[i]? = some o) (hg:guardV ops s.L o=some true)
  (hop:o.op=.call { callee:=.value (.func f),args:=args,argTypes:=ts }) (hd:o.dst=some d) (hn:Nat.blt d X.fn.ntmps=true) (hargs:evalL s.L args.toList=some svs)
  (kk:WPr X ops rest todo ⟨(d,v)::s.L,s.M,s.V,s.nx⟩):WPr X ops (i::rest) todo s:=by
 refine WPr.val (fun E F w a hs=>⟨?_,hv _⟩) ho hg hd hn kk
 have hev:=(evalL_ok hs hargs).1
 have hargv:args.map a.eval=(svs.map (denV E)).toArray:=by
  apply Array.ext'
  rw [Array.toList_map,hev]
 unfold execOp
 simp only [hop,resolve,Deferred.ofValue,Act.eval,invoke,Sem.run_bind,Sem.run_pure,Result.andThen_ok]
 have:=hrun E w
 rw [← hargv] at this
 simpa using this
def byteOf (c:Int):UInt8:=c.toNat.toUInt8
def firstB (m:ByteArray) (c:Int):Int:=firstIdx m (byteOf c)
def countB (m:ByteArray) (c:Int):Int:=m.foldl (fun n x=>if x==byteOf c then n+1 else n) (((0:Nat):Int))
theorem ext_indexByte {P:Program} {f:FuncId} {fn:Func} (hf:P.funcs[f]? = some fn) (hname:(fn.name == "runtime.NumGoroutine")=false) (hb:fn.body.isNone=true) (hn:Extern.findNext fn=none)
  (he:Extern.find fn=some Extern.BytealgIndexByte.indexByte) (m:ByteArray) (c:Int) (E:Env) (w:World) :
  (callFunc f (([.c (.s m),.c (.i .u8 c)]:List SV).map (denV E)).toArray).run P w=.ok (.value (denV E (.c (.i .i64 (firstB m c))))) w:=by
 rw [run_callFunc_extern hf hname hb hn he]
 show ((Extern.BytealgIndexByte.indexByte #[.string m,.int .u8 c]).run P w).andThen _=_
 rw [run_indexByte_string];rfl
theorem ext_countByte {P:Program} {f:FuncId} {fn:Func} (hf:P.funcs[f]? = some fn) (hname:(fn.name == "runtime.NumGoroutine")=false) (hb:fn.body.isNone=true) (hn:Extern.findNext fn=none)
  (he:Extern.find fn=some Extern.BytealgCount.count) (m:ByteArray) (c:Int) (E:Env) (w:World) :
  (callFunc f (([.c (.s m),.c (.i .u8 c)]:List SV).map (denV E)).toArray).run P w=.ok (.value (denV E (.c (.i .i64 (countB m c))))) w:=by
 rw [run_callFunc_extern hf hname hb hn he]
 show ((Extern.BytealgCount.count #[.string m,.int .u8 c]).run P w).andThen _=_
 have:(Extern.BytealgCount.count #[.string m,.int .u8 c]).run P w=.ok (.int .i64 (countB m c)) w:=by
  change Sem.run P (do
   let b ← Extern.Bytes.bytesOf (.string m)
   let c' ← Extern.Bytes.asByte (.int .u8 c)
   pure (goInt (b.foldl (fun n x=>if x==c' then n+1 else n) (0:Nat)))) w=_
  simp only [Extern.Bytes.bytesOf,Extern.Bytes.asByte,Sem.run_bind,Sem.run_pure,Result.andThen,goInt]
  rfl
 rw [this];rfl
end
end Go.Kx
end
section
namespace Go.Kx
variable [LxP]
section
variable {X:Ctx} {s:St} {ops:Array Oper} {todo:Act→World→Prop} {E:Env} {F:FSet} {w:World} {a:Act}
theorem Sat.setL0 (hs:Sat X s E F w a) {d:Nat} {v v0:SV} (h0:look s.L d=some v0) (hv:denV E v=denV E v0) (hk:v.kb s.nx):Sat X ⟨(d,v)::s.L,s.M,s.V,s.nx⟩ E F w a:={ hs with
 wf:=⟨fun d' v' h=>by
   rw [look_cons] at h
   split at h
   ·cases h;exact hk
   ·exact hs.wf.hL _ _ h,hs.wf.hM,hs.wf.hV⟩
 hL:=fun d' v' h=>by
  rw [look_cons] at h
  split at h
  ·rename_i e;cases h;subst e;rw [hv];exact hs.hL _ _ h0
  ·exact hs.hL _ _ h }
end
end Go.Kx
end
