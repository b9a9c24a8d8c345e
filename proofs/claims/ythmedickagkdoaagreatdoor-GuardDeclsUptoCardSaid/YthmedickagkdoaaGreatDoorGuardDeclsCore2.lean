/- Aids for the walks, part 2: a symbolic state of the machine, and that each step of the machine keeps it. -/
import Derived.Laws.Append
import Derived.Deep.Quiet
import Derived.Laws.StructEq
import Derived.ChangeKeysEq
import Derived.Orders
import Derived.Laws.BytesString
import Derived.Laws.IdiomStrings
import Derived.Laws.Externs
import Derived.WalkKit
import Derived.ProofKit
import Derived.OpenShut
import Derived.JoinedCond
import Derived.Deep.DeepHandedRow
import Derived.Test.YthmedickagkdoaaGreatDoorGuardDeclsCore1
set_option linter.all false
section
namespace Go.Kx
variable [LxP]
def RowL {α:Type} (R:TRep α) (F:YB) (w:World) (xs:List α) (ns:List Value):Prop :=
 ns.length=xs.length * R.sz/\∀ (i:Nat) (x:α),xs[i]? = some x->∃ vs,R.rep F w x vs/\∀ (j:Nat) (v:Value),vs[j]? = some v->ns[i * R.sz+j]? = some v
def Rd {α:Type} (P:Program) (R:TRep α) (F:YB) (w:World) (xs:List α) (v:Value):Prop :=
 ∃ b c ns,v=.slice b xs.length c/\RowL R F w xs ns/\(∀ m w',m<=xs.length->w'.heap=w.heap->(Builtin.firstCells R.sz m v).run P w'=.ok (ns.take (m * R.sz)).toArray w')/\∀ u∈ns,u.oneCell'=true
theorem Row.cellsOf {α:Type} {R:TRep α} {F w} {xs:List α} {arr:Array Value} {off:Nat} (h:Row R F w xs arr off) :
  ∃ k:List Value,RowL R F w xs k/\(∀ (j:Nat) v,k[j]? = some v->arr[off+j]? = some v)/\∀ u∈k,u.oneCell'=true:=by
 induction xs generalizing off with
 | nil=>exact ⟨[],⟨by simp,by simp⟩,by simp,by simp⟩
 | cons x xs K =>
  have ⟨z,m,A⟩:=h 0 x rfl
  have l:=R.len m
  obtain ⟨k,⟨C,D⟩,G,I⟩:=K (off:=off+R.sz) (fun i y g=>by
   have ⟨q,d,f⟩:=h (i+1) y (by simpa using g)
   refine ⟨q,d,fun j v c=>?_⟩
   have:=f j v c
   rw [show off+R.sz+i * R.sz+j=off+(i+1) * R.sz+j by rw [Nat.add_mul];omega]
   exact this)
  refine ⟨z++k,⟨by rw [List.length_append,l,C,Zf,Nat.add_mul];omega,fun i y g=>?_⟩,fun j v c=>?_,fun u d=>?_⟩
  ·cases i with
   | zero =>
    simp only [List.getElem?_cons_zero,Option.some.injEq] at g
    subst g
    refine ⟨z,m,fun j v c=>?_⟩
    rw [Nat.zero_mul,Nat.zero_add,Zm (List.getElem?_eq_some_iff.1 c).1]
    exact c
   | succ i =>
    have ⟨q,d,f⟩:=D i y (by simpa using g)
    refine ⟨q,d,fun j v c=>?_⟩
    have:=f j v c
    rw [Zn (by rw [l,Nat.add_mul];omega),l,show (i+1) * R.sz+j-R.sz=i * R.sz+j by rw [Nat.add_mul];omega]
    exact this
  ·rw [List.getElem?_append] at c
   split at c
   ·have:=A j v c
    rw [Nat.zero_mul,Nat.add_zero] at this
    exact this
   ·rename_i r
    have:=G _ v c
    rw [l] at this r
    rw [show off+R.sz+(j-R.sz)=off+j by omega] at this
    exact this
  ·rcases List.mem_append.1 d with d | d
   ·exact R.one m u d
   ·exact I u d
theorem Rd.of_row {α:Type} {P:Program} {R:TRep α} {F w} {xs:List α} {arr:Array Value} {off b cap:Nat} {ty:TypeId} {fz:Nat × Nat} (g:w.heap[b]? = some (.cells arr ty fz)) (h:Row R F w xs arr off) :
  Rd P R F w xs (.slice (some ⟨b,off,none⟩) xs.length cap):=by
 have ⟨d,f,q,r⟩:=h.cellsOf
 refine ⟨_,_,d,rfl,f,fun m w' k l=>?_,r⟩
 simp only [Builtin.firstCells]
 have u:(d.take (m * R.sz)).length=m * R.sz:=by
  rw [List.length_take,f.1];exact Nat.min_eq_left (Nat.mul_le_mul_right _ k)
 have:=run_loadCells_list (P:=P) w' ⟨b,off,none⟩ (d.take (m * R.sz)) fun j v c=>by
  rw [WS,QL (by rw [l];exact g)]
  rw [List.getElem?_take] at c
  split at c
  ·exact q j v c
  ·cases c
 rw [u] at this
 exact this
theorem Rd.of_nil {α:Type} {P:Program} {R:TRep α} {F w}:Rd P R F w ([]:List α) (.slice none 0 0) :=
 ⟨_,_,[],rfl,⟨by simp,by simp⟩,fun m w' _ _=>by simp [Builtin.firstCells],by simp⟩
theorem Rd.of_sl {α:Type} {P:Program} {R:TRep α} {F w} {xs:List α} {v:Value} (h:SlR R F w xs v):Rd P R F w xs v:=by
 rcases h with ⟨rfl,a,c,rfl⟩ | ⟨b,off,cap,arr,ty,fz,rfl,_,_,f,g⟩
 ·refine ⟨a,c,[],rfl,⟨by simp,by simp⟩,fun m w' d _=>?_,by simp⟩
  have:m=0:=by simpa using d
  subst this
  cases a with
  | none=>simp [Builtin.firstCells]
  | some a =>
   simp only [Builtin.firstCells,Nat.zero_mul,List.take_zero]
   exact run_loadCells_list w' a [] (by simp)
 ·exact .of_row f g
theorem Rd.of_own {α:Type} {P:Program} {R:TRep α} {F w} {xs:List α} {v:Value} (h:OwnR R F w xs v):Rd P R F w xs v:=by
 rcases h with ⟨rfl,rfl⟩ | ⟨b,off,cap,arr,ty,fz,rfl,_,_,_,c,d⟩
 ·exact .of_nil
 ·exact .of_row c d
def H2 {α:Type} (P:Program) (R:TRep α) (F:YB) (w:World) (xs:List α) (v:Value):Prop :=
 ∃ ns,RowL R F w xs ns/\(∀ w',(Builtin.lenOf v).run P w'=.ok xs.length w')/\(∀ m w',m<=xs.length->w'.heap=w.heap->(Builtin.firstCells R.sz m v).run P w'=.ok (ns.take (m * R.sz)).toArray w')/\∀ u∈ns,u.oneCell'=true
theorem Rd.src {α:Type} {P:Program} {R:TRep α} {F w} {xs:List α} {v:Value} (h:Rd P R F w xs v):H2 P R F w xs v:=by
 obtain ⟨b,c,d,rfl,f,g,j⟩:=h
 exact ⟨d,f,fun w'=>by simp [Builtin.lenOf],g,j⟩
theorem RowL.append {α:Type} {R:TRep α} {F w} {xs ys:List α} {m q:List Value} (d:RowL R F w xs m) (r:RowL R F w ys q):RowL R F w (xs++ys) (m++q):=by
 refine ⟨by rw [List.length_append,List.length_append,d.1,r.1,Nat.add_mul],fun i x f=>?_⟩
 rw [List.getElem?_append] at f
 split at f
 ·rename_i u
  have ⟨h,k,l⟩:=d.2 i x f
  refine ⟨h,k,fun j v g=>?_⟩
  have:=l j v g
  rw [Zm (List.getElem?_eq_some_iff.1 this).1]
  exact this
 ·rename_i c
  have ⟨h,k,l⟩:=r.2 _ x f
  refine ⟨h,k,fun j v g=>?_⟩
  have:=l j v g
  have c:=Nat.not_lt.1 c
  have y:xs.length * R.sz<=i * R.sz:=Nat.mul_le_mul_right _ c
  rw [Zn (by rw [d.1];omega),d.1]
  rw [Nat.sub_mul] at this
  rw [show i * R.sz+j-xs.length * R.sz=i * R.sz-xs.length * R.sz+j by omega]
  exact this
theorem RowL.row {α:Type} {R:TRep α} {F w} {xs:List α} {c:List Value} (h:RowL R F w xs c) {arr:Array Value} {off:Nat} (d:∀ (j:Nat) v,c[j]? = some v->arr[off+j]? = some v):Row R F w xs arr off :=
 fun i x f=>let ⟨vs,hr,hv⟩:=h.2 i x f;⟨vs,hr,fun j v g=>by rw [Nat.add_assoc];exact d _ v (hv j v g)⟩
theorem RowL.mono {α:Type} {R:TRep α} {F w F' w'} {xs:List α} {c:List Value} (g:Wt F w F' w') (h:RowL R F w xs c):RowL R F' w' xs c :=
 ⟨h.1,fun i x d=>let ⟨vs,hr,hv⟩:=h.2 i x d;⟨vs,R.mono g hr,hv⟩⟩
def lim:Nat:=4294967296
def YJ {α:Type} (xs ys:List α):Option (List α):=bif Nat.ble (xs.length+ys.length) lim then some (xs++ys) else none
theorem ZhV {α:Type} {xs ys zs:List α} (h:YJ xs ys=some zs):zs=xs++ys/\xs.length+ys.length<=lim:=by
 unfold YJ at h
 cases c:Nat.ble (xs.length+ys.length) lim with
 | false=>rw [c] at h;cases h
 | true=>rw [c] at h;cases h;exact ⟨rfl,Ze c⟩
theorem ZfQ (n:Nat):RC (0,0) n:=fun j _=>by simp
def OwnQ {α:Type} (Q:Nat->TypeId->Prop) (R:TRep α) (F:YB) (w:World) (xs:List α) (v:Value):Prop :=
 (xs=[]/\v=.slice none 0 0)\/∃ (b off cap:Nat) (arr:Array Value) (el:TypeId) (fz:Nat × Nat),Q off el/\v=.slice (some ⟨b,off,none⟩) xs.length cap/\xs.length<=cap /\
  off+cap * R.sz<=arr.size/\RC fz arr.size/\w.heap[b]? = some (.cells arr el fz)/\Row R F w xs arr off
theorem OwnQ.own {α:Type} {Q:Nat->TypeId->Prop} {R:TRep α} {F:YB} {w:World} {xs:List α} {v:Value} (h:OwnQ Q R F w xs v):OwnR R F w xs v:=by
 rcases h with h | ⟨b,off,cap,arr,el,fz,_,h⟩
 ·exact .inl h
 ·exact .inr ⟨b,off,cap,arr,el,fz,h⟩
theorem OwnR.q {α:Type} {R:TRep α} {F:YB} {w:World} {xs:List α} {v:Value} (h:OwnR R F w xs v):OwnQ (fun _ _=>True) R F w xs v:=by
 rcases h with h | ⟨b,off,cap,arr,el,fz,h⟩
 ·exact .inl h
 ·exact .inr ⟨b,off,cap,arr,el,fz,trivial,h⟩
theorem Zlb {α:Type} (Q:Nat->TypeId->Prop) {P:Program} {t t2 ty:TypeId} {y:TD} (hQ:Q 0 y.el) (d:P.underlying t2=some .string\/∃ e2,P.underlying t2=some (.slice e2)) (ok:TD.Ok P t y) (hk:Nat.beq y.kd 6=true) {R:TRep α} (hR:y.es=R.sz) {F:YB} {w:World} {xs ys:List α} {v Z:Value}
  (ho:OwnQ Q R F w xs v) (hs:H2 P R F w ys Z) (hF:∀ b,YH v=some b->¬ F b) (hFs:∀ b,F b->b < w.heap.size) (hbs:∀ b,YH v=some b->b < w.heap.size)
  (L:xs.length+ys.length<=lim) (heb:y.eb<=32768) :
  ∃ Y w',(Builtin.append_ #[t,t2] ty #[v,Z]).run P w=.ok Y w'/\OwnQ Q R F w' (xs++ys) Y/\w'.os=w.os/\w'.tape=w.tape/\Oq w w'/\w.heap.size<=w'.heap.size /\
   (∀ b,b < w.heap.size->YH v≠some b->w'.heap[b]? = w.heap[b]?)/\(∀ b,YH Y=some b->(YH v=some b\/w.heap.size<=b)/\b < w'.heap.size):=by
 have ⟨i,hu,hi,hsz,hby,hne,z,hz,hzs⟩:=ok.slc hk
 have ⟨r,f,C,hfc0,hone⟩:=hs
 have T:∀ w',w'.heap=w.heap->(Builtin.firstCells R.sz ys.length Z).run P w'=.ok r.toArray w':=fun w' hw=>by
  have:=hfc0 ys.length w' (Zo _) hw
  rwa [<- f.1,List.take_length] at this
 have D:i.size=R.sz:=hsz.trans hR
 have g:∀ w',(sizeOf y.el).run P w'=.ok R.sz w':=fun w'=>by simp [sizeOf,typeInfo,hi,D]
 unfold lim at L
 have q:(xs.length+ys.length) * y.eb<=140737488355328:=Nat.le_trans (Nat.mul_le_mul L heb) (by decide)
 have h63:¬ ((9223372036854775807:Int) < ((xs.length+ys.length:Nat):Int)):=by omega
 -- the parts of a slice that has not room enough
 have N:∀ (base:Option Addr) (cap:Nat) (x:List Value),v=.slice base xs.length cap->RowL R F w xs x->(∀ w',w'.heap=w.heap->(Builtin.firstCells R.sz xs.length v).run P w'=.ok x.toArray w')->cap < xs.length+ys.length ->
   ∃ Y w',(Builtin.append_ #[t,t2] ty #[v,Z]).run P w=.ok Y w'/\OwnQ Q R F w' (xs++ys) Y/\w'.os=w.os/\w'.tape=w.tape/\Oq w w'/\w.heap.size<=w'.heap.size /\
   (∀ b,b < w.heap.size->YH v≠some b->w'.heap[b]? = w.heap[b]?)/\(∀ b,YH Y=some b->(YH v=some b\/w.heap.size<=b)/\b < w'.heap.size):=by
  intro base cap x hv k hfo M
  subst hv
  let K:=(Question.appendCap (xs.length+ys.length) cap y.el).cut (w.tape w.drawn (.appendCap (xs.length+ys.length) cap y.el))
  have hnc:xs.length+ys.length<=K:=Nat.le_add_right _ _
  let arr:Array Value:=x.toArray++r.toArray++Builtin.zeroCells z.cells (K-(xs.length+ys.length))
  let w':World:=w.drew.alloc (.cells arr y.el)
  have U:¬ (xs.length+ys.length<=cap):=by omega
  have hfit:¬ (281474976710656 < Builtin.nextslicecap (xs.length+ys.length) cap * i.bytes):=by
   have:=growslice_fits M (by rw [<- hby] at q;exact q)
   omega
  have h1:=hfo w.drew rfl
  have h2:=T w.drew rfl
  have G:(Builtin.append_ #[t,t2] ty #[.slice base xs.length cap,Z]).run P w=.ok (.slice (some ⟨w.heap.size,0,none⟩) (xs.length+ys.length) K) w':=by
   have h63':¬ (9223372036854775807 < ((xs.length:Int)+(ys.length:Int))):=by omega
   rcases d with d | ⟨_,d⟩<;>simp [Builtin.append_,Xb hu,Xb d,g,typeInfo,zeroValue,hi,hz,C,U,h63',hfit,Question.forced,h1,h2,newRow] <;>
   simp [w',arr,K,Array.append_assoc]
  have harr:∀ (j:Nat) u,(x++r)[j]? = some u->arr[0+j]? = some u:=fun j u A=>by
   have I:j < (x++r).length:=(List.getElem?_eq_some_iff.1 A).1
   rw [Nat.zero_add]
   show (x.toArray++r.toArray++_:Array Value)[j]? = some u
   rw [Array.getElem?_append_left (by simpa using I)]
   simpa using A
  have hg:Wt F w F w':=⟨fun _ h=>h,fun b O=>by
   show (w.heap.push _)[b]? = w.heap[b]?
   rw [Array.getElem?_push];rw [if_neg (Nat.ne_of_lt (hFs b O))]⟩
  refine ⟨_,w',G,.inr ⟨w.heap.size,0,K,arr,y.el,(0,0),hQ,by rw [List.length_append],by rw [List.length_append];exact hnc,?_,ZfQ _,heap_alloc_new w.drew _,((k.append f).mono hg).row harr⟩,rfl,rfl,.m,by simp [w'],?_,?_⟩
  ·show 0+K * R.sz<=(x.toArray++r.toArray++Builtin.zeroCells z.cells (K-(xs.length+ys.length))).size
   have hzc:(Builtin.zeroCells z.cells (K-(xs.length+ys.length))).size=(K-(xs.length+ys.length)) * R.sz:=by simp [Builtin.zeroCells,hzs,D]
   rw [Array.size_append,Array.size_append,hzc,List.size_toArray,List.size_toArray,k.1,f.1,<- Nat.add_mul,<- Nat.add_mul,Nat.zero_add]
   exact Nat.mul_le_mul_right _ (by omega)
  ·intro b O _
   show (w.heap.push _)[b]? = w.heap[b]?
   rw [Array.getElem?_push];rw [if_neg (Nat.ne_of_lt O)]
  ·intro b O
   cases O
   exact ⟨.inr (Zo _),by simp [w']⟩
 rcases ho with ⟨rfl,rfl⟩ | ⟨b,off,cap,arr,el,fz,hq,rfl,M,hsza,hth,hh,hr⟩
 ·by_cases h0:ys.length=0
  ·have hy:ys=[]:=List.eq_nil_of_length_eq_zero h0
   subst hy
   have hn0:r=[]:=List.eq_nil_of_length_eq_zero (by simpa using f.1)
   subst hn0
   refine ⟨.slice none 0 0,w,?_,.inl ⟨rfl,rfl⟩,rfl,rfl,.m,Zo _,fun _ _ _=>rfl,fun b O=>by cases O⟩
   have:=T w rfl
   simp only [List.length_nil] at this
   rcases d with d | ⟨_,d⟩<;>simp [Builtin.append_,Xb hu,Xb d,g,C,this]
  ·exact N none 0 [] rfl ⟨by simp,by simp⟩ (fun w' _=>by simp [Builtin.firstCells]) (by simp only [List.length_nil];omega)
 ·have ⟨x,k,hmc,_⟩:=hr.cellsOf
  by_cases l:xs.length+ys.length<=cap
  ·have hmul:(xs.length+ys.length) * R.sz<=cap * R.sz:=Nat.mul_le_mul_right _ l
   rw [Nat.add_mul] at hmul
   have V:=f.1
   have hst:=Q7 (P:=P) b (off+xs.length * R.sz) el fz r 0 arr w hh hth (by rw [V];omega) hone
   have hbt:b < w.heap.size:=hbs b rfl
   let c:=(arr.toList.take (off+xs.length * R.sz+0)++r++arr.toList.drop (off+xs.length * R.sz+0+r.length)).toArray
   have G:(Builtin.append_ #[t,t2] ty #[.slice (some ⟨b,off,none⟩) xs.length cap,Z]).run P w=.ok (.slice (some ⟨b,off,none⟩) (xs.length+ys.length) cap) (w.setRow b c):=by
    have h2:=T w rfl
    rcases d with d | ⟨_,d⟩<;>simp [Builtin.append_,Xb hu,Xb d,g,C,l,h2,WS] <;>
    (rw [hst];rfl)
   have hold:∀ (j:Nat) u,(x++r)[j]? = some u->c[off+j]? = some u:=by
    intro j u A
    show ((arr.toList.take (off+xs.length * R.sz+0)++r++arr.toList.drop (off+xs.length * R.sz+0+r.length)).toArray)[off+j]? = some u
    simp only [Nat.add_zero,List.getElem?_toArray,List.append_assoc]
    have W:(arr.toList.take (off+xs.length * R.sz)).length=off+xs.length * R.sz:=by
     have hal:arr.toList.length=arr.size:=Array.length_toList
     rw [List.length_take,hal];omega
    rw [List.getElem?_append] at A
    split at A
    ·rename_i I
     rw [k.1] at I
     have hj':j < xs.length * R.sz:=I
     rw [Zm (by rw [W];omega),List.getElem?_take,if_pos (by omega)]
     have:=hmc j u A
     simpa using this
    ·rename_i hge
     rw [k.1] at hge A
     rw [Zn (by rw [W];omega),W,Zm (by have:=(List.getElem?_eq_some_iff.1 A).1;omega),
      show off+j-(off+xs.length * R.sz)=j-xs.length * R.sz by omega]
     exact A
   have hg:Wt F w F (w.setRow b c):=⟨fun _ h=>h,fun b' S=>setRow_other w b b' _ (fun e=>hF b rfl (e ▸ S))⟩
   refine ⟨_,w.setRow b c,G,.inr ⟨b,off,cap,c,el,fz,hq,by rw [List.length_append],by rw [List.length_append];exact l,?_,?_,setRow_heap w b arr _ el fz hh,((k.append f).mono hg).row hold⟩,rfl,rfl,.m,by simp,?_,?_⟩
   ·have:c.size=arr.size:=by
     simp only [c,List.size_toArray,List.length_append,List.length_take,List.length_drop,Array.length_toList,V];omega
    rw [this];exact hsza
   ·have:c.size=arr.size:=by
     simp only [c,List.size_toArray,List.length_append,List.length_take,List.length_drop,Array.length_toList,V];omega
    rw [this];exact hth
   ·intro b' _ hne
    exact setRow_other w b b' _ (fun e=>hne (by rw [e];rfl))
   ·intro b' S
    cases S
    exact ⟨.inl rfl,by simpa using hbt⟩
  ·exact N (some ⟨b,off,none⟩) cap x rfl k (fun w' hw=>by
    simp only [Builtin.firstCells]
    rw [<- k.1]
    exact run_loadCells_list w' _ x fun j u A=>by rw [WS,QL (by rw [hw];exact hh)];exact hmc j u A) (by omega)
theorem Zla {α:Type} {P:Program} {t t2 ty:TypeId} {f:TD} (g:P.underlying t2=some .string\/∃ C,P.underlying t2=some (.slice C)) (ok:TD.Ok P t f) (m:Nat.beq f.kd 6=true) {R:TRep α} (r:f.es=R.sz) {F:YB} {w:World} {xs ys:List α} {v l:Value}
  (u:OwnR R F w xs v) (x:H2 P R F w ys l) (hF:∀ b,YH v=some b->¬ F b) (h:∀ b,F b->b < w.heap.size) (j:∀ b,YH v=some b->b < w.heap.size)
  (c:xs.length+ys.length<=lim) (k:f.eb<=32768) :
  ∃ d w',(Builtin.append_ #[t,t2] ty #[v,l]).run P w=.ok d w'/\OwnR R F w' (xs++ys) d/\w'.os=w.os/\w'.tape=w.tape/\Oq w w'/\w.heap.size<=w'.heap.size /\
   (∀ b,b < w.heap.size->YH v≠some b->w'.heap[b]? = w.heap[b]?)/\(∀ b,YH d=some b->(YH v=some b\/w.heap.size<=b)/\b < w'.heap.size):=by
 have ⟨d,w',y,z,A⟩:=Zlb (fun _ _=>True) (ty:=ty) trivial g ok m r u.q x hF h j c k
 exact ⟨d,w',y,z.own,A⟩
end Go.Kx
end
section
namespace Go.Kx
variable [LxP]
section
variable {X:Ctx} {s:St} {E:Env} {F:YB} {w:World} {a:Act}
theorem Sat.addM' {m:MO} (c:Sat X s E F w a) (A:m.ok E F w s.nx) (C:m.kb (s.nx+1))
  (d:∀ b,m.fp E s.nx b->¬ F b/\¬ X.Z b/\b < w.heap.size/\∀ k m',ZQ s.M k=some m'->¬ m'.fp E k b) (q:m.isFresh=true->∀ b,m.fp E s.nx b->X.n0<=b) :
  Sat X ⟨s.L,(s.nx,m)::s.M,s.V,s.nx+1⟩ E F w a where
 wf:=⟨(c.wf.grow (Nat.le_succ _)).hL,fun k m' h=>by
   rw [YG] at h
   split at h
   ·rename_i e;cases h;subst e;exact ⟨Nat.lt_succ_self _,C⟩
   ·exact (c.wf.grow (Nat.le_succ _)).hM k m' h,(c.wf.grow (Nat.le_succ _)).hV⟩
 nk:=Nat.le_succ_of_le c.nk
 defers:=c.defers
 size:=c.size
 hL:=c.hL
 hV:=c.hV
 hM:=fun k m' h=>by
  rw [YG] at h
  split at h
  ·rename_i e;cases h;subst e;exact A
  ·exact c.hM k m' h
 dis:=fun k v x y j g l b f=>by
  rw [YG] at j g
  split at j
  ·rename_i D
   cases j;subst D
   split at g
   ·rename_i u;exact absurd u l
   ·exact (d b f).2.2.2 v y g
  ·split at g
   ·rename_i u
    cases g;subst u
    exact fun r=>(d b r).2.2.2 k x j f
   ·exact c.dis k v x y j g l b f
 mF:=fun k m' h b f=>by
  rw [YG] at h
  split at h
  ·rename_i e;cases h;subst e
   exact ⟨(d b f).1,(d b f).2.1,(d b f).2.2.1⟩
  ·exact c.mF k m' h b f
 fresh:=fun k m' h z b f=>by
  rw [YG] at h
  split at h
  ·rename_i e;cases h;subst e;exact q z b f
  ·exact c.fresh k m' h z b f
 hF:=c.hF
 hF0:=c.hF0
 hF1:=c.hF1
 hn0:=c.hn0
 hZ:=c.hZ
 ext:=c.ext
 link:=c.link
 one:=c.one
theorem Sat.freeze {α:Type} {R:TRep α} {xs:List α} {k:Nat} (c:Sat X s E F w a) (q:ZQ s.M k=some (.own R xs true)) :
  Sat X ⟨s.L,(k,.gone)::s.M,(k,.sl R xs)::s.V,s.nx⟩ E (fun b=>F b\/YH (E.ρ k)=some b) w a:=by
 have A:=c.wf.hM k _ q
 have x:Wt F w (fun b=>F b\/YH (E.ρ k)=some b) w:=⟨fun _ h=>.inl h,fun _ _=>rfl⟩
 have y:=c.mF k _ q
 exact {
  wf:=⟨c.wf.hL,fun j m h=>by
   rw [YG] at h
   split at h
   ·rename_i e;cases h;subst e;exact ⟨A.1,trivial⟩
   ·exact c.wf.hM j m h,fun j f h=>by
   rw [YG] at h
   split at h
   ·rename_i e;cases h;subst e;exact ⟨A.1,trivial⟩
   ·exact c.wf.hV j f h⟩
  nk:=c.nk
  defers:=c.defers
  size:=c.size
  hL:=c.hL
  hV:=fun j f h=>by
   rw [YG] at h
   split at h
   ·rename_i e;cases h;subst e
    have r:=c.hM k _ q
    simp only [MO.ok] at r
    rcases r with r | ⟨b,off,cap,arr,ty,fz,z,D,_,_,G,I⟩
    ·exact .inl ⟨r.1,_,_,r.2⟩
    ·exact .inr ⟨b,off,cap,arr,ty,fz,z,D,.inr (by rw [z];rfl),G,I.mono x⟩
   ·exact (c.hV j f h).mono x
  hM:=fun j m h=>by
   rw [YG] at h
   split at h
   ·cases h;trivial
   ·exact (c.hM j m h).mono x fun _ _=>rfl
  dis:=fun j C m m' h u g b d=>by
   rw [YG] at h u
   split at h
   ·cases h;exact d.elim
   ·split at u
    ·cases u;exact fun l=>l.elim
    ·exact c.dis j C m m' h u g b d
  mF:=fun j m h b d=>by
   rw [YG] at h
   split at h
   ·cases h;exact d.elim
   ·rename_i g
    have:=c.mF j m h b d
    refine ⟨?_,this.2⟩
    rintro (hF | l)
    ·exact this.1 hF
    ·exact c.dis k j _ m q h g b l d
  fresh:=fun j m h v b d=>by
   rw [YG] at h
   split at h
   ·cases h;exact d.elim
   ·exact c.fresh j m h v b d
  hF:=fun b d=>by
   rcases d with d | d
   ·exact c.hF b d
   ·exact (y b d).2.2
  hF0:=fun b d=>.inl (c.hF0 b d)
  hF1:=fun b d=>by
   rcases d with d | d
   ·exact c.hF1 b d
   ·exact .inr ⟨c.fresh k _ q rfl b d,(c.mF k _ q b d).2.1⟩
  hn0:=c.hn0
  hZ:=c.hZ
  ext:=c.ext
  link:=c.link
  one:=c.one }
theorem ZhP {α:Type} {R:TRep α} {F w} {xs:List α} {v:Value} (h:OwnR R F w xs v):v.oneCell'=true:=by
 rcases h with ⟨_,rfl⟩ | ⟨_,_,_,_,_,_,rfl,_⟩<;>rfl
theorem Sat.newOwn {α:Type} {R:TRep α} {xs:List α} {v:Value} {fr:Bool} (f:Sat X s E F w a) (m:OwnR R F w xs v)
  (g:∀ b,YH v=some b->¬ F b/\¬ X.Z b/\b < w.heap.size/\∀ k m',ZQ s.M k=some m'->¬ m'.fp E k b) (h:fr=true->∀ b,YH v=some b->X.n0<=b) :
  ∃ E',E'.ρ s.nx=v/\Sat X ⟨s.L,(s.nx,.own R xs fr)::s.M,s.V,s.nx+1⟩ E' F w a:=by
 have r:E.Eqb s.nx (E.setρ s.nx v):=E.eqb_setρ _ _ _ (Zo _)
 have d:(E.setρ s.nx v).ρ s.nx=v:=by simp [Env.setρ]
 have A:=f.env r (fun j=>by
  simp only [Env.setρ];split
  ·exact ZhP m
  ·exact f.one j)
 refine ⟨_,d,A.addM' ?_ trivial ?_ ?_⟩
 ·show OwnR R F w xs ((E.setρ s.nx v).ρ s.nx)
  rw [d];exact m
 ·intro b c
  have c:YH ((E.setρ s.nx v).ρ s.nx)=some b:=c
  rw [d] at c
  have ⟨u,x,y,z⟩:=g b c
  exact ⟨u,x,y,fun k m' q l=>z k m' q ((MO.fp_eqb r (f.wf.hM k m' q).1).1 l)⟩
 ·intro l b c
  have c:YH ((E.setρ s.nx v).ρ s.nx)=some b:=c
  rw [d] at c
  exact h l b c
end
section
variable {X:Ctx} {s:St} {tt:List (Nat × TD)} {ops:Array Oper} {todo:Act->World->Prop}
def Ui {α:Type} (X:Ctx) (s:St) (R:TRep α) (ys:List α) (c:SC):Prop:=∀ E F w a,Sat X s E F w a->H2 X.P R F w ys (ZZ E c)
theorem Zsp {α:Type} {R:TRep α}:Ui X s R ([]:List α) .nil:=fun _ _ _ _ _=>Rd.of_nil.src
theorem Zso {α:Type} {R:TRep α} {ys:List α} {k:Nat} (h:ZQ s.V k=some (.sl R ys)):Ui X s R ys (.sl k):=fun _ _ _ _ c=>(Rd.of_sl (c.hV k _ h)).src
theorem Zsq {α:Type} {R:TRep α} {ys:List α} {k:Nat} {fr:Bool} (h:ZQ s.M k=some (.own R ys fr)):Ui X s R ys (.sl k):=fun _ _ _ _ c=>(Rd.of_own (c.hM k _ h)).src
theorem ZeU {P:Program} {t:TypeId} {d:TD} (h:TD.Ok P t d) (c:(Nat.beq d.kd 6 || Nat.beq d.kd 2)=true):P.underlying t=some .string\/∃ e,P.underlying t=some (.slice e):=by
 rw [Bool.or_eq_true] at c
 rcases c with c | c
 ·have ⟨e,f,_⟩:=h.sliceOf c;exact .inr ⟨e,f⟩
 ·exact .inl (h.str c)
theorem WPr.app {α:Type} {R:TRep α} (htt:TTOk X.P tt) {i:Nat} {rest:List Nat} {o:Oper} {t t2:TypeId} {I q:TD} {x y:Operand} {d k:Nat} {fr:Bool} {A:SC} {xs ys zs:List α}
  (N:YJ xs ys=some zs) (C:Ui X s R ys A) (K:ops[i]? = some o) (hg:YO ops s.L o=some true) (O:o.op=.call { callee:=.builtin .append,args:=#[x,y],argTypes:=#[t,t2] }) (hd:o.dst=some d)
  (hx:Yd s.L x=some (.c (.sl k))) (D:ZQ s.M k=some (.own R xs fr)) (hy:Yd s.L y=some (.c A)) (ht:ZQ tt t=some I) (S:ZQ tt t2=some q)
  (Z:(Nat.blt d X.fn.ntmps && Nat.beq I.kd 6 && (Nat.beq q.kd 6 || Nat.beq q.kd 2) && Nat.beq I.es R.sz && Nat.ble I.eb 32768)=true)
  (kk:WPr X ops rest todo ⟨(d,.c (.sl s.nx))::s.L,(s.nx,.own R zs fr)::(k,.gone)::s.M,s.V,s.nx+1⟩):WPr X ops (i::rest) todo s:=by
 refine WPr.op K hg (fun E F w a f=>?_) kk
 simp only [Zc] at Z
 obtain ⟨⟨⟨⟨c1,c2⟩,T⟩,c3⟩,c4⟩:=Z
 obtain ⟨rfl,hl⟩:=ZhV N
 have ⟨e1,_⟩:=f.eval hx
 have ⟨e2,_⟩:=f.eval hy
 have K:=f.hM k _ D
 simp only [MO.ok] at K
 have z:=f.mF k _ D
 have W:=ZeU (htt.get S) T
 have ⟨v',w',G,U,g1,g2,g3,g4,g5,g6⟩:=Zla (ty:=o.type) W (htt.get ht) c2 (Zd c3) K (C E F w a f) (fun b l=>(z b l).1) f.hF (fun b l=>(z b l).2.2) hl (Ze c4)
 refine XW (v:=v') (w':=w') (Un O ?_) ?_
 ·simp only [List.map_toArray,List.map_cons,List.map_nil,e1,e2,Yc,ZZ]
  exact Y3 G
 ·have s1:=f.setM (m':=.gone) D g1 g2 g3 g4 (fun b l r=>g5 b l (fun e=>r e)) (fun _ h=>h.elim) trivial trivial (fun h=>by cases h)
  have ⟨E',hv,s2⟩:=s1.newOwn (fr:=fr) U (fun b l=>by
    have ⟨g,h2⟩:=g6 b l
    rcases g with g | g
    ·have:=z b g
     refine ⟨this.1,this.2.1,h2,fun j m' m u=>?_⟩
     simp only [YG] at m
     split at m
     ·cases m;exact u.elim
     ·rename_i r;exact f.dis k j _ m' D m r b g u
    ·refine ⟨fun hF=>absurd (f.hF b hF) (Nat.not_lt.2 g),fun N=>absurd (Zh (f.hZ b N) f.ext.size) (Nat.not_lt.2 g),h2,fun j m' m u=>?_⟩
     simp only [YG] at m
     split at m
     ·cases m;exact u.elim
     ·exact absurd (f.mF j m' m b u).2.2 (Nat.not_lt.2 g))
   (fun u b l=>by
    rcases (g6 b l).1 with g | g
    ·exact f.fresh k _ D u b g
    ·exact Nat.le_trans f.hn0 (Nat.le_trans f.ext.size g))
  have Y:=s2.setL (d:=d) (v:=.c (.sl s.nx)) (Nat.lt_succ_self _) (YT c1)
  simp only [Yc,ZZ] at Y
  rw [show E'.ρ s.nx=v' from hv] at Y
  rw [hd]
  exact ⟨E',F,Y⟩
theorem WPr.appN {α:Type} (R:TRep α) (htt:TTOk X.P tt) {i:Nat} {rest:List Nat} {o:Oper} {t t2:TypeId} {r k:TD} {x y:Operand} {d:Nat} {l:SC} {ys zs:List α}
  (u:YJ [] ys=some zs) (m:Ui X s R ys l) (S:ops[i]? = some o) (T:YO ops s.L o=some true) (z:o.op=.call { callee:=.builtin .append,args:=#[x,y],argTypes:=#[t,t2] }) (U:o.dst=some d)
  (W:Yd s.L x=some (.c .nil)) (Y:Yd s.L y=some (.c l)) (Z:ZQ tt t=some r) (A:ZQ tt t2=some k)
  (K:(Nat.blt d X.fn.ntmps && Nat.beq r.kd 6 && (Nat.beq k.kd 6 || Nat.beq k.kd 2) && Nat.beq r.es R.sz && Nat.ble r.eb 32768)=true)
  (kk:WPr X ops rest todo ⟨(d,.c (.sl s.nx))::s.L,(s.nx,.own R zs true)::s.M,s.V,s.nx+1⟩):WPr X ops (i::rest) todo s:=by
 refine WPr.op S T (fun E F w a f=>?_) kk
 simp only [Zc] at K
 obtain ⟨⟨⟨⟨c1,c2⟩,C⟩,c3⟩,c4⟩:=K
 obtain ⟨rfl,hl⟩:=ZhV u
 have ⟨e1,_⟩:=f.eval W
 have ⟨e2,_⟩:=f.eval Y
 have G:=ZeU (htt.get A) C
 have ⟨N,w',q,D,g1,g2,g3,g4,g5,O⟩:=Zla (ty:=o.type) G (htt.get Z) c2 (Zd c3) (R:=R) (F:=F) (xs:=[]) (v:=.slice none 0 0) (.inl ⟨rfl,rfl⟩) (m E F w a f) (fun b h=>by cases h) f.hF (fun b h=>by cases h) hl (Ze c4)
 refine XW (v:=N) (w':=w') (Un z ?_) ?_
 ·simp only [List.map_toArray,List.map_cons,List.map_nil,e1,e2,Yc,ZZ]
  exact Y3 q
 ·have s1:=f.world g1 g2 g3 g4 (fun b h=>g5 b h (fun e=>by cases e))
  have ⟨E',hv,s2⟩:=s1.newOwn (fr:=true) D (fun b h=>by
    have ⟨g,h2⟩:=O b h
    rcases g with g | g
    ·cases g
    ·exact ⟨fun hF=>absurd (f.hF b hF) (Nat.not_lt.2 g),fun u=>absurd (Zh (f.hZ b u) f.ext.size) (Nat.not_lt.2 g),h2,fun j m' hj hf=>absurd (f.mF j m' hj b hf).2.2 (Nat.not_lt.2 g)⟩)
   (fun _ b h=>by
    rcases (O b h).1 with g | g
    ·cases g
    ·exact Nat.le_trans f.hn0 (Nat.le_trans f.ext.size g))
  have I:=s2.setL (d:=d) (v:=.c (.sl s.nx)) (Nat.lt_succ_self _) (YT c1)
  simp only [Yc,ZZ] at I
  rw [show E'.ρ s.nx=N from hv] at I
  rw [U]
  exact ⟨E',F,I⟩
end
end Go.Kx
end
namespace Go.Kx
section
variable [LxP]
def MP {α:Type} {R:TRep α} (O:Opn R) (V:Nat->Option VF):List α->List SC->Prop
 | [],cs=>cs=[]
 | x::xs,cs=>O.chk V x (cs.take R.sz)/\MP O V xs (cs.drop R.sz)
theorem B5 {α:Type} {R:TRep α} (O:Opn R) {V:Nat->Option VF} {E:Env} {F:YB} {w:World} (hV:∀ k f,V k=some f->f.ok E F w (E.ρ k)) :
  ∀ {xs:List α} {cs:List SC},MP O V xs cs->RowL R F w xs (cs.map (ZZ E))
 | [],cs,h=>by
  have h:cs=[]:=h
  subst h
  exact ⟨by simp,by simp⟩
 | x::xs,cs,h=>by
  have ⟨l,m⟩:=h
  have d:=O.cok l E F w hV
  have q:=B5 O hV m
  have r:((cs.take R.sz).map (ZZ E)).length=R.sz:=R.len d
  have:RowL R F w [x] ((cs.take R.sz).map (ZZ E)):=by
   refine ⟨by rw [r];simp,fun i y c=>?_⟩
   cases i with
   | zero =>
    simp only [List.getElem?_cons_zero,Option.some.injEq] at c
    subst c
    exact ⟨_,d,fun j v g=>by simpa using g⟩
   | succ i=>simp at c
  have:=this.append q
  rw [<- List.map_append,List.take_append_drop] at this
  exact this
def Ta (z:List SC) (n:Nat):List SC:=(List.range n).map fun i=>z.getD (i % z.length) .nil
section
variable {X:Ctx} {s:St} {tt:List (Nat × TD)} {ops:Array Oper} {todo:Act->World->Prop}
theorem Sat.newRow {α:Type} {R:TRep α} {xs:List α} {E:Env} {F:YB} {w:World} {a:Act} (f:Sat X s E F w a) {arr:Array Value} {ty:TypeId} {cap:Nat} (x:∀ w',Wt F w F w'->Row R F w' xs arr 0) (y:xs.length<=cap)
  (q:cap * R.sz<=arr.size) {d:Nat} (z:d < X.fn.ntmps) {w2:World} (k:w2.heap=w.heap.push (.cells arr ty)) (A:w2.os=w.os) (C:w2.tape=w.tape) (D:Oq w w2) :
  ∃ E' U,Sat X ⟨(d,.c (.sl s.nx))::s.L,(s.nx,.own R xs true)::s.M,s.V,s.nx+1⟩ E' U w2 (a.put (some d) (.slice (some ⟨w.heap.size,0,none⟩) xs.length cap)):=by
 have g:∀ b,b < w.heap.size->w2.heap[b]? = w.heap[b]? := fun b l=>by
  rw [k,Array.getElem?_push,if_neg (Nat.ne_of_lt l)]
 have m:w2.heap[w.heap.size]? = some (.cells arr ty):=by rw [k];simp
 have r:w2.heap.size=w.heap.size+1:=by rw [k];simp
 have S:=f.world A C D (by omega) g
 have T:Wt F w F w2:=⟨fun _ h=>h,fun b l=>g b (f.hF b l)⟩
 have ⟨E',N,O⟩:=S.newOwn (R:=R) (xs:=xs) (v:=.slice (some ⟨w.heap.size,0,none⟩) xs.length cap) (fr:=true)
  (.inr ⟨w.heap.size,0,cap,arr,ty,(0,0),rfl,y,by rw [Nat.zero_add];exact q,ZfQ _,m,x w2 T⟩)
  (fun b l=>by
   cases l
   exact ⟨fun hF=>absurd (f.hF _ hF) (Nat.lt_irrefl _),fun G=>absurd (Zh (f.hZ _ G) f.ext.size) (Nat.lt_irrefl _),(show w.heap.size < w2.heap.size by omega),fun j m' I K=>absurd (f.mF j m' I _ K).2.2 (Nat.lt_irrefl _)⟩)
  (fun _ b l=>by cases l;exact Nat.le_trans f.hn0 f.ext.size)
 have u:=O.setL (d:=d) (v:=.c (.sl s.nx)) (Nat.lt_succ_self _) z
 simp only [Yc,ZZ] at u
 rw [show E'.ρ s.nx=_ from N] at u
 exact ⟨E',F,u⟩
theorem Zmy {E:Env} {z:Value} {zs:List SC} (g:z.cells=(zs.map (ZZ E)).toArray) (n:Nat) (j:n=0\/zs≠[]) :
  ((Array.range n).map (fun i=>z.cells[i % z.cells.size]!)).toList=(Ta zs n).map (ZZ E):=by
 apply List.ext_getElem?
 intro i
 simp only [Ta,Array.toList_map,Array.toList_range,List.getElem?_map,List.map_map]
 by_cases hi:i < n
 ·have d:zs≠[]:=by
   rcases j with h | h
   ·omega
   ·exact h
  have c:0 < zs.length:=List.length_pos_iff.2 d
  have f:i % zs.length < zs.length:=Nat.mod_lt _ c
  simp only [List.getElem?_range hi,Option.map_some,g,List.size_toArray,List.length_map,Function.comp]
  rw [getElem!_pos _ _ (by simpa using f)]
  simp [List.getD,Za f]
 ·simp [List.getElem?_eq_none (show (List.range n).length<=i by simp;omega)]
theorem WPr.bs {α:Type} {R:TRep α} (O:Opn R) (htt:TTOk X.P tt) (xs:List α) {i:Nat} {rest:List Nat} {o:Oper} {t len:Nat} {q A:TD} {l:Array (Nat × Operand)} {d:Nat} {cs:List SC}
  (ho:ops[i]? = some o) (hg:YO ops s.L o=some true) (Y:o.op=.buildSlice t len l) (hd:o.dst=some d) (ht:ZQ tt t=some q) (u:ZQ tt q.el=some A)
  (hf:VE (W9 q.es len) s.L l.toList (Ta A.z (len * q.es))=some cs) (hk:MP O (ZQ s.V) xs cs)
  (hc:(Nat.blt d X.fn.ntmps && Nat.beq q.kd 6 && Nat.beq q.es R.sz && Nat.beq xs.length len && Nat.ble (len * q.es) 16777216 && !A.z.isEmpty)=true)
  (k:WPr X ops rest todo ⟨(d,.c (.sl s.nx))::s.L,(s.nx,.own R xs true)::s.M,s.V,s.nx+1⟩):WPr X ops (i::rest) todo s:=by
 refine WPr.op ho hg (fun E F w a Z=>?_) k
 simp only [Zc] at hc
 obtain ⟨⟨⟨⟨⟨c1,c2⟩,c3⟩,W⟩,c5⟩,c6⟩:=hc
 have c3:=Zd c3
 have W:=Zd W
 have c5:=Ze c5
 have ⟨ie,hu,K,N,_,_⟩:=(htt.get ht).slc c2
 have hz:(sizeOf q.el).run X.P w=.ok q.es w:=by simp [sizeOf,typeInfo,K,N]
 have ⟨z,hzr,hzc⟩:=ZaS w (htt.get u)
 have hzl:A.z.length=q.es:=by
  have h1:=(htt.get u).2.2.2
  have ⟨i',z',S,hs',_⟩:=(htt.get u).info
  rw [K] at S
  cases S
  rw [h1,<- hs',N]
 have D:A.z≠[]:=by intro h;rw [h] at c6;simp at c6
 have ⟨r,I,C,hkb⟩:=Zao Z (W9 q.es len) (fun i=>some (i * q.es,q.es)) (fun i o sz g hi=>by
   have:=ZeA _ _ _ _ hi;simp only [Zp] at this;rw [this.1,this.2.1]) l.toList (Ta A.z (len * q.es)) cs
   ((Array.range (len * q.es)).map fun i=>z.cells[i % z.cells.size]!) hf (by
    intro y hy
    simp only [Ta,List.mem_map] at hy
    obtain ⟨j,_,rfl⟩:=hy
    have hm:j % A.z.length < A.z.length:=Nat.mod_lt _ (List.length_pos_iff.2 D)
    simp only [List.getD,Za hm,Option.getD_some]
    exact Zay (htt.get u) _ (List.getElem_mem hm)) (Zmy (hzc E) _ (.inr D))
 have G:=B5 O (E:=E) (F:=F) (w:=w) (fun k f h=>Z.hV k f h) hk
 have T:(execOp a.eval o).run X.P w=.ok (.value (.slice (some ⟨w.heap.size,0,none⟩) len len)) (w.alloc (.cells r q.el)):=by
  simp only [execOp,Y]
  refine Y3 ?_
  have U:(l.map fun (i,x)=>(i,a.eval x)).toList=l.toList.map fun (i,x)=>(i,a.eval x):=by simp
  have hne:¬ (2 ^ 24 < len * q.es):=by omega
  simp only [Instr.buildSlice,Sem.run_bind,Xb hu,Result.andThen_ok,hz,U]
  by_cases h0:len * q.es=0
  ·have key:∀ f:Nat->Value,(Array.range (len * q.es)).map f=#[]:=by intro f;rw [h0];simp
   rw [key] at I
   have hgt:¬ ((0:Nat) > 2 ^ 24):=by omega
   rw [h0] at key ⊢
   simp only [hgt,if_false,Sem.run_bind,if_true,Sem.run_pure,Result.andThen_ok,newRow]
   rw [key]
   simp only [I,Sem.run_pure,Sem.run_bind,run_newObj,Result.andThen_ok]
   rfl
  ·simp [h0,hne,hzr,I,newRow]
 refine XW T ?_
 have hx:=Z.newRow (R:=R) (xs:=xs) (arr:=r) (ty:=q.el) (cap:=len) (fun w' g=>(G.mono g).row (off:=0) (fun j v hj=>by
   rw [Nat.zero_add,<- Array.getElem?_toList,C];exact hj)) (by omega) (by
   rw [<- Array.length_toList,C,G.1,W];exact Zo _) (d:=d) (YT c1) (w2:=w.alloc (.cells r q.el)) rfl rfl rfl .m
 rw [W] at hx
 rw [hd]
 exact hx
theorem WPr.ixo {α:Type} {R:TRep α} (htt:TTOk X.P tt) {i:Nat} {rest:List Nat} {o:Oper} {t:TypeId} {u:TD} {x C:Operand} {d k:Nat} {ik:IntKind} {n:Int} {xs:List α} {e:α} {fr:Bool}
  (hi:ZW xs n=some e) (O:ops[i]? = some o) (S:YO ops s.L o=some true) (y:o.op=.indexAddr t x C) (T:o.dst=some d)
  (U:Yd s.L x=some (.c (.sl k))) (hM:ZQ s.M k=some (.own R xs fr)) (W:Yd s.L C=some (.c (.i ik n))) (Y:ZQ tt t=some u)
  (D:(Nat.blt d X.fn.ntmps && Nat.beq u.kd 6 && Nat.beq u.es R.sz)=true)
  (k:WPr X ops rest todo ⟨(d,.c (.px s.nx 0))::s.L,s.M,(s.nx,.el k (n.toNat * R.sz))::s.V,s.nx+1⟩):WPr X ops (i::rest) todo s:=by
 refine WPr.op O S (fun E F w a g=>?_) k
 rename_i r
 simp only [Zc] at D
 obtain ⟨⟨Z,c2⟩,z⟩:=D
 have z:=Zd z
 have ⟨h0,h1,A⟩:=SX hi
 have ⟨el,hu,hz⟩:=(htt.get Y).sliceOf c2
 have h:=g.hM r _ hM
 simp only [MO.ok] at h
 rcases h with ⟨rfl,_⟩ | ⟨b,off,cap,arr,ty,fz,G,I,_,_,hh,hr⟩
 ·simp at A
 have ⟨e1,_⟩:=g.eval U
 have ⟨e3,_⟩:=g.eval W
 have l:(execOp a.eval o).run X.P w=.ok (.value (.pointer (some ⟨b,off+n.toNat * R.sz,none⟩))) w:=by
  simp only [execOp,y,e1,e3,Yc,ZZ,G]
  refine Y3 ?_
  rw [<- z]
  exact Zlc w hu (hz w) h0 h1
 refine XW l ?_
 have K:E.Eqb s.nx (E.setρ s.nx (.pointer (some ⟨b,off+n.toNat * R.sz,none⟩))):=E.eqb_setρ _ _ _ (Zo _)
 have m:(E.setρ s.nx (.pointer (some ⟨b,off+n.toNat * R.sz,none⟩))).ρ s.nx=.pointer (some ⟨b,off+n.toNat * R.sz,none⟩):=by simp [Env.setρ]
 have s1:=g.env K (fun j=>by
  simp only [Env.setρ];split
  ·rfl
  ·exact g.one j)
 have q:=(g.wf.hM r _ hM).1
 have s2:=s1.addV (f:=.el r (n.toNat * R.sz)) (by
  show _=WC _ _/\_
  rw [m,(K r q).1,G]
  exact ⟨rfl,_,_,rfl⟩) (Nat.lt_succ_of_lt q)
 have N:=s2.setL (d:=d) (v:=.c (.px s.nx 0)) (Nat.lt_succ_self _) (YT Z)
 simp only [Yc,ZZ,m,WC,Nat.add_zero] at N
 rw [T]
 exact ⟨_,F,N⟩
theorem WPr.ldo {α:Type} {R:TRep α} (O:Opn R) (htt:TTOk X.P tt) {i:Nat} {rest:List Nat} {o:Oper} {t:TypeId} {A:TD} {x:Operand} {d k q off:Nat} {n:Int} {xs:List α} {e:α} {fr:Bool} {v:SV}
  (hi:ZW xs n=some e) (I:ops[i]? = some o) (K:YO ops s.L o=some true) (u:o.op=.load t x) (N:o.dst=some d)
  (S:Yd s.L x=some (.c (.px q off))) (hV:ZQ s.V q=some (.el k (n.toNat * R.sz))) (hM:ZQ s.M k=some (.own R xs fr)) (T:ZQ tt t=some A)
  (C:WO A off (O.cells s.nx e)=some v) (U:Nat.blt d X.fn.ntmps=true)
  (k:WPr X ops rest todo ⟨(d,v)::s.L,s.M,O.facts s.nx e++s.V,s.nx+O.nk⟩):WPr X ops (i::rest) todo s:=by
 refine WPr.op I K (fun E F w a g=>?_) k
 rename_i k0
 have ⟨_,_,h⟩:=SX hi
 have m:=g.hM k0 _ hM
 simp only [MO.ok] at m
 rcases m with ⟨rfl,_⟩ | ⟨b,D,cap,arr,ty,fz,hv,G,_,_,hh,hr⟩
 ·simp at h
 have ⟨vs,l,y⟩:=hr n.toNat e h
 have ⟨E2,a1,_,_,a3,a4,a5,Z⟩:=O.ok l s.nx E g.one
 have ⟨hq,_⟩:=g.hV q _ hV
 have hqn:=(g.wf.hV q _ hV).1
 have f:∀ (j:Nat) c,(O.cells s.nx e)[j]? = some c->arr[D+n.toNat * R.sz+j]? = some (ZZ E2 c):=fun j c W=>y j _ (by rw [a4,List.getElem?_map,W];rfl)
 have z:=GF (E:=E2) (base:=D+n.toNat * R.sz) (htt.get T) hh (cs:=O.cells s.nx e) f C
 have ⟨e1,_⟩:=g.eval S
 have r:(execOp a.eval o).run X.P w=.ok (.value (Yc E2 v)) w:=by
  have:(Instr.loadAt t (a.eval x)).run X.P w=.ok (Yc E2 v) w:=by
   rw [e1]
   simp only [Instr.loadAt,Yc,ZZ,hq,hv,WC,Instr.sureAddr,Sem.run_bind,Sem.run_pure,Result.andThen_ok,z]
  simp only [execOp,u]
  exact Y3 this
 refine XW r ?_
 have s1:=g.env a1 a3
 have s2:=s1.addF (fs:=O.facts s.nx e) (n:=O.nk) (fun p Y=>a5 p Y)
 have s3:=s2.setL (d:=d) (v:=v) (Ze1 C Z) (YT U)
 rw [N]
 exact ⟨E2,F,s3⟩
def YQ {α:Type} (xs:List α) (n:Int) (e:α):List α:=xs.set n.toNat e
theorem WPr.sto {α:Type} {R:TRep α} (O:Opn R) (htt:TTOk X.P tt) {i:Nat} {rest:List Nat} {o:Oper} {t:TypeId} {td:TD} {x y:Operand} {k q off:Nat} {n:Int} {xs:List α} {e:α} {fr:Bool} {v:SV} {g:List SC} (e':α)
  (hi:ZW xs n=some e) (ho:ops[i]? = some o) (hg:YO ops s.L o=some true) (hop:o.op=.store t x y) (hd:o.dst=none)
  (hx:Yd s.L x=some (.c (.px q off))) (hV:ZQ s.V q=some (.el k (n.toNat * R.sz))) (hM:ZQ s.M k=some (.own R xs fr)) (ht:ZQ tt t=some td)
  (hy:Yd s.L y=some v) (hp:Ve v=some g)
  (hk:O.chk (ZQ s.V) e' ((O.cells s.nx e).take off++g++(O.cells s.nx e).drop (off+g.length)))
  (hc:(Nat.beq g.length td.sz && Nat.ble (off+g.length) R.sz && (Nat.beq g.length R.sz || Nat.beq O.nk 0))=true)
  (k:WPr X ops rest todo ⟨s.L,(k,.own R (YQ xs n e') fr)::s.M,s.V,s.nx⟩):WPr X ops (i::rest) todo s:=by
 refine WPr.op ho hg (fun E F w a G=>?_) k
 rename_i k0
 simp only [Zc,Bool.or_eq_true] at hc
 obtain ⟨⟨c1,c2⟩,c3⟩:=hc
 have c1:=Zd c1
 have c2:=Ze c2
 have ⟨_,_,U⟩:=SX hi
 have hsl:=G.hM k0 _ hM
 simp only [MO.ok] at hsl
 rcases hsl with ⟨rfl,_⟩ | ⟨b,l,cap,arr,ty,fz,hv,hcap,hsza,hth,hh,hr⟩
 ·simp at U
 have ⟨vs,N,hvs⟩:=hr n.toNat e U
 have ⟨E2,a1,_,a2,a3,a4,a5,a6⟩:=O.ok N s.nx E G.one
 have ⟨hq,_⟩:=G.hV q _ hV
 have ⟨e1,_⟩:=G.eval hx
 have ⟨e2,ek⟩:=G.eval hy
 have ⟨ec,ekk⟩:=GL (s:=s) G.one hp ek
 have hvl:=R.len N
 have hcl:(O.cells s.nx e).length=R.sz:=by rw [<- hvl,a4,List.length_map]
 have hin:n.toNat < xs.length:=(List.getElem?_eq_some_iff.1 U).1
 have hroom:l+n.toNat * R.sz+R.sz<=arr.size:=by
  have:(n.toNat+1) * R.sz<=cap * R.sz:=Nat.mul_le_mul_right _ (by omega)
  rw [Nat.add_mul] at this
  omega
 have C:(g.map (ZZ E)).length=g.length:=List.length_map ..
 have hst:=Q7 (P:=X.P) b (l+n.toNat * R.sz+off) ty fz (g.map (ZZ E)) 0 arr w hh hth (by rw [C];omega)
  (by intro u hu;obtain ⟨c,hc',rfl⟩:=List.mem_map.1 hu;exact QP G.one (ekk c hc'))
 let d:=(arr.toList.take (l+n.toNat * R.sz+off+0)++g.map (ZZ E)++arr.toList.drop (l+n.toNat * R.sz+off+0+(g.map (ZZ E)).length)).toArray
 have hrun:(execOp a.eval o).run X.P w=.ok .skip (w.setRow b d):=by
  have hsv:(Instr.storeAt t (a.eval x) (a.eval y)).run X.P w=.ok () (w.setRow b d):=by
   rw [e1,e2]
   have hsz:(Yc E v).cells.size=td.sz:=by rw [ec];simp [c1]
   have hp:Yc E (.c (.px q off))=.pointer (some ⟨b,l+n.toNat * R.sz+off,none⟩):=by
    show WC (E.ρ q) off=_
    rw [hq,hv];rfl
   rw [hp]
   simp only [Instr.storeAt,Instr.sureAddr,Sem.run_bind,Sem.run_pure,Result.andThen_ok,storeVar,ZaR w (htt.get ht),hsz,ne_eq,not_true_eq_false,if_false]
   have:(Yc E v).cells.toList=g.map (ZZ E):=by rw [ec]
   rw [this]
   exact hst
  simp only [execOp,hop,Sem.run_bind,hsv,Result.andThen_ok,Sem.run_pure]
 refine ZfZ hrun ?_
 have hmf:=G.mF k0 _ hM
 have hbF:¬ F b:=(hmf b (by show YH (E.ρ k0)=some b;rw [hv];rfl)).1
 have hg:Wt F w F (w.setRow b d):=⟨fun _ h=>h,fun b' hb'=>setRow_other w b b' _ (fun h=>hbF (h ▸ hb'))⟩
 have S:d.size=arr.size:=by
  have W:arr.toList.length=arr.size:=Array.length_toList
  simp only [d,List.size_toArray,List.length_append,List.length_take,List.length_drop,W,C];omega
 -- what the cells are now
 have T:∀ j,d[j]? = if l+n.toNat * R.sz+off<=j/\j < l+n.toNat * R.sz+off+g.length then (g.map (ZZ E))[j-(l+n.toNat * R.sz+off)]? else arr[j]? := by
  intro j
  have W:arr.toList.length=arr.size:=Array.length_toList
  have Y:(arr.toList.take (l+n.toNat * R.sz+off)).length=l+n.toNat * R.sz+off:=by rw [List.length_take,W];omega
  show ((arr.toList.take (l+n.toNat * R.sz+off+0)++g.map (ZZ E)++arr.toList.drop (l+n.toNat * R.sz+off+0+(g.map (ZZ E)).length)).toArray)[j]? = _
  simp only [Nat.add_zero,List.getElem?_toArray,List.append_assoc,C]
  by_cases c:j < l+n.toNat * R.sz+off
  ·rw [Zm (by rw [Y];exact c),List.getElem?_take,if_pos c,if_neg (by omega)];simp
  ·rw [Zn (by rw [Y];omega),Y]
   by_cases c':j < l+n.toNat * R.sz+off+g.length
   ·rw [Zm (by rw [C];omega),if_pos ⟨by omega,c'⟩]
   ·rw [Zn (by rw [C];omega),C,List.getElem?_drop,if_neg (by omega)]
    rw [show l+n.toNat * R.sz+off+g.length+(j-(l+n.toNat * R.sz+off)-g.length)=j by omega]
    simp
 have hEc:∀ (j:Nat) (c:SC),(O.cells s.nx e)[j]? = some c->(j < off\/off+g.length<=j)->ZZ E c=ZZ E2 c:=by
  intro j c z hout
  rcases c3 with h | h
  ·have:=Zd h
   have hjl:=(List.getElem?_eq_some_iff.1 z).1
   omega
  ·have h:=Zd h
   have hk':=a6 c (Zb z)
   rw [h,Nat.add_zero] at hk'
   exact (MT a1 hk').symm
 have D:R.rep F (w.setRow b d) e' (((O.cells s.nx e).take off++g++(O.cells s.nx e).drop (off+g.length)).map (ZZ E)) :=
  R.mono hg (O.cok hk E F w (fun k f h=>G.hV k f h))
 have hrow:Row R F (w.setRow b d) (YQ xs n e') d l:=by
  intro i' x' A
  unfold YQ at A
  rw [List.getElem?_set] at A
  split at A
  ·rename_i hii
   try rw [if_pos hin] at A
   cases A
   refine ⟨_,D,fun j u z=>?_⟩
   rw [T,<- hii]
   rw [List.getElem?_map] at z
   have r:((O.cells s.nx e).take off).length=off:=by rw [List.length_take,hcl];omega
   by_cases c:off<=j/\j < off+g.length
   ·rw [if_pos ⟨by omega,by omega⟩,show l+n.toNat * R.sz+j-(l+n.toNat * R.sz+off)=j-off by omega,List.getElem?_map]
    rw [List.append_assoc,Zn (by rw [r];exact c.1),r,Zm (by omega)] at z
    exact z
   ·rw [if_neg (by omega)]
    have Z:∃ I,(O.cells s.nx e)[j]? = some I/\u=ZZ E I:=by
     rcases Nat.lt_or_ge j off with K | hge
     ·rw [List.append_assoc,Zm (by rw [r];exact K),List.getElem?_take,if_pos K] at z
      rw [Zl] at z
      have ⟨I,h1,h2⟩:=z
      exact ⟨I,h1,h2.symm⟩
     ·rw [List.append_assoc,Zn (by rw [r];exact hge),r,Zn (by omega),List.getElem?_drop,
       show off+g.length+(j-off-g.length)=j by omega,Zl] at z
      have ⟨I,h1,h2⟩:=z
      exact ⟨I,h1,h2.symm⟩
    have ⟨I,h1,h2⟩:=Z
    have:=hvs j (ZZ E2 I) (by rw [a4,List.getElem?_map,h1];rfl)
    rw [h2,hEc j I h1 (by omega)]
    exact this
  ·rename_i hne
   have ⟨us,hu,huv⟩:=hr i' x' A
   refine ⟨us,R.mono hg hu,fun j u z=>?_⟩
   have hjl:j < R.sz:=by rw [<- R.len hu];exact (List.getElem?_eq_some_iff.1 z).1
   rw [T,if_neg]
   ·exact huv j u z
   ·rintro ⟨g1,g2⟩
    rcases Nat.lt_or_ge i' n.toNat with K | hge
    ·have:(i'+1) * R.sz<=n.toNat * R.sz:=Nat.mul_le_mul_right _ K
     rw [Nat.add_mul] at this;omega
    ·have:(n.toNat+1) * R.sz<=i' * R.sz:=Nat.mul_le_mul_right _ (by omega)
     rw [Nat.add_mul] at this;omega
 refine ⟨E,F,?_⟩
 rw [hd]
 refine G.setM (m':=.own R (YQ xs n e') fr) hM rfl rfl .m (by simp) (fun b' _ hne=>setRow_other w b b' _ (fun h=>hne (by subst h;show YH (E.ρ k0)=some b';rw [hv];rfl))) (fun _ h=>h) ?_ trivial (fun h=>h)
 refine .inr ⟨b,l,cap,d,ty,fz,?_,?_,by rw [S];exact hsza,by rw [S];exact hth,setRow_heap w b arr _ ty fz hh,hrow⟩
 ·rw [hv];simp [YQ]
 ·simpa [YQ] using hcap
end
end
section
variable [LxP]
abbrev ZN (n:Int):Int:=IntKind.i64.wrap n
abbrev wk (k:IntKind) (n:Int):Int:=k.wrap n
abbrev str (l:List UInt8):ByteArray:=⟨⟨l⟩⟩
abbrev Ga {α:Type} (_:Nat):Option α:=none
theorem US {α:Type} {c:Bool} {x y:Option α} {r:α} (h:(bif c then x else y)=some r):(c=false/\y=some r)\/(c=true/\x=some r):=(oc h).symm
section
variable {X:Ctx} {s:St} {ops:Array Oper} {todo:Act->World->Prop}
end
end
section
variable [LxP]
section
variable {X:Ctx} {s:St} {ops:Array Oper} {todo:Act->World->Prop} {tt:List (Nat × TD)}
end
end
section
variable [LxP]
def Xc (s:ByteArray) (n:Int):Option Int:=bif decide (0<=n) then s[n.toNat]?.map (fun b=>(b.toNat:Int)) else none
def Yp (x y:ByteArray):Option ByteArray:=bif decide (((x.size+y.size:Nat):Int) > IntKind.i64.max) then none else some (x++y)
section
variable {X:Ctx} {s:St} {ops:Array Oper} {todo:Act->World->Prop} {tt:List (Nat × TD)}
theorem WPr.cat {i:Nat} {rest:List Nat} {o:Oper} {t l:TypeId} {x y:Operand} {d:Nat} {m n z:ByteArray}
  (f:Yp m n=some z) (q:ops[i]? = some o) (r:YO ops s.L o=some true) (h:o.op=.binOp .add t x y l) (u:o.dst=some d)
  (A:Yd s.L x=some (.c (.s m))) (C:Yd s.L y=some (.c (.s n))) (D:Nat.blt d X.fn.ntmps=true)
  (G:WPr X ops rest todo ⟨(d,.c (.s z))::s.L,s.M,s.V,s.nx⟩):WPr X ops (i::rest) todo s:=by
 refine WPr.op q r (fun E F w a j=>?_) G
 have ⟨I,_⟩:=j.eval A
 have ⟨K,_⟩:=j.eval C
 have g:(execOp a.eval o).run X.P w=.ok (.value (.string z)) w:=by
  simp only [execOp,h,I,K,Yc,ZZ]
  refine Y3 ?_
  unfold Yp at f
  cases k:decide (((m.size+n.size:Nat):Int) > IntKind.i64.max) with
  | true=>rw [k] at f;cases f
  | false =>
   rw [k] at f;cases f
   have:¬ ((m.size+n.size:Nat):Int) > IntKind.i64.max:=by simpa using k
   simp only [eqGuard,binOp,Op.stringOp,this,if_false,Sem.run_bind,Sem.run_pure]
   rfl
 refine XW g ⟨E,F,?_⟩
 rw [u]
 exact j.setL (v:=.c (.s z)) trivial (YT D)
theorem WPr.sx (htt:TTOk X.P tt) {i:Nat} {rest:List Nat} {o:Oper} {t:TypeId} {q:TD} {x y:Operand} {d:Nat} {ik:IntKind} {m:ByteArray} {n z:Int}
  (f:Xc m n=some z) (u:ops[i]? = some o) (A:YO ops s.L o=some true) (j:o.op=.index t x y) (C:o.dst=some d)
  (D:ZQ tt t=some q) (g:Nat.beq q.kd 2=true)
  (G:Yd s.L x=some (.c (.s m))) (I:Yd s.L y=some (.c (.i ik n))) (K:Nat.blt d X.fn.ntmps=true)
  (N:WPr X ops rest todo ⟨(d,.c (.i .u8 z))::s.L,s.M,s.V,s.nx⟩):WPr X ops (i::rest) todo s:=by
 refine WPr.op u A (fun E F w a k=>?_) N
 have ⟨O,_⟩:=k.eval G
 have ⟨R,_⟩:=k.eval I
 have T:X.P.underlying t=some .string:=by
  have r:=(htt.get D).2.1
  have g:=Zd g
  unfold Uq at r
  split at r<;>simp_all
 have h:(execOp a.eval o).run X.P w=.ok (.value (.int .u8 z)) w:=by
  simp only [execOp,j,O,R,Yc,ZZ]
  refine Y3 ?_
  unfold Xc at f
  cases l:decide (0<=n) with
  | false=>rw [l] at f;cases f
  | true =>
   rw [l] at f
   simp only [cond_true,Zl] at f
   obtain ⟨b,S,rfl⟩:=f
   have U:0<=n:=by simpa using l
   simp only [Instr.index,asIntOf,Sem.run_bind,Sem.run_pure,Result.andThen_ok,Xb T,U,if_true,S]
 refine XW h ⟨E,F,?_⟩
 rw [C]
 exact k.setL (v:=.c (.i .u8 z)) trivial (YT K)
end
end
section
variable [LxP]
theorem WP.condCT {X:Ctx} {s:St} {k:List Item} {x y:Code} (h:WP X (.code x::k) s):WP X (.code (.cond (.const (.bool true)) x y)::k) s:=fun E F w a c =>
 Runs.head (fun _ _ _ _=>.one (step_cond (t:=true) rfl)) (h E F w a c)
theorem WP.condCF {X:Ctx} {s:St} {k:List Item} {x y:Code} (h:WP X (.code y::k) s):WP X (.code (.cond (.const (.bool false)) x y)::k) s:=fun E F w a c =>
 Runs.head (fun _ _ _ _=>.one (step_cond (t:=false) rfl)) (h E F w a c)
def W7 (lo hi:Option Int) (len:Nat):Option (Nat × Nat) :=
 bif decide (0<=lo.getD 0) && decide (lo.getD 0<=hi.getD len) && decide (hi.getD len<=(len:Int)) then some ((lo.getD 0).toNat,(hi.getD len).toNat) else none
theorem QK {lo hi:Option Int} {len:Nat} {p:Nat × Nat} (h:W7 lo hi len=some p):0<=lo.getD 0/\lo.getD 0<=hi.getD len/\hi.getD len<=(len:Int)/\p=((lo.getD 0).toNat,(hi.getD len).toNat):=by
 unfold W7 at h
 cases c:(decide (0<=lo.getD 0) && decide (lo.getD 0<=hi.getD len) && decide (hi.getD len<=(len:Int))) with
 | false=>rw [c] at h;cases h
 | true =>
  rw [c] at h;cases h
  simp only [Zc,decide_eq_true_eq] at c
  exact ⟨c.1.1,c.1.2,c.2,rfl⟩
def ssl (s:ByteArray) (lo hi:Option Int):Option ByteArray:=(W7 lo hi s.size).map fun p=>s.extract p.1 p.2
def lsl {α:Type} (xs:List α) (lo hi:Option Int):Option (List α):=(W7 lo hi xs.length).map fun p=>(xs.take p.2).drop p.1
def X9 (L:List (Nat × SV)):Option Operand->Option (Option (IntKind × Int))
 | none=>some none
 | some x=>match Yd L x with
  | some (.c (.i k n))=>some (some (k,n))
  | _=>none
theorem MY {X:Ctx} {s:St} {E F w a} (c:Sat X s E F w a) {x:Option Operand} {r:Option (IntKind × Int)} (h:X9 s.L x=some r):x.map a.eval=r.map fun p=>.int p.1 p.2:=by
 cases x with
 | none=>cases h;rfl
 | some x =>
  simp only [X9] at h
  split at h
  ·rename_i k n f
   cases h
   have ⟨d,_⟩:=c.eval f
   simp [d,Yc,ZZ]
  ·cases h
theorem Zfy {P:Program} {w:World} {is:Bool} {len cap:Nat} {lo hi:Option (IntKind × Int)} {p:Nat × Nat} (l:len<=cap) (h:W7 (lo.map (·.2)) (hi.map (·.2)) len=some p) :
    (Instr.sliceBounds is len cap (lo.map fun p=>.int p.1 p.2) (hi.map fun p=>.int p.1 p.2) none).run P w=.ok (p.1,p.2,cap) w:=by
  obtain ⟨c,d,f,rfl⟩:=QK h
  cases lo with
  | none =>
    cases hi with
    | none=>simp [Instr.sliceBounds]
    | some q =>
      simp at c d f
      have:q.2<=(cap:Int):=by omega
      simp [Instr.sliceBounds,Instr.sliceBound,asIntOf,d,this]
  | some r =>
    cases hi with
    | none =>
      simp at c d f
      simp [Instr.sliceBounds,Instr.sliceBound,asIntOf,c,d]
    | some q =>
      simp at c d f
      have g:q.2<=(cap:Int):=by omega
      have j:0<=q.2:=by omega
      have m:r.2<=(q.2.toNat:Int):=by omega
      have k:r.2<=max q.2 0:=by omega
      simp [Instr.sliceBounds,Instr.sliceBound,asIntOf,g,j,c,k]
theorem Zld {P:Program} {w:World} {t el:TypeId} {es:Nat} {b:Option Addr} {len cap:Nat} {lo hi:Option (IntKind × Int)} {p:Nat × Nat} (c:P.underlying t=some (.slice el)) (d:(sizeOf el).run P w=.ok es w)
    (f:len<=cap) (h:W7 (lo.map (·.2)) (hi.map (·.2)) len=some p) :
    (Instr.sliceAt t (.slice b len cap) (lo.map fun p=>.int p.1 p.2) (hi.map fun p=>.int p.1 p.2) none).run P w =
      .ok (.slice (if cap=p.1 then b else b.map (·.add (p.1 * es))) (p.2-p.1) (cap-p.1)) w:=by
  simp only [Instr.sliceAt,Sem.run_bind,Xb c,Result.andThen_ok,Instr.slice,Zfy f h,d,Sem.run_pure]
theorem ZrZ {P:Program} {w:World} {t:TypeId} {s:ByteArray} {lo hi:Option (IntKind × Int)} {p:Nat × Nat} (c:P.underlying t=some .string) (h:W7 (lo.map (·.2)) (hi.map (·.2)) s.size=some p) :
    (Instr.sliceAt t (.string s) (lo.map fun p=>.int p.1 p.2) (hi.map fun p=>.int p.1 p.2) none).run P w=.ok (.string (s.extract p.1 p.2)) w:=by
  simp only [Instr.sliceAt,Sem.run_bind,Xb c,Result.andThen_ok,Instr.slice,Option.isSome_none,Bool.false_eq_true,if_false,Zfy (Zo _) h,Sem.run_pure]
theorem Row.sub {α:Type} {R:TRep α} {F w} {xs:List α} {arr:Array Value} {off:Nat} (h:Row R F w xs arr off) (l m:Nat):Row R F w ((xs.take m).drop l) arr (off+l * R.sz):=by
 intro i x c
 rw [List.getElem?_drop,List.getElem?_take] at c
 split at c
 ·have ⟨f,g,k⟩:=h (l+i) x c
  refine ⟨f,g,fun j v d=>?_⟩
  have:=k j v d
  rw [show off+l * R.sz+i * R.sz+j=off+(l+i) * R.sz+j by rw [Nat.add_mul];omega]
  exact this
 ·cases c
theorem Row.empty {α:Type} {R:TRep α} {F w} {arr:Array Value} {off:Nat}:Row R F w ([]:List α) arr off:=fun i x c=>by simp at c
section
variable {X:Ctx} {s:St} {ops:Array Oper} {todo:Act->World->Prop} {tt:List (Nat × TD)}
theorem WPr.ssl (htt:TTOk X.P tt) {i:Nat} {rest:List Nat} {o:Oper} {t:TypeId} {y:TD} {x:Operand} {lo hi:Option Operand} {l h:Option (IntKind × Int)} {d:Nat} {m z:ByteArray}
    (k:ssl m (l.map (·.2)) (h.map (·.2))=some z) (C:ops[i]? = some o) (D:YO ops s.L o=some true) (q:o.op=.slice t x lo hi none) (G:o.dst=some d)
    (I:ZQ tt t=some y) (f:Nat.beq y.kd 2=true) (K:Yd s.L x=some (.c (.s m))) (r:X9 s.L lo=some l) (u:X9 s.L hi=some h) (N:Nat.blt d X.fn.ntmps=true)
    (O:WPr X ops rest todo ⟨(d,.c (.s z))::s.L,s.M,s.V,s.nx⟩):WPr X ops (i::rest) todo s:=by
  refine WPr.op C D (fun E F w a j=>?_) O
  have ⟨R,_⟩:=j.eval K
  have T:X.P.underlying t=some .string:=by
    have A:=(htt.get I).2.1
    have f:=Zd f
    unfold Uq at A
    split at A<;>simp_all
  unfold Kx.ssl at k
  rw [Zl] at k
  obtain ⟨p,S,rfl⟩:=k
  have g:(execOp a.eval o).run X.P w=.ok (.value (.string (m.extract p.1 p.2))) w:=by
    simp only [execOp,q,R,Yc,ZZ,MY j r,MY j u]
    exact Y3 (ZrZ T S)
  refine XW g ⟨E,F,?_⟩
  rw [G]
  exact j.setL (v:=.c (.s (m.extract p.1 p.2))) trivial (YT N)
theorem SlR.sub {α:Type} {R:TRep α} {F w} {xs:List α} {b:Option Addr} {c:Nat} {p:Nat × Nat} (h:SlR R F w xs (.slice b xs.length c)) (q:p.1<=p.2) (g:p.2<=xs.length) :
    SlR R F w ((xs.take p.2).drop p.1) (.slice (if c=p.1 then b else b.map (·.add (p.1 * R.sz))) (p.2-p.1) (c-p.1)):=by
  have d:((xs.take p.2).drop p.1).length=p.2-p.1:=by simp;omega
  rcases h with ⟨rfl,f⟩ | ⟨j,off,cap,arr,el,fz,f,r,hF,k,l⟩
  · cases f
    simp at g
    refine .inl ⟨by simp,?_⟩
    have:p.1=0:=by omega
    simp [this,g]
  · cases f
    split
    · rename_i u
      have m:(xs.take p.2).drop p.1=[]:=List.eq_nil_of_length_eq_zero (by rw [d];omega)
      refine .inr ⟨j,off,c-p.1,arr,el,fz,by rw [d],by rw [d];omega,hF,k,by rw [m];exact Row.empty⟩
    · refine .inr ⟨j,off+p.1 * R.sz,c-p.1,arr,el,fz,by rw [d];simp [WS],by rw [d];omega,hF,k,l.sub p.1 p.2⟩
theorem WPr.isl {α:Type} {R:TRep α} (htt:TTOk X.P tt) {i:Nat} {rest:List Nat} {o:Oper} {t:TypeId} {A:TD} {x:Operand} {lo hi:Option Operand} {l h:Option (IntKind × Int)} {d k:Nat} {xs zs:List α}
    (C:lsl xs (l.map (·.2)) (h.map (·.2))=some zs) (Y:ops[i]? = some o) (Z:YO ops s.L o=some true) (D:o.op=.slice t x lo hi none) (hd:o.dst=some d)
    (ht:ZQ tt t=some A) (hx:Yd s.L x=some (.c (.sl k))) (hV:ZQ s.V k=some (.sl R xs)) (G:X9 s.L lo=some l) (I:X9 s.L hi=some h)
    (z:(Nat.blt d X.fn.ntmps && Nat.beq A.kd 6 && Nat.beq A.es R.sz)=true)
    (kk:WPr X ops rest todo ⟨(d,.c (.sl s.nx))::s.L,s.M,(s.nx,.sl R zs)::s.V,s.nx+1⟩):WPr X ops (i::rest) todo s:=by
  refine WPr.op Y Z (fun E F w a m=>?_) kk
  simp only [Zc] at z
  obtain ⟨⟨c1,c2⟩,K⟩:=z
  have K:=Zd K
  have ⟨e1,_⟩:=m.eval hx
  have ⟨el,hu,N⟩:=(htt.get ht).sliceOf c2
  have g:SlR R F w xs (E.ρ k):=m.hV k _ hV
  have ⟨b,c,q⟩:=Zd7 g
  rw [q] at g
  unfold Kx.lsl at C
  rw [Zl] at C
  obtain ⟨p,T,rfl⟩:=C
  have ⟨q1,q2,q3,U⟩:=QK T
  have r:xs.length<=c:=by
    rcases g with ⟨rfl,q⟩ | ⟨b',off,cap,arr,el,fz,q,z,_⟩
    · simp
    · cases q;exact z
  have u:(execOp a.eval o).run X.P w=.ok (.value (.slice (if c=p.1 then b else b.map (·.add (p.1 * R.sz))) (p.2-p.1) (c-p.1))) w:=by
    simp only [execOp,D,e1,Yc,ZZ,q,MY m G,MY m I]
    rw [<- K]
    exact Y3 (Zld hu (N w) r T)
  have y:=g.sub (p:=p) (by rw [U];simp;omega) (by rw [U];simp;omega)
  refine XW u ?_
  have O:E.Eqb s.nx (E.setρ s.nx (.slice (if c=p.1 then b else b.map (·.add (p.1 * R.sz))) (p.2-p.1) (c-p.1))):=E.eqb_setρ _ _ _ (Zo _)
  have s1:=m.env O (fun j=>by
    simp only [Env.setρ];split
    · rfl
    · exact m.one j)
  have W:(E.setρ s.nx (.slice (if c=p.1 then b else b.map (·.add (p.1 * R.sz))) (p.2-p.1) (c-p.1))).ρ s.nx=.slice (if c=p.1 then b else b.map (·.add (p.1 * R.sz))) (p.2-p.1) (c-p.1):=by simp [Env.setρ]
  have s2:=s1.addV (f:=.sl R ((xs.take p.2).drop p.1)) (by
    show SlR _ _ _ _ _
    rw [W];exact y) trivial
  have S:=s2.setL (d:=d) (v:=.c (.sl s.nx)) (Nat.lt_succ_self _) (YT c1)
  simp only [Yc,ZZ] at S
  rw [W] at S
  rw [hd]
  exact ⟨_,F,S⟩
end
end
section
variable [LxP]
section
variable {X:Ctx} {s s':St} {ops:Array Oper} {todo:List Item} {tt:List (Nat × TD)}
end
end
section
variable [LxP]
section
variable {X:Ctx} {s:St} {ops:Array Oper} {todo:List Item} {tt:List (Nat × TD)}
end
end
section
variable [LxP]
def Zam (P:Program) (g:TypeId->List SC->List SC->Option Bool):List Field->List SC->List SC->Option Bool
 | [],_,_=>some true
 | f::fs,cs,ds=>bif f.name == "_" then none else match P.info? f.type with
  | some i=>match g f.type ((cs.drop f.offset).take i.size) ((ds.drop f.offset).take i.size) with
   | some a=>match Zam P g fs cs ds with
    | some b=>some (a && b)
    | none=>none
   | none=>none
  | none=>none
def Zal (g:TypeId->List SC->List SC->Option Bool) (el sz:Nat):List Nat->List SC->List SC->Option Bool
 | [],_,_=>some true
 | j::js,cs,ds=>match g el ((cs.drop (j * sz)).take sz) ((ds.drop (j * sz)).take sz) with
  | some a=>match Zal g el sz js cs ds with
   | some b=>some (a && b)
   | none=>none
  | none=>none
def Vm (P:Program):Nat->TypeId->List SC->List SC->Option Bool
 | 0,_,_,_=>none
 | d+1,t,cs,ds=>match P.underlying t with
  | some (.int _)=>match cs,ds with
   | [.i k m],[.i k' n]=>bif decide (k=k') then some (m==n) else none
   | _,_=>none
  | some .bool=>match cs,ds with
   | [.b a],[.b b]=>some (a==b)
   | _,_=>none
  | some .string=>match cs,ds with
   | [.s a],[.s b]=>some (a.toList==b.toList)
   | _,_=>none
  | some (.struct fs)=>bif P.stoodInHeld t then none else Zam P (Vm P d) fs.toList cs ds
  | some (.array n el)=>match P.info? el with
   | some i=>bif i.size==P.cellsOf el then Zal (Vm P d) el (P.cellsOf el) (List.range n) cs ds else none
   | none=>none
  | _=>none
def W8 (P:Program) (t:TypeId) (E:Env) (cs:List SC):Value:=bif XY P t then .agg (cs.map (ZZ E)).toArray else match cs with
 | [c]=>ZZ E c
 | _=>undef
theorem Zjm (E:Env) (cs:List SC) (o n:Nat):((cs.map (ZZ E)).toArray).extract o (o+n)=(((cs.drop o).take n).map (ZZ E)).toArray:=by
 simp [List.map_drop,List.map_take]
theorem ZsA {cs:List SC} {o n:Nat} {c:SC} (h:(cs.drop o).take n=[c]):cs[o]? = some c:=by
 have:((cs.drop o).take n)[0]? = some c:=by rw [h];rfl
 rw [List.getElem?_take] at this
 split at this
 ·simpa using this
 ·cases this
theorem ZaL {P:Program} {w:World} {E:Env} {d:Nat} {t:TypeId} {i:TypeInfo} {cs es:List SC} {o:Nat} {b:Bool} (hi:P.info? t=some i)
  (h:Vm P d t ((cs.drop o).take i.size) es=some b\/Vm P d t es ((cs.drop o).take i.size)=some b) :
  (part t (cs.map (ZZ E)).toArray o).run P w=.ok (W8 P t E ((cs.drop o).take i.size)) w:=by
 have g:∀ c,(cs.drop o).take i.size=[c]->XY P t=false->∀ u,P.underlying t=some u->(match u with | .struct _ | .array _ _=>False | _=>True) ->
   (part t (cs.map (ZZ E)).toArray o).run P w=.ok (W8 P t E ((cs.drop o).take i.size)) w:=by
  intro c l v u f x
  have q:=ZsA l
  have j:(isAgg t).run P w=.ok false w:=by
   simp only [isAgg,Sem.run_bind,Xb f,Result.andThen_ok]
   cases u<;>first | rfl | exact x.elim
  simp only [part,Sem.run_bind,j,Result.andThen_ok,Bool.false_eq_true,if_false]
  have:(cs.map (ZZ E)).toArray[o]? = some (ZZ E c):=by simp [q]
  rw [this,l]
  simp only [W8,v,cond_false,Sem.run_pure]
 cases d with
 | zero=>rcases h with h | h<;>cases h
 | succ d =>
  unfold Vm at h
  split at h
  ·rename_i k f
   rcases h with h | h<;>(split at h)<;>first | (rename_i l m;exact g _ (by first | exact l | exact m) (by simp [XY,f]) _ f trivial) | cases h
  ·rename_i f
   rcases h with h | h<;>(split at h)<;>first | (rename_i l m;exact g _ (by first | exact l | exact m) (by simp [XY,f]) _ f trivial) | cases h
  ·rename_i f
   rcases h with h | h<;>(split at h)<;>first | (rename_i l m;exact g _ (by first | exact l | exact m) (by simp [XY,f]) _ f trivial) | cases h
  ·rename_i fs f
   have j:(isAgg t).run P w=.ok true w:=by simp only [isAgg,Sem.run_bind,Xb f,Result.andThen_ok];rfl
   have r:(sizeOf t).run P w=.ok i.size w:=by simp [sizeOf,typeInfo,hi]
   simp only [part,Sem.run_bind,j,Result.andThen_ok,if_true,r,Sem.run_pure]
   rw [Zjm]
   simp [W8,XY,f]
  ·rename_i n el f
   have j:(isAgg t).run P w=.ok true w:=by simp only [isAgg,Sem.run_bind,Xb f,Result.andThen_ok];rfl
   have r:(sizeOf t).run P w=.ok i.size w:=by simp [sizeOf,typeInfo,hi]
   simp only [part,Sem.run_bind,j,Result.andThen_ok,if_true,r,Sem.run_pure]
   rw [Zjm]
   simp [W8,XY,f]
  ·rcases h with h | h<;>cases h
theorem Zjk {P:Program} {w:World} {E:Env} {n d:Nat} {el:TypeId} {i:TypeInfo} (hi:P.info? el=some i) (g:i.size=P.cellsOf el)
  (m:∀ t cs f b,Vm P d t cs f=some b->(Op.equalIn (n+d) t (W8 P t E cs) (W8 P t E f)).run P w=.ok b w) :
  ∀ (k:List Nat) {cs f:List SC} {b:Bool},Zal (Vm P d) el (P.cellsOf el) k cs f=some b->(Op.eqItems (n+d) el (P.cellsOf el) (cs.map (ZZ E)).toArray (f.map (ZZ E)).toArray k).run P w=.ok b w
 | [],cs,f,b,h=>by cases h;simp [Op.eqItems]
 | j::k,cs,f,b,h=>by
  unfold Zal at h
  split at h
  ·rename_i a v
   split at h
   ·rename_i x l
    cases h
    have c:=v
    rw [<- g] at c
    have q:=ZaL (w:=w) (E:=E) hi (cs:=cs) (o:=j * i.size) (.inl c)
    have r:=ZaL (w:=w) (E:=E) hi (cs:=f) (o:=j * i.size) (.inr c)
    have u:=m _ _ _ _ c
    rw [g] at q r u
    simp only [Op.eqItems,Sem.run_bind,q,r,u,Result.andThen_ok]
    cases a
    ·simp
    ·simp only [Zg,Bool.false_eq_true,if_false,Bool.true_and]
     exact Zjk hi g m k l
   ·cases h
  ·cases h
theorem Zjl {P:Program} {w:World} {E:Env} {n d:Nat} (m:∀ t cs c b,Vm P d t cs c=some b->(Op.equalIn (n+d) t (W8 P t E cs) (W8 P t E c)).run P w=.ok b w) :
  ∀ (fs:List Field) {cs c:List SC} {b:Bool},Zam P (Vm P d) fs cs c=some b->(Op.eqFields (n+d) (cs.map (ZZ E)).toArray (c.map (ZZ E)).toArray fs).run P w=.ok b w
 | [],cs,c,b,h=>by cases h;simp [Op.eqFields]
 | f::fs,cs,c,b,h=>by
  unfold Zam at h
  cases l:f.name == "_" with
  | true=>rw [l] at h;cases h
  | false =>
   rw [l] at h
   simp only [cond_false] at h
   split at h
   ·rename_i i hi
    split at h
    ·rename_i a g
     split at h
     ·rename_i v j
      cases h
      have k:f.name ≠ "_":=by simpa using l
      unfold Op.eqFields
      have q:=ZaL (w:=w) (E:=E) (cs:=cs) (o:=f.offset) (t:=f.type) hi (.inl g)
      have r:=ZaL (w:=w) (E:=E) (cs:=c) (o:=f.offset) (t:=f.type) hi (.inr g)
      have u:=m _ _ _ _ g
      simp only [ne_eq,k,not_false_eq_true,if_true,Sem.run_bind,q,r,u,Result.andThen_ok]
      cases a
      ·simp
      ·simp only [Zg,Bool.false_eq_true,if_false,Bool.true_and]
       exact Zjl m fs j
     ·cases h
    ·cases h
   ·cases h
theorem ZeC {P:Program} {w:World} {E:Env} {n:Nat}:∀ (d:Nat) {t:TypeId} {cs f:List SC} {b:Bool},Vm P d t cs f=some b->(Op.equalIn (n+d) t (W8 P t E cs) (W8 P t E f)).run P w=.ok b w
 | 0,_,_,_,_,h=>by cases h
 | d+1,t,cs,f,b,h=>by
  unfold Vm at h
  split at h
  ·rename_i k c
   split at h
   ·rename_i l m u x
    cases r:decide (l=u) with
    | false=>rw [r] at h;cases h
    | true =>
     rw [r] at h;cases h
     have:l=u:=by simpa using r
     subst this
     simp only [W8,XY,c,cond_false,ZZ]
     exact run_equalIn_int w (n+d) t l k m x c
   ·cases h
  ·rename_i c
   split at h
   ·cases h
    simp only [W8,XY,c,cond_false,ZZ]
    exact run_equalIn_bool w (n+d) t _ _ c
   ·cases h
  ·rename_i c
   split at h
   ·cases h
    simp only [W8,XY,c,cond_false,ZZ]
    exact run_equalIn_string w (n+d) t _ _ c
   ·cases h
  ·rename_i fs c
   cases g:P.stoodInHeld t with
   | true=>rw [g] at h;cases h
   | false =>
    rw [g] at h
    simp only [cond_false] at h
    have v:P.fieldsOf t=fs:=by simp [Program.fieldsOf,c]
    have j:=run_equalIn_struct w (n+d) t (cs.map (ZZ E)).toArray (f.map (ZZ E)).toArray (by rw [v];exact c) g
    rw [v] at j
    have q:XY P t=true:=by simp [XY,c]
    simp only [W8,q,cond_true]
    rw [show n+(d+1)=n+d+1 from rfl,j]
    exact Zjl (fun t cs f b h=>ZeC d h) _ h
  ·rename_i m el c
   split at h
   ·rename_i i hi
    cases g:i.size==P.cellsOf el with
    | false=>rw [g] at h;cases h
    | true =>
     rw [g] at h
     simp only [cond_true] at h
     have j:=run_equalIn_array w (n+d) (cs.map (ZZ E)).toArray (f.map (ZZ E)).toArray c hi
     have q:XY P t=true:=by simp [XY,c]
     simp only [W8,q,cond_true]
     rw [show n+(d+1)=n+d+1 from rfl,j]
     exact Zjk hi (by simpa using g) (fun t cs f b h=>ZeC d h) _ h
   ·cases h
  ·cases h
theorem ZoI {P:Program} {t:TypeId} {cs c:List SC} {b:Bool} (d:XY P t=true) (h:Vm P 20 t cs c=some b) (E:Env) (w:World) :
  (Op.equal t (.agg (cs.map (ZZ E)).toArray) (.agg (c.map (ZZ E)).toArray)).run P w=.ok b w:=by
 have:=ZeC (w:=w) (E:=E) (n:=9980) 20 h
 simpa [W8,d,Op.equal,Op.maxDepth] using this
end
section
variable [LxP]
def Sc {α:Type} (z:α) (l c:Int):Option (List α):=bif decide (0<=l) && decide (l<=c) && decide (c<=4294967296) then some (List.replicate l.toNat z) else none
section
variable {X:Ctx} {s:St} {ops:Array Oper} {todo:Act->World->Prop} {tt:List (Nat × TD)}
theorem ZlP {n:Int} (c:0<=n) (d:n<=4294967296):IntKind.i64.wrap n=n:=by
 simp [IntKind.wrap,IntKind.signed,IntKind.bits]
 omega
theorem ZvE {α:Type} {R:TRep α} {z:α} {E:Env} {F:YB} {w:World} {zs:List SC} (l:RowL R F w [z] (zs.map (ZZ E))) (n:Nat) {arr:Array Value}
  (d:arr.toList=(Ta zs (n * R.sz)).map (ZZ E)) (m:Nat) (G:m<=n):Row R F w (List.replicate m z) arr 0:=by
 have f:zs.length=R.sz:=by have:=l.1;simpa using this
 intro i x h
 rw [List.getElem?_replicate] at h
 split at h
 ·rename_i hi
  cases h
  have ⟨y,A,C⟩:=l.2 0 z rfl
  refine ⟨y,A,fun j v u=>?_⟩
  have r:=C j v u
  rw [Nat.zero_mul,Nat.zero_add,List.getElem?_map,Zl] at r
  obtain ⟨c,q,rfl⟩:=r
  have D:j < zs.length:=(List.getElem?_eq_some_iff.1 q).1
  rw [<- Array.getElem?_toList,d,Nat.zero_add,List.getElem?_map,Zl]
  refine ⟨c,?_,rfl⟩
  unfold Ta
  have k:i * R.sz+j < n * R.sz:=by
   have:(i+1) * R.sz<=n * R.sz:=Nat.mul_le_mul_right _ (by omega)
   rw [Nat.add_mul] at this
   omega
  rw [List.getElem?_map,List.getElem?_range k]
  simp only [Option.map_some,Option.some.injEq]
  have g:(i * R.sz+j) % zs.length=j:=by
   rw [f,Nat.mul_comm,Nat.mul_add_mod]
   exact Nat.mod_eq_of_lt (by omega)
  rw [g,List.getD,q]
  rfl
 ·cases h
theorem WPr.mk {α:Type} {R:TRep α} (O:Opn R) (htt:TTOk X.P tt) (z:α) {i:Nat} {rest:List Nat} {o:Oper} {t:TypeId} {j u:TD} {x y:Operand} {d:Nat} {k k':IntKind} {l c:Int} {xs:List α}
    (v:Sc z l c=some xs) (ho:ops[i]? = some o) (hg:YO ops s.L o=some true) (hop:o.op=.makeSlice t x y) (hd:o.dst=some d) (ht:ZQ tt t=some j) (q:ZQ tt j.el=some u)
    (S:Yd s.L x=some (.c (.i k l))) (hy:Yd s.L y=some (.c (.i k' c))) (hk:MP O (ZQ s.V) [z] u.z)
    (hc:(Nat.blt d X.fn.ntmps && Nat.beq j.kd 6 && Nat.beq j.es R.sz && Nat.ble j.eb 32768 && !u.z.isEmpty)=true)
    (kk:WPr X ops rest todo ⟨(d,.c (.sl s.nx))::s.L,(s.nx,.own R xs true)::s.M,s.V,s.nx+1⟩):WPr X ops (i::rest) todo s:=by
  refine WPr.op ho hg (fun E F w a T=>?_) kk
  simp only [Zc] at hc
  obtain ⟨⟨⟨⟨c1,c2⟩,U⟩,c4⟩,c5⟩:=hc
  have U:=Zd U
  have c4:=Ze c4
  have ⟨e1,_⟩:=T.eval S
  have ⟨e2,_⟩:=T.eval hy
  unfold Sc at v
  cases Y:(decide (0<=l) && decide (l<=c) && decide (c<=4294967296)) with
  | false=>rw [Y] at v;cases v
  | true =>
    rw [Y] at v;cases v
    simp only [Zc,decide_eq_true_eq] at Y
    obtain ⟨⟨q0,q1⟩,q2⟩:=Y
    have ⟨ie,hu,r,A,heb,_⟩:=(htt.get ht).slc c2
    have hz:(sizeOf j.el).run X.P w=.ok j.es w:=by simp [sizeOf,typeInfo,r,A]
    have ⟨W,hzr,hzc⟩:=ZaS w (htt.get q)
    have hzl:u.z.length=j.es:=by
      have h1:=(htt.get q).2.2.2
      have ⟨i',z',C,hs',_⟩:=(htt.get q).info
      rw [r] at C
      cases C
      rw [h1,<- hs',A]
    have D:u.z≠[]:=by intro h;rw [h] at c5;simp at c5
    have hcc:(c.toNat:Int)=c:=Int.toNat_of_nonneg (by omega)
    have G:(execOp a.eval o).run X.P w=.ok (.value (.slice (some ⟨w.heap.size,0,none⟩) l.toNat c.toNat)) (w.alloc (.cells ((Array.range (c.toNat * j.es)).map (W.cells[· % W.cells.size]!)) j.el)):=by
      simp only [execOp,hop,e1,e2,Yc,ZZ]
      refine Y3 ?_
      have w1:IntKind.i64.wrap l=l:=ZlP q0 (by omega)
      have w2:IntKind.i64.wrap c=c:=ZlP (by omega) q2
      have hmul:(j.eb:Int) * c<=32768 * 4294967296:=Int.mul_le_mul (by omega) q2 (by omega) (by omega)
      have n1:¬ c < 0:=by omega
      have n2:¬ l < 0:=by omega
      have n3:¬ c < l:=by omega
      have n4:¬ (2:Int) ^ 48 < (j.eb:Int) * c:=by omega
      have n5:¬ roomBytes < c.toNat * j.eb:=by
        have:((c.toNat * j.eb:Nat):Int)=c * j.eb:=by rw [Int.natCast_mul,hcc]
        have h3:c * (j.eb:Int)=j.eb * c:=Int.mul_comm _ _
        show ¬ 2 ^ 47 < c.toNat * j.eb
        omega
      have hti:(typeInfo j.el).run X.P w=.ok ie w:=by simp [typeInfo,r]
      simp only [Instr.makeSlice,Sem.run_bind,Xb hu,Result.andThen_ok,asInt,asIntOf,Sem.run_pure,hti,heb,w1,w2]
      simp only [n1,n2,n3,n4,decide_false,Bool.or_false,Bool.or_self,gt_iff_lt,Bool.false_eq_true,if_false,askRoom,n5,Sem.run_pure,Sem.run_bind,Result.andThen_ok,hz]
      by_cases Z:c.toNat * j.es=0
      · have key:∀ f:Nat->Value,(Array.range (c.toNat * j.es)).map f=#[]:=by intro f;rw [Z];simp
        simp only [Z,if_true,Sem.run_pure,Result.andThen_ok]
        rw [Z] at key
        rw [key]
        simp [newRow]
        congr 2
        apply Array.ext<;>simp
      · simp [Z,hzr,newRow]
    refine XW G ?_
    have I:=B5 O (E:=E) (F:=F) (w:=w) (fun k f h=>T.hV k f h) hk
    have K:=Zmy (hzc E) (c.toNat * j.es) (.inr D)
    have N:l.toNat<=c.toNat:=by omega
    have S:=T.newRow (R:=R) (xs:=List.replicate l.toNat z) (arr:=(Array.range (c.toNat * j.es)).map (W.cells[· % W.cells.size]!)) (ty:=j.el) (cap:=c.toNat)
      (fun w' g=>ZvE (I.mono g) c.toNat (by rw [<- U];exact K) l.toNat N) (by simpa using N) (by simp [U]) (d:=d) (YT c1) (w2:=w.alloc _) rfl rfl rfl .m
    rw [List.length_replicate] at S
    rw [hd]
    exact S
end
end
section
variable [LxP]
section keys
def SC.kp (p:Nat->Bool):SC->Bool
 | .sl k | .bp k _ | .px k _ | .sp k _ _ _=>p k
 | .cl _ fs ks=>fs.all p && ks.all p
 | _=>true
def SV.kp (p:Nat->Bool):SV->Bool
 | .c x=>x.kp p
 | .a cs=>cs.all (SC.kp p)
 | .t vs=>vs.all fun v=>match v with | .inl x=>SC.kp p x | .inr cs=>cs.all (SC.kp p)
 | .u=>true
def VF.kp (p:Nat->Bool):VF->Bool
 | .pl cs=>cs.all (SC.kp p)
 | .el k _ | .vw k _ _ _=>p k
 | _=>true
def MO.kp (p:Nat->Bool):MO->Bool
 | .box cs _=>cs.all (SC.kp p)
 | _=>true
def Env.Eqp (p:Nat->Bool) (E E':Env):Prop:=∀ k,p k=true->E'.ρ k=E.ρ k/\E'.β k=E.β k
variable {p:Nat->Bool} {E E':Env}
theorem Zi2 (h:E.Eqp p E') {c:List Nat} (d:c.all p=true):WD E' c=WD E c:=by
 unfold WD
 rw [List.map_congr_left fun k f=>by rw [(h k (List.all_eq_true.1 d k f)).2]]
theorem Zad (h:E.Eqp p E'):∀ {x:SC},x.kp p=true->ZZ E' x=ZZ E x
 | .sl k,hx=>(h k hx).1
 | .bp k o,hx=>by simp [ZZ,(h k hx).2]
 | .px k o,hx=>by simp [ZZ,(h k hx).1]
 | .sp k _ _ _,hx=>by simp only [ZZ,(h k hx).1,(h k hx).2]
 | .cl f fs ks,hx=>by
  simp only [SC.kp,Zc] at hx
  simp only [ZZ,Zi2 h hx.1,Zi2 h hx.2]
 | .i _ _,_ | .b _,_ | .s _,_ | .v _,_ | .nil,_=>rfl
theorem Zeq (h:E.Eqp p E') {cs:List SC} (c:cs.all (SC.kp p)=true):cs.map (ZZ E')=cs.map (ZZ E) :=
 List.map_congr_left fun x d=>Zad h (List.all_eq_true.1 c x d)
theorem Zod (h:E.Eqp p E'):∀ {x:SV},x.kp p=true->Yc E' x=Yc E x
 | .c _,hx=>Zad h hx
 | .a cs,hx=>by simp only [Yc,Zeq h hx]
 | .t vs,hx=>by
  simp only [Yc]
  have:vs.map (Tl E')=vs.map (Tl E):=List.map_congr_left fun v f=>by
   have d:=List.all_eq_true.1 hx v f
   cases v with
   | inl x=>exact Zad h d
   | inr cs=>simp only [Tl,Zeq h d]
  rw [this]
 | .u,_=>rfl
theorem VF.ok.eqp (h:E.Eqp p E') {F w v}:∀ {f:VF},f.kp p=true->f.ok E F w v->f.ok E' F w v
 | .sl _ _,_,hf=>hf
 | .pl cs,hk,⟨b,off,arr,ty,fz,hv,hF,hh,hx⟩=>⟨b,off,arr,ty,fz,hv,hF,hh,fun j x c=>by
   rw [Zad h (List.all_eq_true.1 hk x (Zb c))];exact hx j x c⟩
 | .el k j,hk,hf=>by show _=WC (E'.ρ k) j/\_;rw [(h k hk).1];exact hf
 | .vw k l h' sz,hk,hf=>by show _=Wn l h' sz (E'.ρ k);rw [(h k hk).1];exact hf
 | .fn _,_,hf=>hf
theorem MO.ok.eqp (h:E.Eqp p E') {F w} {k:Nat} (c:p k=true):∀ {m:MO},m.kp p=true->m.ok E F w k->m.ok E' F w k
 | .box cs t,hm,h'=>by
  show w.heap[E'.β k]? = _
  rw [(h k c).2,Zeq h hm];exact h'
 | .own _ _ _,_,h'=>by show OwnR _ _ _ _ (E'.ρ k);rw [(h k c).1];exact h'
 | .abs _,_,h'=>h'
 | .buf _ _,_,h'=>by show BufR _ _ _ (E'.ρ k);rw [(h k c).1];exact h'
 | .av A,_,h'=>by show A.ok _ _ (E'.ρ k);rw [(h k c).1];exact h'
 | .gone,_,_=>trivial
theorem MO.fp_eqp (h:E.Eqp p E') {k:Nat} (c:p k=true):∀ {m:MO} {b:Nat},m.fp E' k b↔m.fp E k b
 | .box _ _,b=>by simp only [MO.fp];rw [(h k c).2]
 | .own _ _ _,b=>by simp only [MO.fp];rw [(h k c).1]
 | .abs _,_=>Iff.rfl
 | .buf _ _,b=>by simp only [MO.fp];rw [(h k c).1]
 | .av _,b=>by simp only [MO.fp];rw [(h k c).1]
 | .gone,_=>Iff.rfl
variable {n:Nat}
theorem SC.kp_of_kb (h:∀ k,k < n->p k=true):∀ {x:SC},x.kb n->x.kp p=true
 | .sl k,hx | .bp k _,hx | .px k _,hx | .sp k _ _ _,hx=>h k hx
 | .cl f fs ks,hx=>by simp only [SC.kp,Zc,List.all_eq_true];exact ⟨fun k c=>h k (hx.1 k c),fun k c=>h k (hx.2 k c)⟩
 | .i _ _,_ | .b _,_ | .s _,_ | .v _,_ | .nil,_=>rfl
theorem SV.kp_of_kb (h:∀ k,k < n->p k=true):∀ {x:SV},x.kb n->x.kp p=true
 | .c _,hx=>SC.kp_of_kb h hx
 | .a cs,hx=>List.all_eq_true.2 fun x d=>SC.kp_of_kb h (hx x d)
 | .t vs,hx=>List.all_eq_true.2 fun v d=>by
  have:=hx v d
  cases v with
  | inl x=>exact SC.kp_of_kb h this
  | inr cs=>exact List.all_eq_true.2 fun x d=>SC.kp_of_kb h (this x d)
 | .u,_=>rfl
theorem VF.kp_of_kb (h:∀ k,k < n->p k=true):∀ {x:VF},x.kb n->x.kp p=true
 | .pl cs,hx=>List.all_eq_true.2 fun x c=>SC.kp_of_kb h (hx x c)
 | .el k _,hx | .vw k _ _ _,hx=>h k hx
 | .sl _ _,_ | .fn _,_=>rfl
theorem MO.kp_of_kb (h:∀ k,k < n->p k=true):∀ {x:MO},x.kb n->x.kp p=true
 | .box cs _,hx=>List.all_eq_true.2 fun x c=>SC.kp_of_kb h (hx x c)
 | .own _ _ _,_ | .abs _,_ | .buf _ _,_ | .av _,_ | .gone,_=>rfl
theorem SC.kp_mono {q:Nat->Bool} (h:∀ k,p k=true->q k=true):∀ {x:SC},x.kp p=true->x.kp q=true
 | .sl k,hx | .bp k _,hx | .px k _,hx | .sp k _ _ _,hx=>h k hx
 | .cl f fs ks,hx=>by
  simp only [SC.kp,Zc,List.all_eq_true] at hx ⊢;exact ⟨fun k c=>h k (hx.1 k c),fun k c=>h k (hx.2 k c)⟩
 | .i _ _,_ | .b _,_ | .s _,_ | .v _,_ | .nil,_=>rfl
theorem SCs.kp_mono {q:Nat->Bool} (h:∀ k,p k=true->q k=true) {cs:List SC} (c:cs.all (SC.kp p)=true):cs.all (SC.kp q)=true :=
 List.all_eq_true.2 fun x d=>SC.kp_mono h (List.all_eq_true.1 c x d)
theorem SV.kp_mono {q:Nat->Bool} (h:∀ k,p k=true->q k=true):∀ {x:SV},x.kp p=true->x.kp q=true
 | .c _,hx=>SC.kp_mono h hx
 | .a cs,hx=>SCs.kp_mono h hx
 | .t vs,hx=>List.all_eq_true.2 fun v d=>by
  have:=List.all_eq_true.1 hx v d
  cases v with
  | inl x=>exact SC.kp_mono h this
  | inr cs=>exact SCs.kp_mono h this
 | .u,_=>rfl
theorem VF.kp_mono {q:Nat->Bool} (h:∀ k,p k=true->q k=true):∀ {x:VF},x.kp p=true->x.kp q=true
 | .pl cs,hx=>SCs.kp_mono h hx
 | .el k _,hx | .vw k _ _ _,hx=>h k hx
 | .sl _ _,_ | .fn _,_=>rfl
theorem MO.kp_mono {q:Nat->Bool} (h:∀ k,p k=true->q k=true):∀ {x:MO},x.kp p=true->x.kp q=true
 | .box cs _,hx=>SCs.kp_mono h hx
 | .own _ _ _,_ | .abs _,_ | .buf _ _,_ | .av _,_ | .gone,_=>rfl
end keys
structure Ent:Type 1 where
 L:List (Nat × SV)
 V:List (Nat × VF)
 W:List (Nat × MO)
 R:List (Nat × MO)
 k0:Nat
 dL:List (Nat × SV)
 dV:List (Nat × VF)
 dM:List (Nat × MO)
 k1:Nat
@[reducible] def Ent.s (e:Ent):St:=⟨e.L,e.W++e.R,e.V,e.k0⟩
@[reducible] def Ent.s' (e:Ent):St:=⟨e.dL,e.dM++e.R,e.dV,e.k1⟩
@[reducible] def Ctx.var (X:Ctx) (nk:Nat) (E0:Env) (F0:YB) (w0:World) (n0:Nat) (Z:YB):Ctx:={ X with nk:=nk,E0:=E0,F0:=F0,w0:=w0,n0:=n0,Z:=Z }
theorem Oper.wp_put {P:Program} {o:Oper} {a:Act} {w:World} {K:Act->World->Prop} {Q:Exit->Act->World->Prop} (h:o.wp P a w K Q) :
  o.wp P a w (fun j w'=>K j w'/\((∃ v,j=a.put o.dst v)\/∃ d l,j.defers=d::l)) Q:=by
 unfold Oper.wp at *
 generalize (execOp a.eval o).run P w=r at *
 cases r with
 | ok n w' =>
  cases n<;>simp only [Oper.upon] at h ⊢
  case value u=>exact ⟨h,.inl ⟨u,rfl⟩⟩
  case skip=>exact ⟨h,.inl ⟨undef,rfl⟩⟩
  case defer d=>exact ⟨h,.inr ⟨d,a.defers,by rw [Zfl]⟩⟩
  case enter f args =>
   refine Calls.mono h fun e k g=>?_
   cases e with
   | returned u=>exact ⟨g,.inl ⟨u,rfl⟩⟩
   | panicked c=>exact g
   | outgrown=>exact g
  case row row args=>exact Rows.mono h fun u k g=>⟨g,.inl ⟨u,rfl⟩⟩
 | halt x w' =>
  cases x<;>simp only [Oper.upon] at h ⊢
  case panic u=>exact h
section
variable {X:Ctx} {s:St} {E:Env} {F:YB} {w:World} {a:Act} {o:Oper} {e:Ent}
theorem Zrl {a:Act} {x:Option Tmp} {u:Value} {d:Nat} (h:x≠some d):(a.put x u).tmps[d]? = a.tmps[d]? := by
 cases x with
 | none=>rfl
 | some c=>have:c≠d:=fun e=>h (by rw [e]);simp [Act.put,this]
theorem Zok {d:Nat} (c:e.dL.map (·.1)=o.dst.toList) (h:ZQ e.dL d=none):o.dst≠some d:=fun f=>by
  rw [f] at c
  simp only [Option.toList_some] at c
  have ⟨q,g,j⟩:=List.mem_map.1 (show d∈e.dL.map (·.1) by rw [c];simp)
  exact ZaE h q.2 (by rw [<- j];exact g)
theorem LS.frame (c:Sat X s E F w a) (hd:e.dL.map (·.1)=o.dst.toList)
    (st:∀ nk E0 F0 w0 n0 Z E F w a,Sat (X.var nk E0 F0 w0 n0 Z) e.s E F w a->o.wp X.P a w (fun a' w'=>∃ E' Y,Sat (X.var nk E0 F0 w0 n0 Z) e.s' E' Y w' a') (fun _ _ _=>False))
    (wf:e.s.Wf) (nL:∀ d v,ZQ e.L d=some v->ZQ s.L d=some v) (nV:∀ k f,ZQ e.V k=some f->ZQ s.V k=some f)
    (nM:∀ k m,ZQ (e.W++e.R) k=some m->ZQ s.M k=some m) (hW:∀ k,ZQ e.dM k=none->ZQ e.W k=none)
    (hk0:X.nk<=e.k0) (hk:e.k0<=e.k1) (I:e.k1<=s.nx) {p:Nat->Bool} (hp:∀ k,p k=true->¬ (e.k0<=k/\k < e.k1))
    (pL:∀ d v,ZQ s.L d=some v->v.kp p=true) (pM:∀ k m,ZQ s.M k=some m->p k=true/\m.kp p=true) (pV:∀ k f,ZQ s.V k=some f->p k=true/\f.kp p=true) :
    o.wp X.P a w (fun a' w'=>∃ E' Y,Sat X ⟨e.dL++s.L,e.dM++s.M,e.dV++s.V,s.nx⟩ E' Y w' a') (fun _ _ _=>False):=by
  let Z':YB:=fun b=>X.Z b\/F b\/∃ k m,ZQ s.M k=some m/\ZQ (e.W++e.R) k=none/\m.fp E k b
  have h1:Sat (X.var e.k0 E F w X.n0 Z') e.s E F w a:={
    wf:=wf
    nk:=Zo _
    defers:=c.defers
    size:=c.size
    hL:=fun d v h=>c.hL d v (nL d v h)
    hV:=fun k f h=>c.hV k f (nV k f h)
    hM:=fun k m h=>c.hM k m (nM k m h)
    dis:=fun k z m m' h r=>c.dis k z m m' (nM k m h) (nM z m' r)
    mF:=fun k m h b q=>by
      have N:=c.mF k m (nM k m h) b q
      refine ⟨N.1,?_,N.2.2⟩
      rintro (A | A | ⟨z,m',G,h4,h5⟩)
      · exact N.2.1 A
      · exact N.1 A
      · refine c.dis k z m m' (nM k m h) G (fun hkk=>?_) b q h5
        subst hkk
        have hh:ZQ (e.W++e.R) k=some m:=h
        rw [h4] at hh;cases hh
    fresh:=fun k m h=>c.fresh k m (nM k m h)
    hF:=c.hF
    hF0:=fun _ h=>h
    hF1:=fun _ h=>.inl h
    hn0:=Nat.le_trans c.hn0 c.ext.size
    hZ:=fun b A=>by
      rcases A with A | A | ⟨z,m',G,h4,h5⟩
      · exact Zh (c.hZ b A) c.ext.size
      · exact c.hF b A
      · exact (c.mF z m' G b h5).2.2
    ext:=Ext.refl _ _
    link:=Env.Eqb.refl _ _
    one:=c.one }
  refine Oper.wp_mono (fun a' w' hq=>?_) (Oper.wp_put (st _ _ _ _ _ _ E F w a h1))
  obtain ⟨⟨E',Y,j⟩,hput⟩:=hq
  have O:∃ v,a'=a.put o.dst v:=by
    rcases hput with h | ⟨d,l,h⟩
    · exact h
    · rw [j.defers] at h;cases h
  obtain ⟨u,rfl⟩:=O
  let E2:Env:=⟨fun k=>if e.k0<=k/\k < e.k1 then E'.ρ k else E.ρ k,fun k=>if e.k0<=k/\k < e.k1 then E'.β k else E.β k⟩
  have q1:E.Eqp p E2:=fun k hk=>by
    have:=hp k hk
    simp only [E2,if_neg this,and_self]
  have S:E.Eqb e.k0 E':=j.link
  have q2:E'.Eqb e.k1 E2:=fun k hk=>by
    by_cases hc:e.k0<=k/\k < e.k1
    · simp only [E2,if_pos hc,and_self]
    · have:=S k (by omega)
      simp only [E2,if_neg hc,this,and_self]
  have C:Ext Z' w w':=j.ext
  have g:Wt F w Y w':=⟨j.hF0,fun b q=>C.block b (.inr (.inl q))⟩
  have T:∀ k m,ZQ (e.dM++s.M) k=some m->ZQ (e.dM++e.R) k=some m\/(ZQ s.M k=some m/\ZQ (e.W++e.R) k=none):=fun k m h=>by
    rw [XS] at h ⊢
    cases hd:ZQ e.dM k with
    | some x=>rw [hd] at h;exact .inl h
    | none =>
      rw [hd] at h
      simp only [] at h ⊢
      have hw:=hW k hd
      cases hr:ZQ e.R k with
      | some y =>
        have:=nM k y (by rw [XS,hw];exact hr)
        rw [h] at this
        exact .inl this.symm
      | none=>exact .inr ⟨h,by rw [XS,hw];exact hr⟩
  have fA:∀ k m,ZQ (e.dM++e.R) k=some m->∀ b,m.fp E2 k b->m.fp E' k b:=fun k m h b q=>(MO.fp_eqb q2 (j.wf.hM k m h).1).1 q
  have U:∀ k m,ZQ s.M k=some m->∀ b,m.fp E2 k b->m.fp E k b:=fun k m h b q=>(MO.fp_eqp q1 (pM k m h).1).1 q
  refine ⟨E2,Y,?_⟩
  exact {
    wf:=⟨fun d v h=>by
        rw [XS] at h
        split at h
        · rename_i x D;cases h;exact (j.wf.hL d _ D).mono I
        · exact c.wf.hL d v h,fun k m h=>by
        rcases T k m h with h | ⟨h,_⟩
        · exact ⟨Zh (j.wf.hM k m h).1 I,(j.wf.hM k m h).2.mono I⟩
        · exact c.wf.hM k m h,fun k f h=>by
        rw [XS] at h
        split at h
        · rename_i x D;cases h;exact ⟨Zh (j.wf.hV k _ D).1 I,(j.wf.hV k _ D).2.mono I⟩
        · exact c.wf.hV k f h⟩
    nk:=c.nk
    defers:=j.defers
    size:=j.size
    hL:=fun d v h=>by
      rw [XS] at h
      split at h
      · rename_i x D
        cases h
        rw [Zab q2 (j.wf.hL d _ D)]
        exact j.hL d _ D
      · rename_i D
        rw [Zrl (Zok hd D),Zod q1 (pL d v h)]
        exact c.hL d v h
    hV:=fun k f h=>by
      rw [XS] at h
      split at h
      · rename_i x D
        cases h
        have:=(j.hV k _ D).eqb q2 (j.wf.hV k _ D).2
        rw [(q2 k (j.wf.hV k _ D).1).1]
        exact this
      · have:=((c.hV k f h).mono g).eqp q1 (pV k f h).2
        rw [(q1 k (pV k f h).1).1]
        exact this
    hM:=fun k m h=>by
      rcases T k m h with h | ⟨h,r⟩
      · exact (j.hM k m h).eqb q2 (j.wf.hM k m h).1 (j.wf.hM k m h).2
      · exact ((c.hM k m h).mono g fun b q=>C.block b (.inr (.inr ⟨k,m,h,r,q⟩))).eqp q1 (pM k m h).1 (pM k m h).2
    dis:=fun k z m m' h r hne b q K=>by
      rcases T k m h with h | ⟨h,g1⟩
      · rcases T z m' r with r | ⟨r,g2⟩
        · exact j.dis k z m m' h r hne b (fA k m h b q) (fA z m' r b K)
        · exact (j.mF k m h b (fA k m h b q)).2.1 (.inr (.inr ⟨z,m',r,g2,U z m' r b K⟩))
      · rcases T z m' r with r | ⟨r,g2⟩
        · exact (j.mF z m' r b (fA z m' r b K)).2.1 (.inr (.inr ⟨k,m,h,g1,U k m h b q⟩))
        · exact c.dis k z m m' h r hne b (U k m h b q) (U z m' r b K)
    mF:=fun k m h b q=>by
      rcases T k m h with h | ⟨h,g1⟩
      · have:=j.mF k m h b (fA k m h b q)
        exact ⟨this.1,fun A=>this.2.1 (.inl A),this.2.2⟩
      · have N:=c.mF k m h b (U k m h b q)
        refine ⟨fun hF'=>?_,N.2.1,Zh N.2.2 C.size⟩
        rcases j.hF1 b hF' with G | G
        · exact N.1 G
        · exact G.2 (.inr (.inr ⟨k,m,h,g1,U k m h b q⟩))
    fresh:=fun k m h hf b q=>by
      rcases T k m h with h | ⟨h,g1⟩
      · exact j.fresh k m h hf b (fA k m h b q)
      · exact c.fresh k m h hf b (U k m h b q)
    hF:=j.hF
    hF0:=fun b q=>j.hF0 b (c.hF0 b q)
    hF1:=fun b q=>by
      rcases j.hF1 b q with G | G
      · exact c.hF1 b G
      · exact .inr ⟨G.1,fun A=>G.2 (.inl A)⟩
    hn0:=c.hn0
    hZ:=c.hZ
    ext:=c.ext.trans (C.mono fun _ A=>.inl A)
    link:=c.link.trans fun k hk=>by
      have:¬ (e.k0<=k/\k < e.k1):=by omega
      simp only [E2,if_neg this,and_self]
    one:=fun k=>by
      simp only [E2]
      split
      · exact j.one k
      · exact c.one k }
theorem LS.skipped (g:Sat X s E F w a) (c:e.dL.map (·.1)=o.dst.toList) (l:∀ d v,(d,v)∈e.dL->v=.u/\d < X.fn.ntmps) (m:e.dM=[]) (x:e.dV=[]) :
    Sat X ⟨e.dL++s.L,e.dM++s.M,e.dV++s.V,s.nx⟩ E F w (a.put o.dst undef):=by
  rw [m,x]
  cases j:o.dst with
  | none =>
    rw [j] at c
    simp only [Option.toList_none,List.map_eq_nil_iff] at c
    rw [c]
    exact g
  | some d =>
    rw [j] at c
    simp only [Option.toList_some] at c
    obtain ⟨q,h⟩:∃ q,e.dL=[q]:=by
      cases k:e.dL with
      | nil=>rw [k] at c;cases c
      | cons q r=>rw [k] at c;simp only [List.map_cons,List.cons.injEq,List.map_eq_nil_iff] at c;exact ⟨q,by rw [c.2]⟩
    have ⟨y,v⟩:=q
    obtain ⟨rfl,f⟩:=l y v (by rw [h];simp)
    rw [h] at c ⊢
    simp only [List.map_cons,List.map_nil,List.cons.injEq,and_true] at c
    subst c
    exact g.setL (v:=.u) trivial f
end
def LS (X:Ctx) (ops:Array Oper) (i:Nat) (e:Ent):Prop:=∃ o,ops[i]? = some o/\e.dL.map (·.1)=o.dst.toList /\
  ((YO ops e.L o=some true/\∀ nk E0 F0 w0 n0 Z E F w a,Sat (X.var nk E0 F0 w0 n0 Z) e.s E F w a ->
      o.wp X.P a w (fun a' w'=>∃ E' F',Sat (X.var nk E0 F0 w0 n0 Z) e.s' E' F' w' a') (fun _ _ _=>False)) \/
   (YO ops e.L o=some false/\(∀ d v,(d,v)∈e.dL->v=.u/\d < X.fn.ntmps)/\e.dM=[]/\e.dV=[]))
section
variable {α:Type _} {dl:Nat->List (Nat × α)} {dn dn':Nat->Bool} {b:List (Nat × α)}
def Wj (dl:Nat->List (Nat × α)) (dn:Nat->Bool) (b:List (Nat × α)):Nat->List (Nat × α)
 | 0=>b
 | j+1=>bif dn j then dl j++Wj dl dn b j else Wj dl dn b j
theorem RO {k:Nat}:∀ {n:Nat},(∀ j,j < n->(ZQ (dl j) k).isSome=true->dn j=dn' j)->ZQ (Wj dl dn b n) k=ZQ (Wj dl dn' b n) k
 | 0,_=>rfl
 | n+1,h=>by
  have d:=RO (n:=n) fun j g=>h j (by omega)
  have f:=h n (by omega)
  simp only [Wj]
  cases c:ZQ (dl n) k with
  | some v =>
   rw [f (by rw [c];rfl)]
   cases dn' n
   ·exact d
   ·simp only [cond_true,XS,c]
  | none =>
   cases dn n<;>cases dn' n<;>simp only [cond_true,cond_false,XS,c,d]
theorem ZaD {i k:Nat}:∀ {n:Nat},i < n->dn i=false->(∀ j,j≠i->dn' j=dn j)->dn' i=true ->
  ((ZQ (dl i) k).isSome=true->∀ j,i < j->j < n->(ZQ (dl j) k).isSome=true->dn j=false)->ZQ (Wj dl dn' b n) k=ZQ (dl i++Wj dl dn b n) k
 | 0,hi,_,_,_,_=>absurd hi (Nat.not_lt_zero _)
 | n+1,hi,h0,hne,h1,hlater=>by
  by_cases c:i=n
  ·subst c
   have q:ZQ (Wj dl dn' b i) k=ZQ (Wj dl dn b i) k:=RO fun j g _=>hne j (by omega)
   simp only [Wj,h0,h1,cond_true,cond_false,XS,q]
  ·have h:=ZaD (k:=k) (n:=n) (by omega) h0 hne h1 fun l j g m=>hlater l j g (by omega)
   have r:=hne n (fun e=>c e.symm)
   simp only [Wj,r]
   cases d:dn n with
   | false=>simp only [cond_false];exact h
   | true =>
    simp only [cond_true,XS,h]
    cases x:ZQ (dl n) k with
    | none=>rfl
    | some v =>
     cases f:ZQ (dl i) k with
     | none=>rfl
     | some u =>
      have:=hlater (by rw [f];rfl) n (by omega) (by omega) (by rw [x];rfl)
      rw [d] at this;cases this
theorem Gq {k:Nat} {v:α}:∀ {n:Nat},ZQ (Wj dl dn b n) k=some v->ZQ b k=some v\/∃ j,j < n/\dn j=true/\ZQ (dl j) k=some v
 | 0,h=>.inl h
 | n+1,h=>by
  simp only [Wj] at h
  cases c:dn n with
  | false =>
   rw [c] at h
   rcases Gq (n:=n) h with h | ⟨j,g,d,f⟩
   ·exact .inl h
   ·exact .inr ⟨j,by omega,d,f⟩
  | true =>
   rw [c] at h
   simp only [cond_true,XS] at h
   split at h
   ·rename_i x l;cases h;exact .inr ⟨n,by omega,c,l⟩
   ·rcases Gq (n:=n) h with h | ⟨j,g,d,f⟩
    ·exact .inl h
    ·exact .inr ⟨j,by omega,d,f⟩
end
def X7 (anc:List Nat) (i j:Nat):Bool:=Nat.testBit (anc.getD i 0) j
def RD (anc:List Nat):List Edge->Nat
 | []=>0
 | e::r=>bif Region.binds .any e then Nat.lor (Nat.lor (2 ^ e.on) (anc.getD e.on 0)) (RD anc r) else RD anc r
theorem Zea {anc:List Nat} {j:Nat}:∀ {l:List Edge},Nat.testBit (RD anc l) j=true->∃ e∈l,Region.binds .any e=true/\(j=e.on\/X7 anc e.on j=true)
 | [],h=>by simp [RD] at h
 | e::r,h=>by
  unfold RD at h
  cases d:Region.binds .any e with
  | false =>
   rw [d] at h
   have ⟨x,f,g⟩:=Zea (l:=r) h
   exact ⟨x,Zi _ f,g⟩
  | true =>
   rw [d] at h
   simp only [cond_true] at h
   have c:Nat.testBit ((2 ^ e.on ||| anc.getD e.on 0) ||| RD anc r) j=true:=h
   rw [Nat.testBit_or,Nat.testBit_or,Bool.or_eq_true,Bool.or_eq_true] at c
   rcases c with (c | c) | c
   ·exact ⟨e,Zj,d,.inl (by rw [Nat.testBit_two_pow] at c;simpa using (of_decide_eq_true c).symm)⟩
   ·exact ⟨e,Zj,d,.inr c⟩
   ·have ⟨x,f,g⟩:=Zea (l:=r) c
    exact ⟨x,Zi _ f,g⟩
def V9 {α:Type _} (k:Nat) (l:List (Nat × α)):Bool:=l.any fun q=>Nat.beq q.1 k
def Vs {α:Type _} {β:Type _} (l:List (Nat × α)) (r:List (Nat × β)):Bool:=l.any fun q=>V9 q.1 r
theorem Zqh {α:Type _} {k:Nat} {l:List (Nat × α)} (h:(ZQ l k).isSome=true):V9 k l=true:=by
 have ⟨v,c⟩:=Option.isSome_iff_exists.1 h
 exact List.any_eq_true.2 ⟨_,YY c,by simp⟩
theorem Zp5 {α:Type _} {k:Nat} {l:List (Nat × α)} (h:V9 k l=true):(ZQ l k).isSome=true:=by
 cases f:ZQ l k with
 | some _=>rfl
 | none =>
  have ⟨q,c,d⟩:=List.any_eq_true.1 h
  obtain rfl:=Zd d
  exact absurd c (ZaE f q.2)
theorem Q8 {α:Type _} {β:Type _} {l:List (Nat × α)} {r:List (Nat × β)} {k:Nat} (h:(ZQ l k).isSome=true) (g:(ZQ r k).isSome=true):Vs l r=true:=by
 have ⟨v,c⟩:=Option.isSome_iff_exists.1 h
 exact List.any_eq_true.2 ⟨_,YY c,Zqh g⟩
def Ent.sh (e f:Ent):Bool:=Vs e.L f.dL || Vs e.dL f.dL || Vs e.V f.dV || Vs e.dV f.dV || Vs e.W f.dM || Vs e.R f.dM || Vs e.dM f.dM
def Zjj:Ent:=⟨[],[],[],[],0,[],[],[],0⟩
section chk
variable (ops:Array Oper) (ents:List Ent) (anc:List Nat) (nx0 nx:Nat)
def YN (i:Nat):Ent:=ents.getD i Zjj
def RU (i k:Nat):Bool:=Nat.blt k nx0 || (List.range ents.length).any fun j=>(Nat.beq j i || X7 anc i j) && Nat.ble (YN ents j).k0 k && Nat.blt k (YN ents j).k1
def Zeh (i j:Nat):Bool:=Nat.beq i j || ((!((YN ents i).sh (YN ents j)) || X7 anc i j || X7 anc j i) && (Nat.ble (YN ents i).k1 (YN ents j).k0 || Nat.ble (YN ents j).k1 (YN ents i).k0))
def B4 (i:Nat):Bool :=
  let e:=YN ents i
  let p:=RU ents anc nx0 i
  Pd e.L (e.W++e.R) e.V e.k0 && Nat.ble nx0 e.k0 && Nat.ble e.k0 e.k1 && Nat.ble e.k1 nx && e.W.all (fun q=>V9 q.1 e.dM) &&
    e.dL.all (fun q=>q.2.kp p) && e.dM.all (fun q=>p q.1 && q.2.kp p) && e.dV.all (fun q=>p q.1 && q.2.kp p) &&
    (match ops[i]? with
     | some o=>Nat.beq (anc.getD i 0) (RD anc o.after.toList) && o.after.toList.all (fun d => !Region.binds .any d || Nat.blt d.on i)
     | none=>false)
def MN:Bool:=Nat.beq ops.size ents.length && Nat.ble nx0 nx && (List.range ents.length).all fun i=>B4 ops ents anc nx0 nx i && (List.range ents.length).all fun j=>Zeh ents anc i j
def M9 (s:St):List (List (Option SV) × List (Option VF) × List (Option MO)):=(List.range ents.length).map fun i =>
  let e:=YN ents i
  (e.L.map fun q=>ZQ (Wj (fun j=>(YN ents j).dL) (X7 anc i) s.L ents.length) q.1,
   e.V.map fun q=>ZQ (Wj (fun j=>(YN ents j).dV) (X7 anc i) s.V ents.length) q.1,
   (e.W++e.R).map fun q=>ZQ (Wj (fun j=>(YN ents j).dM) (X7 anc i) s.M ents.length) q.1)
def Lz:List (List (Option SV) × List (Option VF) × List (Option MO)):=(List.range ents.length).map fun i =>
 let e:=YN ents i
 (e.L.map fun q=>some q.2,e.V.map fun q=>some q.2,(e.W++e.R).map fun q=>some q.2)
def WX (s:St) (dn:Nat->Bool):St :=
 ⟨Wj (fun j=>(YN ents j).dL) dn s.L ents.length,Wj (fun j=>(YN ents j).dM) dn s.M ents.length,Wj (fun j=>(YN ents j).dV) dn s.V ents.length,nx⟩
end chk
inductive AllLS (X:Ctx) (ops:Array Oper):Nat->List Ent->Prop
 | nil {i:Nat}:AllLS X ops i []
 | cons {i:Nat} {e:Ent} {r:List Ent} (h:LS X ops i e) (k:AllLS X ops (i+1) r):AllLS X ops i (e::r)
theorem AllLS.get {X:Ctx} {ops:Array Oper}:∀ {l:List Ent} {i:Nat},AllLS X ops i l->∀ j,j < l.length->LS X ops (i+j) (YN l j)
 | _::_,i,.cons h k,0,_=>h
 | _::r,i,.cons h k,j+1,hj=>by
  have:=k.get j (by simpa using hj)
  rw [show i+(j+1)=i+1+j by omega]
  exact this
def XU (dn:Nat->Bool):Nat->Nat
 | 0=>0
 | j+1=>XU dn j+(bif dn j then 0 else 1)
theorem Zis {dn:Nat->Bool}:∀ {n:Nat},XU dn n=0->∀ j,j < n->dn j=true
 | 0,_,j,hj=>absurd hj (Nat.not_lt_zero _)
 | n+1,h,j,hj=>by
  simp only [XU] at h
  by_cases e:j=n
  ·subst e
   cases c:dn j with
   | true=>rfl
   | false=>rw [c] at h;simp at h
  ·exact Zis (n:=n) (by omega) j (by omega)
theorem Zir {dn dn':Nat->Bool}:∀ {n:Nat},(∀ j,j < n->dn' j=dn j)->XU dn' n=XU dn n
 | 0,_=>rfl
 | n+1,h=>by simp only [XU,Zir (n:=n) fun j c=>h j (by omega),h n (by omega)]
theorem Zio {dn dn':Nat->Bool} {i:Nat}:∀ {n:Nat},i < n->dn i=false->dn' i=true->(∀ j,j≠i->dn' j=dn j)->XU dn' n+1=XU dn n
 | 0,h,_,_,_=>absurd h (Nat.not_lt_zero _)
 | n+1,hi,h0,h1,hne=>by
  simp only [XU]
  by_cases e:i=n
  ·subst e
   rw [Zir (dn:=dn) (dn':=dn') fun j c=>hne j (by omega),h0,h1];rfl
  ·have:=Zio (n:=n) (by omega) h0 h1 hne
   rw [hne n (fun h=>e h.symm)];omega
theorem Zek {dn:Nat->Bool}:∀ {n:Nat},(∀ j,j < n->dn j=false)->XU dn n=n
 | 0,_=>rfl
 | n+1,h=>by simp only [XU,Zek (n:=n) fun j c=>h j (by omega),h n (by omega)];rfl
theorem Sat.weaken {X:Ctx} {s t:St} {E F w a} (c:Sat X s E F w a) (f:t.nx=s.nx) (hL:∀ d v,ZQ t.L d=some v->ZQ s.L d=some v)
  (hM:∀ d v,ZQ t.M d=some v->ZQ s.M d=some v) (hV:∀ d v,ZQ t.V d=some v->ZQ s.V d=some v):Sat X t E F w a:={ c with
 wf:=⟨fun d v h=>f ▸ c.wf.hL d v (hL d v h),fun d v h=>f ▸ c.wf.hM d v (hM d v h),fun d v h=>f ▸ c.wf.hV d v (hV d v h)⟩
 nk:=f ▸ c.nk
 hL:=fun d v h=>c.hL d v (hL d v h)
 hV:=fun d v h=>c.hV d v (hV d v h)
 hM:=fun d v h=>c.hM d v (hM d v h)
 dis:=fun k g m m' h j=>c.dis k g m m' (hM k m h) (hM g m' j)
 mF:=fun k m h=>c.mF k m (hM k m h)
 fresh:=fun k m h=>c.fresh k m (hM k m h) }
theorem Sat.same {X:Ctx} {s t:St} {E F w a} (c:Sat X s E F w a) (f:t.nx=s.nx) (hL:∀ d,ZQ t.L d=ZQ s.L d) (hM:∀ d,ZQ t.M d=ZQ s.M d) (hV:∀ d,ZQ t.V d=ZQ s.V d) :
  Sat X t E F w a:=c.weaken f (fun d v h=>by rw [<- hL];exact h) (fun d v h=>by rw [<- hM];exact h) (fun d v h=>by rw [<- hV];exact h)
end
section
variable [LxP]
theorem ZjA {ops:Array Oper} {L l:List (Nat × SV)} {o:Oper} {t:Bool} (q:∀ d v,ZQ L d=some v->ZQ l d=some v) (h:YO ops L o=some t):YO ops l o=some t:=by
 unfold YO at *
 split
 ·rename_i c;rw [c] at h;exact h
 ·rename_i j m c
  rw [c] at h
  simp only [] at h
  split
  ·rename_i r f
   rw [f] at h
   simp only [] at h
   split
   ·rename_i d g
    rw [g] at h
    simp only [] at h
    cases k:ZQ L d with
    | none=>rw [k] at h;cases h
    | some v=>rw [k] at h;rw [q d v k];exact h
   ·rename_i g;rw [g] at h;exact h
  ·rename_i f;rw [f] at h;exact h
theorem Zjt {l:Array Bool} {i j:Nat} (hi:i < l.size):(l.setIfInBounds i true).getD j false=if j=i then true else l.getD j false:=by
 by_cases e:j=i
 ·subst e;simp [hi]
 ·rw [if_neg e];simp only [Array.getD_eq_getD_getElem?,Array.getElem?_setIfInBounds_ne (Ne.symm e)]
section
variable {X:Ctx} {ops:Array Oper} {ents:List Ent} {anc:List Nat} {s:St} {nx:Nat}
theorem QT {α:Type _} (dl:Nat->List (Nat × α)) (b:List (Nat × α)):∀ n:Nat,Wj dl (fun _=>false) b n=b
 | 0=>rfl
 | n+1=>by simp only [Wj,cond_false];exact QT dl b n
structure ZhK (ops:Array Oper) (ents:List Ent) (anc:List Nat) (nx0 nx i:Nat):Prop where
 wf:(YN ents i).s.Wf
 lo:nx0<=(YN ents i).k0
 le:(YN ents i).k0<=(YN ents i).k1
 hi:(YN ents i).k1<=nx
 W:∀ k,ZQ (YN ents i).dM k=none->ZQ (YN ents i).W k=none
 dL:∀ d v,ZQ (YN ents i).dL d=some v->v.kp (RU ents anc nx0 i)=true
 dM:∀ k m,ZQ (YN ents i).dM k=some m->RU ents anc nx0 i k=true/\m.kp (RU ents anc nx0 i)=true
 dV:∀ k f,ZQ (YN ents i).dV k=some f->RU ents anc nx0 i k=true/\f.kp (RU ents anc nx0 i)=true
 edges:∃ o,ops[i]? = some o/\(∀ d∈o.after,Region.binds .any d=true->d.on < i) /\
  ∀ j,X7 anc i j=true->∃ d∈o.after,Region.binds .any d=true/\(j=d.on\/X7 anc d.on j=true)
theorem ZnX {nx0 i:Nat} (h:B4 ops ents anc nx0 nx i=true):ZhK ops ents anc nx0 nx i:=by
 unfold B4 at h
 simp only [Zc] at h
 obtain ⟨⟨⟨⟨⟨⟨⟨⟨r,y⟩,z⟩,A⟩,C⟩,D⟩,G⟩,I⟩,g⟩:=h
 refine ⟨ZfT r,Ze y,Ze z,Ze A,fun k u=>?_,fun d v c=>?_,fun k m c=>?_,fun k f c=>?_,?_⟩
 ·cases c:ZQ (YN ents i).W k with
  | none=>rfl
  | some v =>
   have:=Zp5 (List.all_eq_true.1 C _ (YY c))
   rw [u] at this;cases this
 ·exact List.all_eq_true.1 D _ (YY c)
 ·have:=List.all_eq_true.1 G _ (YY c)
  rwa [Zc] at this
 ·have:=List.all_eq_true.1 I _ (YY c)
  rwa [Zc] at this
 ·split at g
  ·rename_i o K
   rw [Zc] at g
   refine ⟨o,K,fun d l x=>?_,fun j q=>?_⟩
   ·have:=List.all_eq_true.1 g.2 d (by simpa using l)
    rw [x] at this
    exact YT this
   ·unfold X7 at q
    rw [Zd g.1] at q
    have ⟨d,l,r⟩:=Zea q
    exact ⟨d,by simpa using l,r⟩
  ·cases g
structure Chk (ops:Array Oper) (ents:List Ent) (anc:List Nat) (nx0 nx:Nat):Prop where
 size:ops.size=ents.length
 nxle:nx0<=nx
 E:∀ i,i < ents.length->ZhK ops ents anc nx0 nx i
 sh:∀ i j,i < ents.length->j < ents.length->i≠j->(YN ents i).sh (YN ents j)=true->X7 anc i j=true\/X7 anc j i=true
 rg:∀ i j,i < ents.length->j < ents.length->i≠j->(YN ents i).k1<=(YN ents j).k0\/(YN ents j).k1<=(YN ents i).k0
theorem Zih {nx0:Nat} (h:MN ops ents anc nx0 nx=true):Chk ops ents anc nx0 nx:=by
  unfold MN at h
  rw [Zc,Zc] at h
  obtain ⟨⟨k,l⟩,m⟩:=h
  have f:∀ i j,i < ents.length->j < ents.length->B4 ops ents anc nx0 nx i=true/\Zeh ents anc i j=true:=fun i j hi d=>by
    have:=List.all_eq_true.1 m i (List.mem_range.2 hi)
    rw [Zc] at this
    exact ⟨this.1,List.all_eq_true.1 this.2 j (List.mem_range.2 d)⟩
  refine ⟨Zd k,Ze l,fun i hi=>ZnX (f i i hi hi).1,fun i j hi d c g=>?_,fun i j hi d c=>?_⟩
  all_goals
    have:=(f i j hi d).2
    unfold Zeh at this
    rw [Bool.or_eq_true] at this
    rcases this with h | h
    · exact absurd (Zd h) c
    · rw [Zc,Bool.or_eq_true,Bool.or_eq_true,Bool.or_eq_true] at h
      first
        | (rcases h.1 with (h | h) | h
           · rw [g] at h;cases h
           · exact .inl h
           · exact .inr h)
        | exact h.2.imp Ze Ze
theorem Chk.anc_lt {nx0:Nat} (c:Chk ops ents anc nx0 nx):∀ (i:Nat),i < ents.length->∀ j,X7 anc i j=true->j < i:=by
 intro i
 induction i using Nat.strongRecOn with
 | _ i q =>
  intro hi j m
  have ⟨o,_,g,h⟩:=(c.E i hi).edges
  have ⟨d,k,l,f⟩:=h j m
  have:=g d k l
  rcases f with rfl | f
  ·exact this
  ·have:=q d.on this (by omega) j f
   omega
theorem Lp (e f:Ent) (h:Vs e.L f.dL=true\/Vs e.dL f.dL=true\/Vs e.V f.dV=true\/Vs e.dV f.dV=true\/Vs e.W f.dM=true\/Vs e.R f.dM=true\/Vs e.dM f.dM=true):e.sh f=true:=by
 unfold Ent.sh
 rcases h with h | h | h | h | h | h | h<;>simp [h]
theorem Ziq {dn:Nat->Bool}:∀ {n:Nat},(∀ j,j < n->dn j=true)->XU dn n=0
 | 0,_=>rfl
 | n+1,h=>by simp only [XU,Ziq (n:=n) fun j c=>h j (by omega),h n (by omega)];rfl
theorem ZkU {t:Nat} {ops':Array Oper} (ht:t<=1) (D:ops.size=ents.length+t) (hpx:∀ i,i < ents.length->ops'[i]? = ops[i]?)
  (hT:∀ i o,ents.length<=i->ops[i]? = some o->(∀ d∈o.after,Region.binds .any d=true->d.on < ents.length)/\∀ j,j < ents.length->∃ d∈o.after,Region.binds .any d=true/\(d.on=j\/X7 anc d.on j=true))
  (hl:AllLS X ops 0 ents) (c:Chk ops' ents anc s.nx nx) (hN:M9 ents anc s=Lz ents) (Z:s.Wf) (hnk:X.nk<=s.nx) {todo:Act->World->Prop}
  (hend:∀ E F w a,Sat X (WX ents nx s fun _=>true) E F w a->wpOps X.P ops (fun e a' w'=>e=.normal/\todo a' w') (List.range' ents.length t) a w) :
  ∀ (m:Nat) (l:Array Bool) (E:Env) (F:YB) (w:World) (a:Act),l.size=ops.size->(∀ j,ents.length<=j->l.getD j false=false)->(∀ i,l.getD i false=true->∀ j,X7 anc i j=true->l.getD j false=true) ->
   XU (fun j=>l.getD j false) ents.length=m->Sat X (WX ents nx s fun j=>l.getD j false) E F w a->wpAny X.P .any ops (fun e a' w'=>e=.normal/\todo a' w') (m+t) l a w:=by
 have G:∀ {l:Array Bool} {i:Nat},l.getD i true=false->l.getD i false=false:=fun {l i} h=>by
  rcases Nat.lt_or_ge i l.size with h' | h'
  ·simp [h'] at h ⊢;exact h
  ·simp [h'] at h
 have N:∀ {l:Array Bool} {i:Nat},i < l.size->l.getD i false=false->l.getD i true=false:=fun {l i} h' h=>by
  simp [h'] at h ⊢;exact h
 have hall:∀ {l:Array Bool} {E F w a},l.size=ops.size->(∀ j,ents.length<=j->l.getD j false=false)->(∀ j,j < ents.length->l.getD j false=true)->Sat X (WX ents nx s fun j=>l.getD j false) E F w a ->
   wpAny X.P .any ops (fun e a' w'=>e=.normal/\todo a' w') t l a w:=fun {l E F w a} u O C hs=>by
  have hw:=hend E F w a (hs.same rfl (fun d=>RO fun j f _=>(C j f).symm) (fun d=>RO fun j f _=>(C j f).symm) (fun d=>RO fun j f _=>(C j f).symm))
  have hin:∀ j,j∈Region.ready .any ops l->ents.length<=j/\j < ops.size:=fun j f=>by
   have ⟨h0,o,Y,_⟩:=mem_ready.1 f
   refine ⟨Nat.not_lt.1 fun h=>?_,(Array.getElem?_eq_some_iff.1 Y).1⟩
   have:=C j h
   rw [G h0] at this;cases this
  match t,ht,D,hw with
  | 0,_,D,hw=>exact ⟨List.eq_nil_iff_forall_not_mem.2 fun j f=>by have:=hin j f;omega,hw⟩
  | 1,_,D,hw =>
   rw [show List.range' ents.length 1=[ents.length] from rfl,wpOps_cons] at hw
   have hlt:ents.length < ops.size:=by omega
   have Y:=Array.getElem?_eq_getElem hlt
   have ⟨t1,t2⟩:=hT _ _ (Zo _) Y
   refine ⟨fun hr=>?_,fun i hi=>?_⟩
   ·have:ents.length∈Region.ready .any ops l:=mem_ready.2 ⟨N (by rw [u];exact hlt) (O _ (Zo _)),_,Y,fun d hdm z=>C d.on (t1 d hdm z)⟩
    rw [hr] at this;cases this
   ·obtain rfl:i=ents.length:=by have:=hin i hi;omega
    refine wpOp_mono (fun a' w' h=>⟨List.eq_nil_iff_forall_not_mem.2 fun j f=>?_,h⟩) hw
    have ⟨h0,o,ho',_⟩:=mem_ready.1 f
    have hj':=(Array.getElem?_eq_some_iff.1 ho').1
    have h0:=G h0
    rw [Zjt (by rw [u];exact hlt)] at h0
    split at h0
    ·cases h0
    ·rw [C j (by omega)] at h0;cases h0
 have hneed:∀ i,i < ents.length ->
   (∀ d v,ZQ (YN ents i).L d=some v->ZQ (Wj (fun j=>(YN ents j).dL) (X7 anc i) s.L ents.length) d=some v) /\
   (∀ d v,ZQ (YN ents i).V d=some v->ZQ (Wj (fun j=>(YN ents j).dV) (X7 anc i) s.V ents.length) d=some v) /\
   (∀ d v,ZQ ((YN ents i).W++(YN ents i).R) d=some v->ZQ (Wj (fun j=>(YN ents j).dM) (X7 anc i) s.M ents.length) d=some v):=fun i hi=>by
  have:=S5 hN i (List.mem_range.2 hi)
  simp only [Zp] at this
  exact ⟨fun d v h=>S5 this.1 _ (YY h),fun d v h=>S5 this.2.1 _ (YY h),fun d v h=>S5 this.2.2 _ (YY h)⟩
 intro m
 induction m with
 | zero =>
  intro l E F w a u O T hcnt hs
  rw [Nat.zero_add]
  exact hall u O (Zis hcnt) hs
 | succ m ih =>
  intro l E F w a u O T hcnt hs
  rw [show m+1+t=m+t+1 by omega]
  have hdone:Region.ready .any ops l=[]->∀ j,j < ents.length->l.getD j false=true:=fun hr j=>by
   induction j using Nat.strongRecOn with
   | _ j ihj =>
    intro f
    cases C:l.getD j false with
    | true=>rfl
    | false =>
     have ⟨o,Y,q,_⟩:=(c.E j f).edges
     rw [hpx j f] at Y
     have:j∈Region.ready .any ops l:=mem_ready.2 ⟨N (by rw [u,D];omega) C,o,Y,fun d hdm z=>ihj d.on (q d hdm z) (by have:=q d hdm z;omega)⟩
     rw [hr] at this;cases this
  refine ⟨fun hr=>?_,fun i hi=>?_⟩
  ·have:=hall u O (hdone hr) hs
   match t,ht,this with
   | 0,_,h=>exact h.2
   | 1,_,h=>exact h.1 hr
  ·have ⟨h0,o,Y,hpre⟩:=mem_ready.1 hi
   have r:i < ents.length:=by
    refine Nat.not_le.1 fun hge=>?_
    have ⟨_,t2⟩:=hT i o hge Y
    have:XU (fun j=>l.getD j false) ents.length=0:=Ziq fun j f=>by
     have ⟨d,C,z,e⟩:=t2 j f
     rcases e with rfl | e
     ·exact hpre d C z
     ·exact T d.on (hpre d C z) j e
    omega
   have hil:i < l.size:=by rw [u,D];omega
   have I:=G h0
   have ce:=c.E i r
   have ⟨o',ho',he1,he2⟩:=ce.edges
   rw [hpx i r] at ho'
   obtain rfl:o'=o:=by rw [Y] at ho';exact (Zk ho').symm
   have hanc:∀ j,X7 anc i j=true->l.getD j false=true:=fun j f=>by
    have ⟨d,C,z,h3⟩:=he2 j f
    have:=hpre d C z
    rcases h3 with rfl | h3
    ·exact this
    ·exact T d.on this j h3
   -- who Vs anything with i has come up just if i waits for him
   have hsh:∀ j,j < ents.length->(j=i\/(YN ents i).sh (YN ents j)=true)->l.getD j false=X7 anc i j:=fun j f h=>by
    by_cases e:j=i
    ·subst e
     rw [I]
     cases z:X7 anc j j with
     | false=>rfl
     | true=>exact absurd (c.anc_lt j f j z) (Nat.lt_irrefl _)
    ·rcases c.sh i j r f (Ne.symm e) (h.resolve_left e) with q | q
     ·rw [q,hanc j q]
     ·cases z:X7 anc i j with
      | true=>have:=c.anc_lt i r j z;have:=c.anc_lt j f i q;omega
      | false =>
       cases C:l.getD j false with
       | false=>rfl
       | true=>have:=T j C i q;rw [I] at this;cases this
   have A:∀ j,i < j->j < ents.length->(YN ents i).sh (YN ents j)=true->l.getD j false=false:=fun j S f h=>by
    rw [hsh j f (.inr h)]
    cases z:X7 anc i j with
    | false=>rfl
    | true=>have:=c.anc_lt i r j z;omega
   have ⟨n1,n2,n3⟩:=hneed i r
   have nL:∀ d v,ZQ (YN ents i).L d=some v->ZQ (WX ents nx s fun j=>l.getD j false).L d=some v:=fun d v h=>by
    rw [<- n1 d v h]
    exact RO fun j f g=>hsh j f (.inr (Lp _ _ (.inl (Q8 (by rw [h];rfl) g))))
   have nV:∀ d v,ZQ (YN ents i).V d=some v->ZQ (WX ents nx s fun j=>l.getD j false).V d=some v:=fun d v h=>by
    rw [<- n2 d v h]
    exact RO fun j f g=>hsh j f (.inr (Lp _ _ (.inr (.inr (.inl (Q8 (by rw [h];rfl) g))))))
   have nM:∀ d v,ZQ ((YN ents i).W++(YN ents i).R) d=some v->ZQ (WX ents nx s fun j=>l.getD j false).M d=some v:=fun d v h=>by
    rw [<- n3 d v h]
    refine RO fun j f g=>hsh j f (.inr (Lp _ _ (.inr (.inr (.inr (.inr ?_))))))
    rw [XS] at h
    split at h
    ·rename_i x hx;exact .inl (Q8 (by rw [hx];rfl) g)
    ·exact .inr (.inl (Q8 (by rw [h];rfl) g))
   let l':=l.setIfInBounds i true
   have y:∀ j,l'.getD j false=if j=i then true else l.getD j false:=fun j=>Zjt hil
   have hfr':∀ j,ents.length<=j->l'.getD j false=false:=fun j f=>by rw [y,if_neg (by omega)];exact O j f
   have hcl':∀ j,l'.getD j false=true->∀ k,X7 anc j k=true->l'.getD k false=true:=fun j f k g=>by
    rw [y] at f ⊢
    split
    ·rfl
    ·split at f
     ·rename_i e;subst e;exact hanc k g
     ·exact T j f k g
   have hcnt':XU (fun j=>l'.getD j false) ents.length=m:=by
    have:=Zio (dn:=fun j=>l.getD j false) (dn':=fun j=>l'.getD j false) (n:=ents.length) r I (by simp only [y,if_true]) (fun j f=>by simp only [y,if_neg f])
    omega
   have hgo:∀ {E F w a},Sat X ⟨(YN ents i).dL++(WX ents nx s fun j=>l.getD j false).L,(YN ents i).dM++(WX ents nx s fun j=>l.getD j false).M,
     (YN ents i).dV++(WX ents nx s fun j=>l.getD j false).V,nx⟩ E F w a->Sat X (WX ents nx s fun j=>l'.getD j false) E F w a:=fun {E F w a} hs'=>by
    refine hs'.same rfl (fun d=>?_) (fun d=>?_) (fun d=>?_)
    ·exact ZaD (dl:=fun j=>(YN ents j).dL) r I (fun j f=>by simp only [y,if_neg f]) (by simp only [y,if_true]) fun q j S f K=>A j S f (Lp _ _ (.inr (.inl (Q8 q K))))
    ·exact ZaD (dl:=fun j=>(YN ents j).dM) r I (fun j f=>by simp only [y,if_neg f]) (by simp only [y,if_true]) fun q j S f K=>A j S f (Lp _ _ (.inr (.inr (.inr (.inr (.inr (.inr (Q8 q K))))))))
    ·exact ZaD (dl:=fun j=>(YN ents j).dV) r I (fun j f=>by simp only [y,if_neg f]) (by simp only [y,if_true]) fun q j S f K=>A j S f (Lp _ _ (.inr (.inr (.inr (.inl (Q8 q K))))))
   have hLS:=hl.get i r
   rw [Nat.zero_add] at hLS
   have ⟨o2,ho2,C,hst⟩:=hLS
   obtain rfl:o2=o':=by rw [Y] at ho2;exact (Zk ho2).symm
   unfold wpOp
   simp only [Y]
   rcases hst with ⟨hg,hst⟩ | ⟨hg,hu,hm,hv⟩
   ·rw [QV hs (ZjA nL hg),if_pos rfl]
    let p:Nat->Bool:=fun k => !(Nat.ble (YN ents i).k0 k && Nat.blt k (YN ents i).k1)
    have hp:∀ k,p k=true->¬ ((YN ents i).k0<=k/\k < (YN ents i).k1):=fun k g hc=>by
     simp only [p,Bool.not_eq_true',Bool.and_eq_false_iff] at g
     rcases g with g | g
     ·rw [Nat.ble_eq_true_of_le hc.1] at g;cases g
     ·unfold Nat.blt at g;rw [Nat.ble_eq_true_of_le hc.2] at g;cases g
    have hp':∀ k,¬ ((YN ents i).k0<=k/\k < (YN ents i).k1)->p k=true:=fun k g=>by
     simp only [p,Bool.not_eq_true',Bool.and_eq_false_iff]
     by_cases q:(YN ents i).k0<=k
     ·right
      cases z:Nat.blt k (YN ents i).k1 with
      | false=>rfl
      | true=>exact absurd ⟨q,YT z⟩ g
     ·left
      cases z:Nat.ble (YN ents i).k0 k with
      | false=>rfl
      | true=>exact absurd (Ze z) q
    have U:∀ k,k < s.nx->p k=true:=fun k g=>hp' k fun hc=>by have:=ce.lo;omega
    have hpj:∀ j,j < ents.length->l.getD j false=true->∀ k,RU ents anc s.nx j k=true->p k=true:=fun j f hdj k g=>by
     unfold RU at g
     rw [Bool.or_eq_true] at g
     rcases g with g | g
     ·exact U k (YT g)
     ·have ⟨j',hj',g⟩:=List.any_eq_true.1 g
      have hj':=List.mem_range.1 hj'
      rw [Zc,Zc,Bool.or_eq_true] at g
      obtain ⟨⟨hk1,hk2⟩,hk3⟩:=g
      have hdj':l.getD j' false=true:=by
       rcases hk1 with h | h
       ·rw [Zd h];exact hdj
       ·exact T j hdj j' h
      have hne:i≠j':=fun e=>by subst e;rw [I] at hdj';cases hdj'
      have:=c.rg i j' r hj' hne
      have K:=Ze hk2
      have h3:=YT hk3
      exact hp' k fun hc=>by omega
    refine .inl (Oper.wp_imp (fun a' w' hq=>?_) (LS.frame hs C hst ce.wf nL nV nM ce.W (Nat.le_trans hnk ce.lo) ce.le ce.hi (p:=p) hp ?_ ?_ ?_))
    ·have ⟨E',F',hs'⟩:=hq
     exact ih l' E' F' w' a' (by simp [l',u]) hfr' hcl' hcnt' (hgo hs')
    ·intro d v h
     rcases Gq h with h | ⟨j,f,q,K⟩
     ·exact SV.kp_of_kb U (Z.hL d v h)
     ·exact SV.kp_mono (hpj j f q) ((c.E j f).dL d v K)
    ·intro d v h
     rcases Gq h with h | ⟨j,f,q,K⟩
     ·exact ⟨U d (Z.hM d v h).1,MO.kp_of_kb U (Z.hM d v h).2⟩
     ·exact ⟨hpj j f q d ((c.E j f).dM d v K).1,MO.kp_mono (hpj j f q) ((c.E j f).dM d v K).2⟩
    ·intro d v h
     rcases Gq h with h | ⟨j,f,q,K⟩
     ·exact ⟨U d (Z.hV d v h).1,VF.kp_of_kb U (Z.hV d v h).2⟩
     ·exact ⟨hpj j f q d ((c.E j f).dV d v K).1,VF.kp_mono (hpj j f q) ((c.E j f).dV d v K).2⟩
   ·rw [QV hs (ZjA nL hg),if_neg (by simp)]
    exact ih l' E F w _ (by simp [l',u]) hfr' hcl' hcnt' (hgo (LS.skipped hs C hu hm hv))
theorem ZrL (x:AllLS X ops 0 ents) (c:Chk ops ents anc s.nx nx) (y:M9 ents anc s=Lz ents) (k:s.Wf) (m:X.nk<=s.nx) {todo:Act->World->Prop}
  (f:∀ E F w a,Sat X (WX ents nx s fun _=>true) E F w a->todo a w) (d:Nat) (l:Array Bool) (E:Env) (F:YB) (w:World) (a:Act) (u:l.size=ops.size)
  (q:∀ i,l.getD i false=true->∀ j,X7 anc i j=true->l.getD j false=true) (g:XU (fun j=>l.getD j false) ents.length=d) (r:Sat X (WX ents nx s fun j=>l.getD j false) E F w a) :
  wpAny X.P .any ops (fun e z w'=>e=.normal/\todo z w') d l a w :=
 ZkU (t:=0) (Nat.zero_le _) c.size (fun _ _=>rfl) (fun i o h A=>absurd (Array.getElem?_eq_some_iff.1 A).1 (by rw [c.size];omega)) x c y k m (fun E F w a r=>⟨rfl,f E F w a r⟩) d l E F w a u
  (fun j v=>by rw [<- c.size,<- u] at v;simp [Nat.not_lt.2 v]) q g r
end
end
section
variable [LxP]
section
variable {X:Ctx} {ops:Array Oper} {tt:List (Nat × TD)} {i:Nat} {e:Ent}
end
end
section
variable [LxP]
def W1 (s:ByteArray):List Int:=s.data.toList.map fun b=>(b.toNat:Int)
def ZaY (l:List Int):ByteArray:=l.foldl (fun r n=>r.push (UInt8.ofNat n.toNat)) ByteArray.empty
theorem SP (s:ByteArray):(W1 s).length=s.size:=by
 unfold W1
 rw [List.length_map,Array.length_toList];rfl
theorem ZrV {F:YB} {w:World} (k:IntKind) (l:List Int):RowL (rI k) F w l (l.map (Value.int k)):=by
 refine ⟨by rw [List.length_map];exact (Nat.mul_one _).symm,fun i x d=>⟨[.int k x],rfl,fun j v c=>?_⟩⟩
 cases j with
 | zero =>
  simp only [List.getElem?_cons_zero,Option.some.injEq] at c
  subst c
  show (l.map (Value.int k))[i * 1+0]? = _
  rw [Nat.mul_one,Nat.add_zero,List.getElem?_map,d];rfl
 | succ j=>simp at c
section
variable {X:Ctx} {s:St} {ops:Array Oper} {todo:Act->World->Prop} {tt:List (Nat × TD)} {E:Env} {F:YB} {w:World} {a:Act}
theorem Zsr {b:ByteArray}:Ui X s (rI .u8) (W1 b) (.s b):=fun E F w a _=>by
 refine ⟨(W1 b).map (Value.int .u8),ZrV _ _,fun w'=>by simp [Builtin.lenOf,ZZ,SP],fun m w' c _=>?_,fun u d=>by obtain ⟨n,_,rfl⟩:=List.mem_map.1 d;rfl⟩
 rw [SP] at c
 simp only [Builtin.firstCells,ZZ,Sem.run_pure]
 congr 1
 apply Array.ext'
 have f:(b.extract 0 m).data.toList=b.data.toList.take m:=by
  rw [ByteArray.data_extract,Array.toList_extract];simp [List.extract]
 rw [Array.toList_map,f]
 show _=(List.take (m * 1) _)
 rw [Nat.mul_one]
 simp only [W1,List.map_take,List.map_map]
 rfl
theorem WPr.val {i:Nat} {rest:List Nat} {o:Oper} {d:Nat} {v:SV} (c:∀ E F w a,Sat X s E F w a->(execOp a.eval o).run X.P w=.ok (.value (Yc E v)) w/\v.kb s.nx)
  (g:ops[i]? = some o) (h:YO ops s.L o=some true) (j:o.dst=some d) (k:Nat.blt d X.fn.ntmps=true) (l:WPr X ops rest todo ⟨(d,v)::s.L,s.M,s.V,s.nx⟩):WPr X ops (i::rest) todo s:=by
 refine WPr.op g h (fun E F w a f=>?_) l
 have ⟨m,q⟩:=c E F w a f
 refine XW m ⟨E,F,?_⟩
 rw [j]
 exact f.setL q (YT k)
theorem WPr.ax {α:Type} (f:α->SC) (xs:List α) {e:α} {i:Nat} {rest:List Nat} {o:Oper} {t el len d:Nat} {x y:Operand} {ik:IntKind} {n:Int}
    (hi:ZW xs n=some e) (u:ops[i]? = some o) (v:YO ops s.L o=some true) (j:o.op=.index t x y) (z:o.dst=some d) (A:X.P.underlying t=some (.array len el))
    (m:(X.P.info? el).map (·.size)=some 1) (C:XY X.P el=false) (k:(X.P.underlying el).isSome=true)
    (D:Yd s.L x=some (.a (xs.map f))) (G:xs.length=len) (I:Yd s.L y=some (.c (.i ik n))) (K:Nat.blt d X.fn.ntmps=true)
    (N:WPr X ops rest todo ⟨(d,.c (f e))::s.L,s.M,s.V,s.nx⟩):WPr X ops (i::rest) todo s:=by
  refine WPr.val (fun E F w a q=>?_) u v z K N
  have ⟨O,R,r⟩:=SX hi
  have ⟨S,T⟩:=q.eval D
  have ⟨U,_⟩:=q.eval I
  have ⟨ds,l⟩:=Option.isSome_iff_exists.1 k
  have g:f e∈xs.map f:=List.mem_map.2 ⟨e,Zb r,rfl⟩
  refine ⟨?_,T _ g⟩
  simp only [execOp,j,S,U,Yc,ZZ]
  refine Y3 ?_
  have h:=ZaQ w l
  rw [C] at h
  have hz:(sizeOf el).run X.P w=.ok 1 w:=by
    rw [Zl] at m
    have ⟨W,Y,Z⟩:=m
    simp [sizeOf,typeInfo,Y,Z]
  have hc:(0<=n/\n < (len:Int)):=⟨O,by rw [<- G];exact R⟩
  simp only [Instr.index,asIntOf,Sem.run_bind,Sem.run_pure,Result.andThen_ok,Xb A,hc,and_self,if_true,hz,part,h,Bool.false_eq_true,if_false,Nat.mul_one]
  have:(((xs.map f).map (ZZ E)).toArray)[n.toNat]? = some (ZZ E (f e)):=by simp [r]
  rw [this]
  rfl
theorem WPr.axb (j:Nat) {i:Nat} {rest:List Nat} {o:Oper} {t el len es d k off:Nat} {x y:Operand} {ik:IntKind} {n:Int}
    (m:n=(j:Int)) (q:ops[i]? = some o) (r:YO ops s.L o=some true) (f:o.op=.indexAddr t x y) (u:o.dst=some d) (v:X.P.underlying t=some (.array len el))
    (h:(X.P.info? el).map (·.size)=some es) (g:Nat.blt j len=true)
    (z:Yd s.L x=some (.c (.bp k off))) (A:Yd s.L y=some (.c (.i ik n))) (C:Nat.blt d X.fn.ntmps=true)
    (D:WPr X ops rest todo ⟨(d,.c (.bp k (off+j * es)))::s.L,s.M,s.V,s.nx⟩):WPr X ops (i::rest) todo s:=by
  refine WPr.val (fun E F w a l=>?_) q r u C D
  have ⟨G,I⟩:=l.eval z
  have ⟨K,_⟩:=l.eval A
  refine ⟨?_,I⟩
  simp only [execOp,f,G,K,Yc,ZZ]
  refine Y3 ?_
  have S:(sizeOf el).run X.P w=.ok es w:=by
    rw [Zl] at h
    have ⟨N,O,R⟩:=h
    simp [sizeOf,typeInfo,O,R]
  have:=YT g
  subst m
  have T:(0<=(j:Int)/\(j:Int) < (len:Int)):=⟨by omega,by omega⟩
  simp only [Instr.indexAt,asIntOf,Sem.run_bind,Sem.run_pure,Result.andThen_ok,Xb v,Instr.sureAddr,T,and_self,if_true,S,WS,Int.toNat_natCast]
theorem WPr.axp (j:Nat) {i:Nat} {rest:List Nat} {o:Oper} {t el len es d k off:Nat} {x y:Operand} {ik:IntKind} {n:Int}
    (z:n=(j:Int)) (A:ops[i]? = some o) (C:YO ops s.L o=some true) (l:o.op=.indexAddr t x y) (D:o.dst=some d) (G:X.P.underlying t=some (.array len el))
    (v:(X.P.info? el).map (·.size)=some es) (r:Nat.blt j len=true)
    (I:Yd s.L x=some (.c (.px k off))) (hV:(∃ cs,ZQ s.V k=some (.pl cs))\/∃ q m,ZQ s.V k=some (.el q m)) (K:Yd s.L y=some (.c (.i ik n))) (N:Nat.blt d X.fn.ntmps=true)
    (O:WPr X ops rest todo ⟨(d,.c (.px k (off+j * es)))::s.L,s.M,s.V,s.nx⟩):WPr X ops (i::rest) todo s:=by
  refine WPr.val (fun E F w a f=>?_) A C D N O
  have ⟨R,S⟩:=f.eval I
  have ⟨T,_⟩:=f.eval K
  refine ⟨?_,S⟩
  have u:∃ b g,E.ρ k=.pointer (some ⟨b,g,none⟩):=by
    rcases hV with ⟨cs,h⟩ | ⟨q,m,h⟩
    · have ⟨b,g,_,_,_,h,_⟩:=f.hV k _ h;exact ⟨b,g,h⟩
    · exact (f.hV k _ h).2
  have ⟨b,g,u⟩:=u
  simp only [execOp,l,R,T,Yc,ZZ,u,WC]
  refine Y3 ?_
  have Z:(sizeOf el).run X.P w=.ok es w:=by
    rw [Zl] at v
    have ⟨U,W,Y⟩:=v
    simp [sizeOf,typeInfo,W,Y]
  have:=YT r
  subst z
  have hc:(0<=(j:Int)/\(j:Int) < (len:Int)):=⟨by omega,by omega⟩
  simp only [Instr.indexAt,asIntOf,Sem.run_bind,Sem.run_pure,Result.andThen_ok,Xb G,Instr.sureAddr,hc,and_self,if_true,Z,WS,Int.toNat_natCast,Nat.add_assoc]
theorem WPr.pnil (f:Bool) {i:Nat} {rest:List Nat} {o:Oper} {t el l d k off:Nat} {x y:Operand}
  (m:ops[i]? = some o) (r:YO ops s.L o=some true) (h:o.op=.binOp (bif f then .neq else .eql) t x y l) (u:o.dst=some d) (z:X.P.underlying t=some (.pointer el))
  (A:Yd s.L x=some (.c (.bp k off))) (C:Yd s.L y=some (.c (.v (.pointer none)))) (D:Nat.blt d X.fn.ntmps=true)
  (G:WPr X ops rest todo ⟨(d,.c (.b f))::s.L,s.M,s.V,s.nx⟩):WPr X ops (i::rest) todo s:=by
 refine WPr.val (fun E F w a j=>?_) m r u D G
 have ⟨I,N⟩:=j.eval A
 have ⟨K,_⟩:=j.eval C
 refine ⟨?_,trivial⟩
 simp only [execOp,h,I,K,Yc,ZZ]
 refine Y3 ?_
 have g:(Op.equal t (.pointer (some ⟨E.β k,off,none⟩)) (.pointer none)).run X.P w=.ok false w:=by
  show (Op.equalIn (9999+1) t _ _).run X.P w=.ok false w
  generalize 9999=q
  simp only [Op.equalIn,Sem.run_bind,Xb z,Result.andThen_ok,Sem.run_pure]
 cases f with
 | false =>
  simp only [cond_false,eqGuard,Sem.run_bind,Sem.run_pure,Result.andThen_ok]
  show (do pure (Value.bool (<- Op.equal t _ _)):Sem Value).run X.P w=_
  simp only [Sem.run_bind,g,Result.andThen_ok,Sem.run_pure]
 | true =>
  simp only [cond_true,eqGuard,Sem.run_bind,Sem.run_pure,Result.andThen_ok]
  show (do pure (Value.bool (!(<- Op.equal t _ _))):Sem Value).run X.P w=_
  simp only [Sem.run_bind,g,Result.andThen_ok,Sem.run_pure,Bool.not_false]
theorem Sat.moveM {m m':MO} {k K:Nat} (z:Sat X s E F w a) (y:ZQ s.M k=some m) (A:ZQ s.M K=none) (C:K < s.nx) (D:m'.ok E F w K) (G:m'.kb s.nx)
  (r:∀ b,m'.fp E K b->m.fp E k b) (I:m'.isFresh=true->∀ b,m'.fp E K b->X.n0<=b):Sat X ⟨s.L,(K,m')::(k,.gone)::s.M,s.V,s.nx⟩ E F w a:=by
 have R:K≠k:=fun e=>by subst e;rw [y] at A;cases A
 have g:=z.drop y
 have W:ZQ ((k,MO.gone)::s.M) K=none:=by rw [YG,if_neg (Ne.symm R)];exact A
 exact { g with
  wf:=⟨g.wf.hL,fun j c h=>by
   rw [YG] at h
   split at h
   ·rename_i e;cases h;subst e;exact ⟨C,G⟩
   ·exact g.wf.hM j c h,g.wf.hV⟩
  hM:=fun j c h=>by
   rw [YG] at h
   split at h
   ·rename_i e;cases h;subst e;exact D
   ·exact g.hM j c h
  dis:=fun j S T c u l v b f d=>by
   have key:∀ q c,q≠K->ZQ ((k,MO.gone)::s.M) q=some c->∀ b,m'.fp E K b->¬ c.fp E q b:=fun q c Y h b f d=>by
    rw [YG] at h
    split at h
    ·cases h;exact d
    ·rename_i N;exact z.dis k q m c y h N b (r b f) d
   rw [YG] at u l
   split at u
   ·rename_i O;cases u;subst O
    split at l
    ·rename_i x;exact v x
    ·rename_i x;exact key S c (Ne.symm x) l b f d
   ·rename_i O
    split at l
    ·rename_i x;cases l;subst x;exact key j T (Ne.symm O) u b d f
    ·exact g.dis j S T c u l v b f d
  mF:=fun j c h b f=>by
   rw [YG] at h
   split at h
   ·rename_i e;cases h;subst e;exact z.mF k m y b (r b f)
   ·exact g.mF j c h b f
  fresh:=fun j c h U b f=>by
   rw [YG] at h
   split at h
   ·rename_i e;cases h;subst e;exact I U b f
   ·exact g.fresh j c h U b f }
theorem WPr.slb {α:Type} {R:TRep α} (O:Opn R) (xs:List α) {i:Nat} {rest:List Nat} {o:Oper} {t el len d k ty:Nat} {x:Operand} {cs:List SC}
    (D:MP O (ZQ s.V) xs cs) (G:ops[i]? = some o) (I:YO ops s.L o=some true) (u:o.op=.slice t x none none none) (N:o.dst=some d)
    (S:X.P.underlying t=some (.array len el)) (A:(X.P.info? el).map (·.size)=some R.sz)
    (T:Yd s.L x=some (.c (.bp k 0))) (hM:ZQ s.M k=some (.box cs ty)) (C:(Nat.blt d X.fn.ntmps && Nat.beq xs.length len && (ZQ s.M s.nx).isNone)=true)
    (U:WPr X ops rest todo ⟨(d,.c (.sl s.nx))::s.L,(s.nx,.own R xs false)::(k,.gone)::s.M,s.V,s.nx+1⟩):WPr X ops (i::rest) todo s:=by
  refine WPr.op G I (fun E F w a m=>?_) U
  simp only [Zc,Option.isNone_iff_eq_none] at C
  obtain ⟨⟨Y,r⟩,Z⟩:=C
  have r:=Zd r
  have ⟨e1,_⟩:=m.eval T
  have hz:∀ w',(sizeOf el).run X.P w'=.ok R.sz w':=fun w'=>by
    rw [Zl] at A
    have ⟨inf,h3,h4⟩:=A
    simp [sizeOf,typeInfo,h3,h4]
  have g:w.heap[E.β k]? = some (.cells (cs.map (ZZ E)).toArray ty (0,0)):=m.hM k _ hM
  have l:=B5 O (E:=E) (F:=F) (w:=w) (fun k f h=>m.hV k f h) D
  have q:(execOp a.eval o).run X.P w=.ok (.value (.slice (some ⟨E.β k,0,none⟩) len len)) w:=by
    simp only [execOp,u,e1,Yc,ZZ]
    refine Y3 ?_
    have g:=Zfy (P:=X.P) (w:=w) (is:=false) (len:=len) (cap:=len) (lo:=none) (hi:=none) (p:=(0,len)) (Zo _) (by simp [W7])
    simp only [Option.map_none] at g
    simp only [Instr.sliceAt,Option.map_none,Sem.run_bind,Xb S,Result.andThen_ok,Instr.sureAddr,Sem.run_pure,g,hz,WS,Nat.zero_mul,Nat.add_zero,ite_self,Nat.sub_zero]
  refine XW q ?_
  have hE:E.Eqb s.nx (E.setρ s.nx (.slice (some ⟨E.β k,0,none⟩) len len)):=E.eqb_setρ _ _ _ (Zo _)
  have y:(E.setρ s.nx (.slice (some ⟨E.β k,0,none⟩) len len)).ρ s.nx=.slice (some ⟨E.β k,0,none⟩) len len:=by simp [Env.setρ]
  have s1:=(m.env hE (fun j=>by
    simp only [Env.setρ];split
    · rfl
    · exact m.one j)).nxt (n:=s.nx+1) (Nat.le_succ _)
  have s2:=s1.moveM (K:=s.nx) (m':=.own R xs false) hM Z (Nat.lt_succ_self _) (by
      show OwnR R F w xs ((E.setρ s.nx _).ρ s.nx)
      rw [y]
      refine .inr ⟨E.β k,0,len,_,ty,(0,0),by rw [r],by omega,?_,ZfQ _,g,l.row fun j v W=>by rw [Nat.zero_add];simpa using W⟩
      rw [List.size_toArray,l.1,r,Nat.zero_add];exact Zo _) trivial (fun b g=>by
      have g:YH ((E.setρ s.nx _).ρ s.nx)=some b:=g
      rw [y] at g
      cases g
      exact rfl) (fun h=>by cases h)
  have z:=s2.setL (d:=d) (v:=.c (.sl s.nx)) (Nat.lt_succ_self _) (YT Y)
  simp only [Yc,ZZ] at z
  rw [y] at z
  rw [N]
  exact ⟨_,F,z⟩
theorem WPr.cvs {i:Nat} {rest:List Nat} {o:Oper} {t u el d:Nat} {x:Operand} {g:SC} (ys:List Int) (k:Ui X s (rI .u8) ys g)
  (K:(match g with | .nil | .sl _=>true | _=>false)=true) (N:ops[i]? = some o) (O:YO ops s.L o=some true) (l:o.op=.convert t u x) (R:o.dst=some d)
  (S:X.P.underlying t=some (.slice el)) (T:X.P.underlying u=some .string) (U:X.P.underlying el=some (.int .u8))
  (W:Yd s.L x=some (.c g)) (m:∀ E F w a,Sat X s E F w a->∃ b c,ZZ E g=.slice b ys.length c) (Y:Nat.blt d X.fn.ntmps=true)
  (Z:WPr X ops rest todo ⟨(d,.c (.s (ZaY ys)))::s.L,s.M,s.V,s.nx⟩):WPr X ops (i::rest) todo s:=by
 refine WPr.val (fun E F w a q=>?_) N O R Y Z
 have ⟨e1,_⟩:=q.eval W
 refine ⟨?_,trivial⟩
 have ⟨b,c,D⟩:=m E F w a q
 have ⟨r,f,_,v,_⟩:=k E F w a q
 have h:=v ys.length w (Zo _) rfl
 have A:r=ys.map (Value.int .u8):=by
  apply List.ext_getElem?
  intro j
  by_cases G:j < ys.length
  ·have ⟨vs,z,h3⟩:=f.2 j _ (Za G)
   have z:vs=[.int .u8 ys[j]]:=z
   subst z
   have:=h3 0 _ rfl
   have e:j * (rI .u8).sz+0=j:=by show j * 1+0=j;omega
   rw [e] at this
   rw [this,List.getElem?_map,Za G];rfl
  ·have hl:=f.1
   have e:ys.length * (rI .u8).sz=ys.length:=Nat.mul_one _
   rw [e] at hl
   rw [List.getElem?_eq_none (by omega),List.getElem?_eq_none (by simp;omega)]
 simp only [execOp,l]
 rw [e1]
 simp only [Yc,D]
 refine Y3 ?_
 rw [run_convert_bytes_string w t u el b ys.length c S U T]
 rw [D] at h
 have e2:(r.take (ys.length * (rI .u8).sz))=r:=by rw [<- f.1,List.take_length]
 rw [e2,A] at h
 cases b with
 | none =>
  simp only [Builtin.firstCells,Sem.run_pure,Result.ok.injEq,and_true] at h
  have:ys=[]:=by
   cases ys with
   | nil=>rfl
   | cons y ys=>simp at h
  subst this
  simp [Conv.bytesToString,ZaY];rfl
 | some I =>
  simp only [Builtin.firstCells] at h
  have C:(loadCells I ys.length).run X.P w=.ok (ys.map (Value.int .u8)).toArray w:=by
   have:ys.length * (rI .u8).sz=ys.length:=Nat.mul_one _
   rw [this] at h;exact h
  exact run_bytesToString w I ys.length c ys C
theorem Rf {α:Type} {R:TRep α} {ys:List α} {k:Nat} (h:ZQ s.V k=some (.sl R ys)):∀ E F w a,Sat X s E F w a->∃ b c,ZZ E (.sl k)=.slice b ys.length c:=fun E F w a d=>Zd7 (d.hV k _ h)
theorem shO {α:Type} {R:TRep α} {ys:List α} {k:Nat} {fr:Bool} (h:ZQ s.M k=some (.own R ys fr)):∀ E F w a,Sat X s E F w a->∃ b c,ZZ E (.sl k)=.slice b ys.length c:=fun E F w a d=>HZ (d.hM k _ h)
theorem WPr.nilc {α:Type} {R:TRep α} {xs:List α} (f:Bool) {i:Nat} {rest:List Nat} {o:Oper} {t el G d k:Nat} {x y:Operand}
  (I:ZQ s.V k=some (.sl R xs)\/∃ fr,ZQ s.M k=some (.own R xs fr)) (K:ops[i]? = some o) (N:YO ops s.L o=some true) (u:o.op=.binOp (bif f then .neq else .eql) t x y G) (O:o.dst=some d) (S:X.P.underlying t=some (.slice el))
  (T:Yd s.L x=some (.c (.sl k))) (U:Yd s.L y=some (.c .nil)) (W:Nat.blt d X.fn.ntmps=true)
  (Y:∀ b:Bool,(b=true->xs=[])->WPr X ops rest todo ⟨(d,.c (.b (bif f then !b else b)))::s.L,s.M,s.V,s.nx⟩):WPr X ops (i::rest) todo s:=by
 intro E F w a j
 have ⟨Z,_⟩:=j.eval T
 have ⟨e2,_⟩:=j.eval U
 have z:∃ (b:Bool) (p:Option Addr) (l c:Nat),ZZ E (.sl k)=.slice p l c/\p.isNone=b/\(b=true->xs=[]):=by
  rcases I with h | ⟨fr,h⟩
  ·rcases (j.hV k _ h:SlR R F w xs (E.ρ k)) with ⟨g,D,c',A⟩ | ⟨b,off,cap,arr,C,fz,g,_⟩
   ·exact ⟨D.isNone,D,0,c',A,rfl,fun _=>g⟩
   ·exact ⟨false,_,_,_,g,rfl,fun h=>by cases h⟩
  ·rcases (j.hM k _ h:OwnR R F w xs (E.ρ k)) with ⟨g,A⟩ | ⟨b,off,cap,arr,C,fz,g,_⟩
   ·exact ⟨true,none,0,0,A,rfl,fun _=>g⟩
   ·exact ⟨false,_,_,_,g,rfl,fun h=>by cases h⟩
 have ⟨b,p,l,c,z,hp,hb⟩:=z
 have m:(execOp a.eval o).run X.P w=.ok (.value (.bool (bif f then !b else b))) w:=by
  simp only [execOp,u,Z,e2,Yc]
  rw [z]
  simp only [ZZ]
  refine Y3 ?_
  have r:(Op.equal t (.slice p l c) (.slice none 0 0)).run X.P w=.ok b w:=by
   show (Op.equalIn (9999+1) t _ _).run X.P w=_
   generalize 9999=q
   subst hp
   cases p<;>simp only [Op.equalIn,Sem.run_bind,Xb S,Result.andThen_ok,Sem.run_pure,Option.isNone_none,Option.isNone_some]
  cases f with
  | false =>
   simp only [cond_false,eqGuard,Sem.run_bind,Sem.run_pure,Result.andThen_ok]
   show (do pure (Value.bool (<- Op.equal t _ _)):Sem Value).run X.P w=_
   simp only [Sem.run_bind,r,Result.andThen_ok,Sem.run_pure]
  | true =>
   simp only [cond_true,eqGuard,Sem.run_bind,Sem.run_pure,Result.andThen_ok]
   show (do pure (Value.bool (!(<- Op.equal t _ _))):Sem Value).run X.P w=_
   simp only [Sem.run_bind,r,Result.andThen_ok,Sem.run_pure]
 have hk:=Y b hb E F w _ (j.setL (d:=d) (v:=.c (.b (bif f then !b else b))) trivial (YT W))
 simp only [wpOps,K,QV j N,if_true]
 refine .inl (XW m ?_)
 rw [O]
 exact hk
end
end
section
variable [LxP]
theorem RowL.take {α:Type} {R:TRep α} {F w} {xs:List α} {k:List Value} (h:RowL R F w xs k) {m:Nat} (l:m<=xs.length):RowL R F w (xs.take m) (k.take (m * R.sz)):=by
 have f:m * R.sz<=xs.length * R.sz:=Nat.mul_le_mul_right _ l
 refine ⟨by rw [List.length_take,List.length_take,h.1,Nat.min_eq_left f,Nat.min_eq_left l],fun i x c=>?_⟩
 rw [List.getElem?_take] at c
 split at c
 ·rename_i d
  have ⟨u,r,y⟩:=h.2 i x c
  refine ⟨u,r,fun j v q=>?_⟩
  have g:=(List.getElem?_eq_some_iff.1 q).1
  rw [R.len r] at g
  have:(i+1) * R.sz<=m * R.sz:=Nat.mul_le_mul_right _ d
  rw [Nat.add_mul] at this
  rw [List.getElem?_take,if_pos (by omega)]
  exact y j v q
 ·cases c
theorem RowL.drop {α:Type} {R:TRep α} {F w} {xs:List α} {c:List Value} (h:RowL R F w xs c) (m:Nat):RowL R F w (xs.drop m) (c.drop (m * R.sz)):=by
 refine ⟨by rw [List.length_drop,List.length_drop,h.1,Nat.sub_mul],fun i x d=>?_⟩
 rw [List.getElem?_drop] at d
 have ⟨g,k,l⟩:=h.2 (m+i) x d
 refine ⟨g,k,fun j v f=>?_⟩
 have:=l j v f
 rw [List.getElem?_drop,show m * R.sz+(i * R.sz+j)=(m+i) * R.sz+j by rw [Nat.add_mul];omega]
 exact this
def Gl (h:Option Int) (len:Nat):Nat:=match h with | some h=>h.toNat | none=>len
theorem Rg (l h:Option Int) (sz:Nat) (b:Option Addr) (len cap:Nat) :
    Wn l h sz (.slice b len cap)=.slice (if cap=(l.getD 0).toNat then b else b.map (·.add ((l.getD 0).toNat * sz))) (Gl h len-(l.getD 0).toNat) (cap-(l.getD 0).toNat):=by cases h<;>rfl
theorem BW {lo hi:Option Int} {len:Nat} {p:Nat × Nat} (h:W7 lo hi len=some p):p.1=(lo.getD 0).toNat/\p.2=Gl hi len:=by
 have ⟨_,_,_,c⟩:=QK h
 rw [c]
 cases hi<;>simp [Gl]
theorem OwnR.sub {α:Type} {R:TRep α} {F w} {xs:List α} {v:Value} {l h:Option Int} {p:Nat × Nat} (x:OwnR R F w xs v) (k:W7 l h xs.length=some p) :
  OwnR R F w ((xs.take p.2).drop p.1) (Wn l h R.sz v):=by
 have ⟨D,G,I,m⟩:=QK k
 have ⟨f,d⟩:=BW k
 have A:p.1<=p.2:=by rw [m];simp;omega
 have g:p.2<=xs.length:=by rw [m];simp;omega
 have c:((xs.take p.2).drop p.1).length=p.2-p.1:=by simp;omega
 rcases x with ⟨rfl,rfl⟩ | ⟨b,off,cap,arr,el,fz,rfl,K,y,q,r,z⟩
 ·simp at g
  refine .inl ⟨by simp,?_⟩
  have j:p.1=0:=by omega
  have C:p.2=0:=by omega
  simp only [List.length_nil] at d
  rw [Rg,<- f,<- d,j,C]
  rfl
 ·rw [Rg,<- f,<- d]
  by_cases u:cap=p.1
  ·have j:(xs.take p.2).drop p.1=[]:=List.eq_nil_of_length_eq_zero (by rw [c];omega)
   rw [if_pos u]
   refine .inr ⟨b,off,cap-p.1,arr,el,fz,by rw [c],by rw [c];omega,?_,q,r,by rw [j];exact Row.empty⟩
   have:cap-p.1=0:=by omega
   rw [this,Nat.zero_mul]
   exact Nat.le_trans (Nat.le_add_right _ _) y
  ·rw [if_neg u]
   refine .inr ⟨b,off+p.1 * R.sz,cap-p.1,arr,el,fz,by rw [c];simp [WS],by rw [c];omega,?_,q,r,z.sub p.1 p.2⟩
   have:p.1 * R.sz+(cap-p.1) * R.sz=cap * R.sz:=by rw [<- Nat.add_mul];congr 1;omega
   omega
theorem Znz {l h:Option Int} {sz b:Nat} {v:Value} (c:YH (Wn l h sz v)=some b):YH v=some b:=by
 unfold Wn at c
 split at c
 ·rename_i a len cap
  have d:∀ (a:Addr) n,(a.add n).block=a.block:=fun a n=>by unfold Addr.add;split<;>rfl
  cases a with
  | none=>split at c<;>cases c
  | some a =>
   split at c
   ·exact c
   ·simp only [Option.map_some,YH,Option.some.injEq,d] at c ⊢;exact c
 ·exact c
section
variable {X:Ctx} {s:St} {ops:Array Oper} {todo:Act->World->Prop} {tt:List (Nat × TD)} {E:Env} {F:YB} {w:World} {a:Act}
theorem WPr.vw {α:Type} {R:TRep α} (htt:TTOk X.P tt) {i:Nat} {rest:List Nat} {o:Oper} {t:TypeId} {z:TD} {x:Operand} {lo hi:Option Operand} {l h:Option (IntKind × Int)} {d k:Nat} {fr:Bool} {xs zs:List α}
    (A:lsl xs (l.map (·.2)) (h.map (·.2))=some zs) (Z:ops[i]? = some o) (hg:YO ops s.L o=some true) (C:o.op=.slice t x lo hi none) (hd:o.dst=some d)
    (ht:ZQ tt t=some z) (hx:Yd s.L x=some (.c (.sl k))) (hM:ZQ s.M k=some (.own R xs fr)) (D:X9 s.L lo=some l) (G:X9 s.L hi=some h)
    (y:(Nat.blt d X.fn.ntmps && Nat.beq z.kd 6 && Nat.beq z.es R.sz)=true)
    (kk:WPr X ops rest todo ⟨(d,.c (.sl s.nx))::s.L,s.M,(s.nx,.vw k (l.map (·.2)) (h.map (·.2)) R.sz)::s.V,s.nx+1⟩):WPr X ops (i::rest) todo s:=by
  refine WPr.op Z hg (fun E F w a m=>?_) kk
  simp only [Zc] at y
  obtain ⟨⟨c1,c2⟩,I⟩:=y
  have I:=Zd I
  have ⟨e1,_⟩:=m.eval hx
  have ⟨el,hu,K⟩:=(htt.get ht).sliceOf c2
  have T:OwnR R F w xs (E.ρ k):=m.hM k _ hM
  unfold Kx.lsl at A
  rw [Zl] at A
  obtain ⟨p,N,rfl⟩:=A
  have ⟨q1,q2,q3,q4⟩:=QK N
  have ⟨O,S⟩:=BW N
  have g:∃ b c,E.ρ k=.slice b xs.length c/\xs.length<=c:=by
    rcases T with ⟨rfl,q⟩ | ⟨b',off,cap,arr,el,fz,q,y,_⟩
    · exact ⟨none,0,q,Zo _⟩
    · exact ⟨_,_,q,y⟩
  have ⟨b,c,q,g⟩:=g
  have r:(execOp a.eval o).run X.P w=.ok (.value (Wn (l.map (·.2)) (h.map (·.2)) R.sz (E.ρ k))) w:=by
    simp only [execOp,C,e1,Yc,ZZ,q,MY m D,MY m G,Option.map_none]
    refine Y3 ?_
    rw [Zld hu (K w) g N,I,Rg,<- O,<- S]
  refine XW r ?_
  have W:E.Eqb s.nx (E.setρ s.nx (Wn (l.map (·.2)) (h.map (·.2)) R.sz (E.ρ k))):=E.eqb_setρ _ _ _ (Zo _)
  have Y:(E.setρ s.nx (Wn (l.map (·.2)) (h.map (·.2)) R.sz (E.ρ k))).ρ s.nx=Wn (l.map (·.2)) (h.map (·.2)) R.sz (E.ρ k):=by simp [Env.setρ]
  have u:=(m.wf.hM k _ hM).1
  have s1:=m.env W (fun j=>by
    simp only [Env.setρ];split
    · rw [q];rfl
    · exact m.one j)
  have s2:=s1.addV (f:=.vw k (l.map (·.2)) (h.map (·.2)) R.sz) (by
    show _=Wn _ _ _ _
    rw [Y,(W k u).1]) (Nat.lt_succ_of_lt u)
  have U:=s2.setL (d:=d) (v:=.c (.sl s.nx)) (Nat.lt_succ_self _) (YT c1)
  simp only [Yc,ZZ] at U
  rw [Y] at U
  rw [hd]
  exact ⟨_,F,U⟩
theorem ZlJ {α:Type} {R:TRep α} {xs zs:List α} {l h:Option Int} {k K:Nat} {fr:Bool} (c:lsl xs l h=some zs) (hV:ZQ s.V K=some (.vw k l h R.sz)) (hM:ZQ s.M k=some (.own R xs fr)) (d:Sat X s E F w a) :
  OwnR R F w zs (E.ρ K):=by
 unfold Kx.lsl at c
 rw [Zl] at c
 obtain ⟨p,f,rfl⟩:=c
 have g:E.ρ K=Wn l h R.sz (E.ρ k):=d.hV K _ hV
 rw [g]
 exact OwnR.sub (d.hM k _ hM) f
theorem Zss {α:Type} {R:TRep α} {xs zs:List α} {l h:Option Int} {k K:Nat} {fr:Bool} (c:lsl xs l h=some zs) (hV:ZQ s.V K=some (.vw k l h R.sz)) (hM:ZQ s.M k=some (.own R xs fr)):Ui X s R zs (.sl K) :=
 fun _ _ _ _ d=>(Rd.of_own (ZlJ c hV hM d)).src
theorem Sat.settle {α:Type} {R:TRep α} {xs zs:List α} {l h:Option Int} {k K:Nat} {fr:Bool} (g:lsl xs l h=some zs) (hV:ZQ s.V K=some (.vw k l h R.sz)) (hM:ZQ s.M k=some (.own R xs fr)) (j:ZQ s.M K=none)
  (d:Sat X s E F w a):Sat X ⟨s.L,(K,.own R zs fr)::(k,.gone)::s.M,s.V,s.nx⟩ E F w a:=by
 have q:E.ρ K=Wn l h R.sz (E.ρ k):=d.hV K _ hV
 have f:∀ b,(MO.own R zs fr).fp E K b->(MO.own R xs fr).fp E k b:=fun b c=>by
  have c:YH (E.ρ K)=some b:=c
  rw [q] at c
  exact Znz c
 exact d.moveM (m':=.own R zs fr) hM j (d.wf.hV K _ hV).1 (ZlJ g hV hM d) trivial f (fun m b c=>d.fresh k _ hM m b (f b c))
def QN {α:Type} (xs:List α) (l h:Option Int) (ys:List α):Option (List α × Int):=(W7 l h xs.length).map fun p =>
 (xs.take p.1++ys.take (min ys.length (p.2-p.1))++xs.drop (p.1+min ys.length (p.2-p.1)),((min ys.length (p.2-p.1):Nat):Int))
theorem Zn4 {α:Type} {P:Program} {t t2 ty:TypeId} {td:TD} (ok:TD.Ok P t td) (hk:Nat.beq td.kd 6=true) {R:TRep α} (hR:td.es=R.sz) {F:YB} {w:World} {xs ys:List α} {v sv:Value} {l h:Option Int} {r:List α × Int}
  (ho:OwnR R F w xs v) (hs:H2 P R F w ys sv) (hz:QN xs l h ys=some r) (hF:∀ b,YH v=some b->¬ F b) :
  ∃ w',(Builtin.copy_ #[t,t2] ty #[Wn l h R.sz v,sv]).run P w=.ok (.int .i64 r.2) w'/\OwnR R F w' r.1 v/\w'.os=w.os/\w'.tape=w.tape/\Oq w w'/\w.heap.size<=w'.heap.size /\
   (∀ b,YH v≠some b->w'.heap[b]? = w.heap[b]?):=by
 have ⟨i,hu,hi,hsz,_⟩:=ok.slc hk
 have d:(sizeOf td.el).run P w=.ok R.sz w:=by simp [sizeOf,typeInfo,hi,hsz,hR]
 unfold QN at hz
 rw [Zl] at hz
 obtain ⟨p,hp,rfl⟩:=hz
 have ⟨q1,q2,q3,q4⟩:=QK hp
 have ⟨T,K⟩:=BW hp
 have hle:p.1<=p.2:=by rw [q4];simp;omega
 have W:p.2<=xs.length:=by rw [q4];simp;omega
 have ⟨L,g,A,hfc,U⟩:=hs
 let n:=min ys.length (p.2-p.1)
 have z:n<=ys.length:=Nat.min_le_left _ _
 have hn2:n<=p.2-p.1:=Nat.min_le_right _ _
 have C:=hfc n w z rfl
 have D:Nat.min ys.length (p.2-p.1)=n:=rfl
 rcases ho with ⟨rfl,rfl⟩ | ⟨b,off,cap,arr,el,fz,rfl,hc,hs,ht,hh,hr⟩
 ·simp at W
  have hn0:n=0:=by omega
  have hv:Wn l h R.sz (.slice none 0 0)=.slice none (p.2-p.1) (0-p.1):=by
   simp only [List.length_nil] at K
   rw [Rg,<- T,<- K]
   simp
  refine ⟨w,?_,.inl ⟨by simp [show min ys.length (p.2-p.1)=0 from hn0],rfl⟩,rfl,rfl,.m,Zo _,fun _ _=>rfl⟩
  rw [hv]
  simp [Builtin.copy_,Xb hu,A,d,D,C,goInt]
 ·have hcl:Wn l h R.sz (.slice (some ⟨b,off,none⟩) xs.length cap)=.slice (some (if cap=p.1 then ⟨b,off,none⟩ else ⟨b,off+p.1 * R.sz,none⟩)) (p.2-p.1) (cap-p.1):=by
   rw [Rg,<- T,<- K]
   split<;>simp [WS]
  let G:=if cap=p.1 then off else off+p.1 * R.sz
  have Y:(if cap=p.1 then (⟨b,off,none⟩:Addr) else ⟨b,off+p.1 * R.sz,none⟩)=⟨b,G,none⟩:=by simp only [G];split<;>rfl
  have k:(L.take (n * R.sz)).length=n * R.sz:=by
   rw [List.length_take,g.1];exact Nat.min_eq_left (Nat.mul_le_mul_right _ z)
  have q:(p.1+n) * R.sz<=cap * R.sz:=Nat.mul_le_mul_right _ (by omega)
  rw [Nat.add_mul] at q
  have Z:cap=p.1->n=0:=fun e=>by omega
  have hoff:G+n * R.sz<=arr.size:=by
   simp only [G]
   split
   ·rename_i e;rw [Z e];omega
   ·omega
  have hst:=Q7 (P:=P) b G el fz (L.take (n * R.sz)) 0 arr w hh ht (by rw [k];omega) (fun u hu=>U u (List.mem_of_mem_take hu))
  let c:=(arr.toList.take (G+0)++L.take (n * R.sz)++arr.toList.drop (G+0+(L.take (n * R.sz)).length)).toArray
  have x:c.size=arr.size:=by
   simp only [c,List.size_toArray,List.length_append,List.length_take,List.length_drop,Array.length_toList,g.1]
   have:min (n * R.sz) (ys.length * R.sz)=n * R.sz:=Nat.min_eq_left (Nat.mul_le_mul_right _ z)
   omega
  have hg:Wt F w F (w.setRow b c):=⟨fun _ h=>h,fun b' I=>setRow_other w b b' _ (fun e=>hF b rfl (e ▸ I))⟩
  have ⟨V,M,N,_⟩:=hr.cellsOf
  have hnew:RowL R F (w.setRow b c) (xs.take p.1++ys.take n++xs.drop (p.1+n)) (V.take (p.1 * R.sz)++L.take (n * R.sz)++V.drop ((p.1+n) * R.sz)) :=
   ((((M.take (by omega)).append (g.take z)).append (M.drop _)).mono hg)
  have y:(V.take (p.1 * R.sz)).length=p.1 * R.sz:=by
   rw [List.length_take,M.1];exact Nat.min_eq_left (Nat.mul_le_mul_right _ (by omega))
  have O:∀ (j:Nat) u,(V.take (p.1 * R.sz)++L.take (n * R.sz)++V.drop ((p.1+n) * R.sz))[j]? = some u->c[off+j]? = some u:=by
   intro j u f
   have hal:arr.toList.length=arr.size:=Array.length_toList
   simp only [c,List.getElem?_toArray,Nat.add_zero,k]
   by_cases hn0:n=0
   ·have e1:L.take (n * R.sz)=[]:=by rw [hn0];simp
    rw [e1] at f ⊢
    rw [hn0]
    simp only [List.append_nil,hn0,Nat.add_zero,List.take_append_drop,Nat.zero_mul] at f ⊢
    have:=N j u f
    simpa using this
   ·have hne:cap≠p.1:=fun e=>hn0 (Z e)
    have ho':G=off+p.1 * R.sz:=if_neg hne
    rw [ho']
    rw [List.append_assoc] at f ⊢
    have S:(arr.toList.take (off+p.1 * R.sz)).length=off+p.1 * R.sz:=by rw [List.length_take,hal];omega
    by_cases hj1:j < p.1 * R.sz
    ·rw [Zm (by rw [y];exact hj1),List.getElem?_take,if_pos hj1] at f
     rw [Zm (by rw [S];omega),List.getElem?_take,if_pos (by omega)]
     have:=N j u f
     simpa using this
    ·rw [Zn (by rw [y];omega),y] at f
     rw [Zn (by rw [S];omega),S]
     have e2:off+j-(off+p.1 * R.sz)=j-p.1 * R.sz:=by omega
     rw [e2]
     by_cases hj2:j-p.1 * R.sz < n * R.sz
     ·rw [Zm (by rw [k];exact hj2)] at f ⊢
      exact f
     ·rw [Zn (by rw [k];omega),k] at f ⊢
      rw [List.getElem?_drop] at f ⊢
      have e3:(p.1+n) * R.sz+(j-p.1 * R.sz-n * R.sz)=j:=by rw [Nat.add_mul];omega
      rw [e3] at f
      have e4:off+p.1 * R.sz+n * R.sz+(j-p.1 * R.sz-n * R.sz)=off+j:=by omega
      rw [e4]
      have:=N j u f
      simpa using this
  refine ⟨w.setRow b c,?_,.inr ⟨b,off,cap,c,el,fz,?_,?_,by rw [x];exact hs,by rw [x];exact ht,setRow_heap w b arr _ el fz hh,hnew.row O⟩,rfl,rfl,.m,by simp,fun b' I=>setRow_other w b b' _ (fun e=>I (by rw [e];rfl))⟩
  ·rw [hcl,Y]
   simp [Builtin.copy_,Xb hu,A,d,D,C,goInt]
   rw [hst]
   rfl
  ·congr 1
   simp;omega
  ·simp;omega
theorem WPr.cp {α:Type} {R:TRep α} (htt:TTOk X.P tt) {i:Nat} {rest:List Nat} {o:Oper} {t t2:TypeId} {u:TD} {x y:Operand} {d k K:Nat} {fr:Bool} {j:SC} {xs ys:List α} {l h:Option Int} {r:List α × Int}
  (S:QN xs l h ys=some r) (m:Ui X s R ys j) (T:ops[i]? = some o) (U:YO ops s.L o=some true) (z:o.op=.call { callee:=.builtin .copy,args:=#[x,y],argTypes:=#[t,t2] }) (W:o.dst=some d)
  (Y:Yd s.L x=some (.c (.sl K))) (hV:ZQ s.V K=some (.vw k l h R.sz)\/(K=k/\l=none/\h=none)) (A:ZQ s.M k=some (.own R xs fr)) (Z:Yd s.L y=some (.c j)) (ht:ZQ tt t=some u)
  (O:(Nat.blt d X.fn.ntmps && Nat.beq u.kd 6 && Nat.beq u.es R.sz)=true)
  (kk:WPr X ops rest todo ⟨(d,.c (.i .i64 r.2))::s.L,(k,.own R r.1 fr)::s.M,s.V,s.nx⟩):WPr X ops (i::rest) todo s:=by
 refine WPr.op T U (fun E F w a g=>?_) kk
 simp only [Zc] at O
 obtain ⟨⟨c1,c2⟩,c3⟩:=O
 have ⟨e1,_⟩:=g.eval Y
 have ⟨e2,_⟩:=g.eval Z
 have I:=g.mF k _ A
 have f:OwnR R F w xs (E.ρ k):=g.hM k _ A
 have N:E.ρ K=Wn l h R.sz (E.ρ k):=by
  rcases hV with h | ⟨rfl,rfl,rfl⟩
  ·exact g.hV K _ h
  ·have ⟨b,c,hv⟩:=HZ f
   rw [hv]
   rw [Rg]
   simp only [Gl,Option.getD_none,Int.toNat_zero,Nat.sub_zero,Nat.zero_mul]
   cases b with
   | none=>simp
   | some b =>
    have:b.add 0=b:=by unfold Addr.add;simp
    simp [this]
 have ⟨w',q,G,g1,g2,g3,g4,g5⟩:=Zn4 (t2:=t2) (ty:=o.type) (htt.get ht) c2 (Zd c3) f (m E F w a g) S (fun b C=>(I b C).1)
 refine XW (v:=.int .i64 r.2) (w':=w') (Un z ?_) ?_
 ·simp only [List.map_toArray,List.map_cons,List.map_nil,e1,e2,Yc]
  have:ZZ E (.sl K)=Wn l h R.sz (E.ρ k):=N
  rw [this]
  exact Y3 q
 ·have s1:=g.setM (m':=.own R r.1 fr) A g1 g2 g3 g4 (fun b _ D=>g5 b (fun e=>D e)) (fun b C=>C) G trivial (fun h=>h)
  have s2:=s1.setL (d:=d) (v:=.c (.i .i64 r.2)) trivial (YT c1)
  rw [W]
  exact ⟨E,F,s2⟩
theorem WPr.ext {i:Nat} {rest:List Nat} {o:Oper} {f:FuncId} {args:Array Operand} {m:Array TypeId} {d:Nat} {c:List SV} {v:SV}
  (j:∀ (E:Env) (w:World),(callFunc f (c.map (Yc E)).toArray).run X.P w=.ok (.value (Yc E v)) w) (q:∀ n,v.kb n) (r:ops[i]? = some o) (u:YO ops s.L o=some true)
  (k:o.op=.call { callee:=.value (.func f),args:=args,argTypes:=m }) (x:o.dst=some d) (y:Nat.blt d X.fn.ntmps=true) (g:V7 s.L args.toList=some c)
  (z:WPr X ops rest todo ⟨(d,v)::s.L,s.M,s.V,s.nx⟩):WPr X ops (i::rest) todo s:=by
 refine WPr.val (fun E F w a A=>⟨?_,q _⟩) r u x y z
 have l:=(Gj A g).1
 have h:args.map a.eval=(c.map (Yc E)).toArray:=by
  apply Array.ext'
  rw [Array.toList_map,l]
 unfold execOp
 simp only [k,resolve,Deferred.ofValue,Act.eval,invoke,Sem.run_bind,Sem.run_pure,Result.andThen_ok]
 have:=j E w
 rw [<- h] at this
 simpa using this
def byteOf (c:Int):UInt8:=c.toNat.toUInt8
def ZeH (m:ByteArray) (c:Int):Int:=firstIdx m (byteOf c)
def B9 (m:ByteArray) (c:Int):Int:=m.foldl (fun n x=>if x==byteOf c then n+1 else n) (((0:Nat):Int))
theorem ZoK {P:Program} {f:FuncId} {fn:Func} (g:P.funcs[f]? = some fn) (d:(fn.name == "runtime.NumGoroutine")=false) (h:fn.body.isNone=true) (j:Extern.findNext fn=none)
  (k:Extern.find fn=some Extern.BytealgIndexByte.indexByte) (m:ByteArray) (c:Int) (E:Env) (w:World) :
  (callFunc f (([.c (.s m),.c (.i .u8 c)]:List SV).map (Yc E)).toArray).run P w=.ok (.value (Yc E (.c (.i .i64 (ZeH m c))))) w:=by
 rw [run_callFunc_extern g d h j k]
 show ((Extern.BytealgIndexByte.indexByte #[.string m,.int .u8 c]).run P w).andThen _=_
 rw [run_indexByte_string];rfl
theorem ZoJ {P:Program} {f:FuncId} {fn:Func} (g:P.funcs[f]? = some fn) (d:(fn.name == "runtime.NumGoroutine")=false) (h:fn.body.isNone=true) (j:Extern.findNext fn=none)
  (k:Extern.find fn=some Extern.BytealgCount.count) (m:ByteArray) (c:Int) (E:Env) (w:World) :
  (callFunc f (([.c (.s m),.c (.i .u8 c)]:List SV).map (Yc E)).toArray).run P w=.ok (.value (Yc E (.c (.i .i64 (B9 m c))))) w:=by
 rw [run_callFunc_extern g d h j k]
 show ((Extern.BytealgCount.count #[.string m,.int .u8 c]).run P w).andThen _=_
 have:(Extern.BytealgCount.count #[.string m,.int .u8 c]).run P w=.ok (.int .i64 (B9 m c)) w:=by
  change Sem.run P (do
   let b <- Extern.Bytes.bytesOf (.string m)
   let c' <- Extern.Bytes.asByte (.int .u8 c)
   pure (goInt (b.foldl (fun n x=>if x==c' then n+1 else n) (0:Nat)))) w=_
  simp only [Extern.Bytes.bytesOf,Extern.Bytes.asByte,Sem.run_bind,Sem.run_pure,Result.andThen,goInt]
  rfl
 rw [this];rfl
end
end
section
variable [LxP]
section
variable {X:Ctx} {s:St} {ops:Array Oper} {todo:Act->World->Prop} {E:Env} {F:YB} {w:World} {a:Act}
theorem Sat.setL0 (c:Sat X s E F w a) {d:Nat} {v v0:SV} (f:ZQ s.L d=some v0) (g:Yc E v=Yc E v0) (j:v.kb s.nx):Sat X ⟨(d,v)::s.L,s.M,s.V,s.nx⟩ E F w a:={ c with
 wf:=⟨fun k l h=>by
   rw [YG] at h
   split at h
   ·cases h;exact j
   ·exact c.wf.hL _ _ h,c.wf.hM,c.wf.hV⟩
 hL:=fun k l h=>by
  rw [YG] at h
  split at h
  ·rename_i e;cases h;subst e;rw [g];exact c.hL _ _ f
  ·exact c.hL _ _ h }
end
end
end Go.Kx
section
namespace Go.Kx
variable [LxP]
open Go.ChangeShapes Go.WideShapes
structure Bulk where
 f:{H:Type}->DataW H->Nat
 all:{H:Type}->List (DataW H)->Nat
 str:∀ {H:Type} (b:List UInt8),f (.lit (.string b):DataW H)=b.length+1
 slice:∀ {H:Type} (e s:List (DataW H)),f (.slice e s)=all e+all s+1
 agg:∀ {H:Type} (l:List (DataW H)),f (.agg l)=all l+1
 nil:∀ {H:Type},all ([]:List (DataW H))=0
 cons:∀ {H:Type} (d:DataW H) l,all (d::l)=f d+all l
 one:∀ {H:Type} (d:DataW H),1<=f d
def bd:Nat:=1048576
theorem Bulk.mem (B:Bulk) {H:Type} {d:DataW H}:∀ {l:List (DataW H)},d∈l->B.f d<=B.all l
 | x::l,h=>by
  rw [B.cons]
  rcases List.mem_cons.1 h with rfl | h
  ·omega
  ·have:=B.mem h;omega
theorem Bulk.len (B:Bulk) {H:Type}:∀ (l:List (DataW H)),l.length<=B.all l
 | []=>by simp
 | x::l=>by rw [B.cons,Zf];have:=B.len l;have:=B.one x;omega
abbrev Vz (w:World):YB:=fun b=>b < w.heap.size
def Rdb (P:Program) (B:Bulk) (t:TypeId) {α:Type} (R:TRep α) (ok:α->Prop):Prop:=R.sz=P.cellsOf t /\
 ∀ {H:Type} (enc:TypeId × Value->H) (w:World) (fuel:Nat) (cs:List Value) (x:DataW H × List MemPlace),DataW.trod enc P w 0 (fun _=>true) true fuel t cs=some x->B.f x.1<=bd ->
  ∃ a,R.rep (Vz w) w a cs/\ok a
section
variable {P:Program} {B:Bulk} {t:TypeId}
theorem Rdb.int {k:IntKind} (d:P.underlying t=some (.int k)) (f:P.cellsOf t=1):Rdb P B t (rI k) (fun n=>(Lit.int k n).wf=true) :=
 ⟨f.symm,fun enc w c cs x h _=>by obtain ⟨n,rfl,_,g⟩:=DataW.trod_int d h;exact ⟨n,rfl,g⟩⟩
theorem Rdb.bool (d:P.underlying t=some .bool) (f:P.cellsOf t=1):Rdb P B t rB (fun _=>True) :=
 ⟨f.symm,fun enc w c cs x h _=>by obtain ⟨n,rfl,_⟩:=DataW.trod_bool d h;exact ⟨n,rfl,trivial⟩⟩
theorem Rdb.str (d:P.underlying t=some .string) (f:P.cellsOf t=1):Rdb P B t rS (fun s=>s.size<=bd) :=
 ⟨f.symm,fun enc w c cs x h g=>by
  obtain ⟨n,rfl,rfl,_⟩:=DataW.trod_string d h
  refine ⟨n,rfl,?_⟩
  rw [B.str] at g
  have e:n.data.toList.length=n.size:=by rw [Array.length_toList];rfl
  omega⟩
theorem ZeD {α:Type} {Q:Nat->α->Prop}:∀ {n:Nat},(∀ i,i < n->∃ x,Q i x)->∃ xs:List α,xs.length=n/\∀ i x,xs[i]? = some x->Q i x
 | 0,_=>⟨[],rfl,by simp⟩
 | n+1,h=>by
  have ⟨xs,d,f⟩:=ZeD (n:=n) fun i hi=>h i (by omega)
  have ⟨y,g⟩:=h n (by omega)
  refine ⟨xs++[y],by simp [d],fun i x hi=>?_⟩
  rw [List.getElem?_append] at hi
  split at hi
  ·exact f i x hi
  ·rename_i j
   have c:=(List.getElem?_eq_some_iff.1 hi).1
   simp only [List.length_singleton] at c
   have e:i=n:=by omega
   subst e
   rw [d,Nat.sub_self] at hi
   simp only [List.getElem?_cons_zero,Option.some.injEq] at hi
   subst hi;exact g
theorem Rdb.slice {α:Type} {R:TRep α} {ok:α->Prop} {e:TypeId} (hu:P.underlying t=some (.slice e)) (k:P.cellsOf t=1) (I:Rdb P B e R ok) :
    Rdb P B t (Yx R) (fun xs=>xs.length<=bd/\∀ x∈xs,ok x):=⟨k.symm,fun enc w Y cs x h Z=>by
  rcases DataW.trod_slice hu h with ⟨rfl,_⟩ | ⟨a,len,cap,c,rest,n,rfl,rfl,rfl,_,hlc,_,O,hx,_⟩
  · exact ⟨[],⟨_,rfl,.inl ⟨rfl,_,_,rfl⟩⟩,by simp [bd],by simp⟩
  · simp only at Z
    rw [B.slice] at Z
    have C:=B.len (c.map (·.1))
    rw [List.length_map,O] at C
    have l:0 < P.cellsOf e:=by rw [<- I.1];exact R.pos
    have key:∀ i,i < len->∃ x,∃ cs y,w.cells? 0 (a.add (i * P.cellsOf e)) (P.cellsOf e)=some cs/\c[i]? = some y/\R.rep (Vz w) w x cs/\ok x:=fun i hi=>by
      have h1:=hx i hi
      have f:i < c.length:=by omega
      rw [Za f,Option.bind_eq_some_iff] at h1
      have ⟨cs,h2,h3⟩:=h1
      have K:c[i].1∈c.map (·.1):=List.mem_map.2 ⟨_,List.getElem_mem f,rfl⟩
      have ⟨x,h4,h5⟩:=I.2 enc w n cs _ h3 (by have:=B.mem K;omega)
      exact ⟨x,cs,_,h2,Za f,h4,h5⟩
    have ⟨xs,hl,L⟩:=ZeD key
    have U:∀ x∈xs,ok x:=fun x K=>by
      have ⟨i,hi⟩:=List.mem_iff_getElem?.1 K
      have ⟨_,_,_,_,_,h⟩:=L i x hi
      exact h
    refine ⟨xs,⟨_,rfl,?_⟩,by omega,U⟩
    rcases Nat.eq_zero_or_pos len with S | S
    · subst S
      have:xs=[]:=List.eq_nil_of_length_eq_zero hl
      subst this
      exact .inl ⟨rfl,_,_,rfl⟩
    · -- the block
      have g:∀ i j cs,i < len->w.cells? 0 (a.add (i * P.cellsOf e)) (P.cellsOf e)=some cs->j < P.cellsOf e->w.cell? ((a.add (i * P.cellsOf e)).add j)=cs[j]? := fun i j cs _ k G=>by
        unfold World.cells? at k
        rw [if_pos (Nat.zero_le _)] at k
        have:=mapM_some_get k j j (by simp [G])
        exact this
      have D:∀ i cs,w.cells? 0 (a.add (i * P.cellsOf e)) (P.cellsOf e)=some cs->cs.length=P.cellsOf e:=fun i cs k=>by
        unfold World.cells? at k
        rw [if_pos (Nat.zero_le _)] at k
        simpa using mapM_some_length k
      obtain ⟨M,N⟩:∃ M,xs[0]? = some M:=⟨_,Za (by omega)⟩
      have ⟨r,y0,u,_,_,_⟩:=L 0 M N
      have d:=g 0 0 r S u l
      have m:(a.add (0 * P.cellsOf e)).add 0=a:=by unfold Addr.add;simp
      rw [m,Za (by rw [D 0 r u];exact l)] at d
      unfold World.cell? at d
      split at d
      · rename_i arr ty fz T
        cases q:a.spot with
        | some s=>rw [q] at d;simp at d
        | none =>
          have ha:a=⟨a.block,a.off,none⟩:=by cases a;simp at q;simp [q]
          have f:a.block < w.heap.size:=(Array.getElem?_eq_some_iff.1 T).1
          refine .inr ⟨a.block,a.off,cap,arr,ty,fz,by rw [hl,<- ha],by omega,f,T,fun i x hi=>?_⟩
          have ⟨cs,y,z,_,A,_⟩:=L i x hi
          have V:i < len:=by have:=(List.getElem?_eq_some_iff.1 hi).1;omega
          refine ⟨cs,A,fun j v G=>?_⟩
          have W:j < P.cellsOf e:=by have:=(List.getElem?_eq_some_iff.1 G).1;rw [D i cs z] at this;exact this
          have:=g i j cs V z W
          rw [ha,WS,WS,QL T,G] at this
          rw [I.1]
          exact this
      · cases d⟩
def RdF (P:Program) (B:Bulk) (fs:List Field) (off:Nat) {β:Type} (R:TRep β) (ok:β->Prop):Prop :=
  ∀ {H:Type} (enc:TypeId × Value->H) (w:World) (n:Nat) (cs:List Value) (xs:List (DataW H × List MemPlace)),xs.length=fs.length ->
    (∀ (i:Nat) (f:Field),fs[i]? = some f->DataW.trod enc P w 0 (fun _=>true) true n f.type ((cs.drop f.offset).take (P.cellsOf f.type))=xs[i]?)->B.all (xs.map (·.1))<=bd ->
    ∃ y,R.rep (Vz w) w y ((cs.drop off).take R.sz)/\ok y
theorem RdF.one {f:Field} {α:Type} {R:TRep α} {ok:α->Prop} (h:Rdb P B f.type R ok):RdF P B [f] f.offset R ok:=fun enc w n cs xs g j c=>by
 obtain ⟨x,rfl⟩:=List.length_eq_one_iff.1 g
 have d:=j 0 f rfl
 simp only [List.getElem?_cons_zero] at d
 simp only [List.map_cons,List.map_nil] at c
 rw [B.cons,B.nil] at c
 have ⟨a,k,l⟩:=h.2 enc w n _ x d (by omega)
 rw [h.1]
 exact ⟨a,k,l⟩
theorem RdF.cons {f:Field} {fs:List Field} {off:Nat} {α β:Type} {g:TRep α} {h:TRep β} {c:α->Prop} {d:β->Prop} (j:Rdb P B f.type g c) (u:RdF P B fs off h d) (v:off=f.offset+g.sz) :
  RdF P B (f::fs) f.offset (rP g h) (fun y=>c y.1/\d y.2):=fun enc w n cs xs k l m=>by
 cases xs with
 | nil=>cases k
 | cons x xs =>
  have r:=l 0 f rfl
  simp only [List.getElem?_cons_zero] at r
  simp only [List.map_cons] at m
  rw [B.cons] at m
  have ⟨a,q,C⟩:=j.2 enc w n _ x r (by omega)
  have ⟨b,D,G⟩:=u enc w n cs xs (by simpa using k) (fun i z A=>by have:=l (i+1) z (by simpa using A);simpa using this) (by omega)
  rw [<- j.1] at q
  refine ⟨(a,b),⟨_,_,?_,q,D⟩,C,G⟩
  rw [v,<- List.drop_drop]
  exact List.take_add
theorem Rdb.struct {α β:Type} {f:α->β} {g:β->α} {R:TRep β} {ok:β->Prop} {fs:List Field} (m:P.underlying t=some (.struct fs.toArray)) (d:P.cellsOf t=R.sz) (c:∀ y,f (g y)=y) (h:RdF P B fs 0 R ok) :
  Rdb P B t (rM f R) (fun x=>ok (f x)):=⟨d.symm,fun enc w j cs x q k=>by
 obtain ⟨xs,n,rfl,rfl,u,v,z⟩:=DataW.trod_struct m q
 simp only at k
 rw [B.agg] at k
 have ⟨y,l,A⟩:=h enc w n cs xs (by simpa using v) (fun i r hi=>z i r (by simpa using hi)) (by omega)
 rw [List.drop_zero,<- d,<- u,List.take_length] at l
 refine ⟨g y,?_,?_⟩
 ·show R.rep _ _ (f (g y)) cs
  rw [c];exact l
 ·show ok (f (g y));rw [c];exact A⟩
def RdA (P:Program) (B:Bulk) (e:TypeId) (m off:Nat) {β:Type} (R:TRep β) (ok:β->Prop):Prop :=
  ∀ {H:Type} (enc:TypeId × Value->H) (w:World) (n:Nat) (cs:List Value) (xs:List (DataW H × List MemPlace)),xs.length=m ->
    (∀ (i:Nat),i < m->DataW.trod enc P w 0 (fun _=>true) true n e ((cs.drop ((off+i) * P.cellsOf e)).take (P.cellsOf e))=xs[i]?)->B.all (xs.map (·.1))<=bd ->
    ∃ y,R.rep (Vz w) w y ((cs.drop (off * P.cellsOf e)).take R.sz)/\ok y
theorem RdA.one {e off:Nat} {α:Type} {R:TRep α} {ok:α->Prop} (h:Rdb P B e R ok):RdA P B e 1 off R ok:=fun enc w n cs xs f g c=>by
 obtain ⟨x,rfl⟩:=List.length_eq_one_iff.1 f
 have d:=g 0 (by omega)
 simp only [List.getElem?_cons_zero,Nat.add_zero] at d
 simp only [List.map_cons,List.map_nil] at c
 rw [B.cons,B.nil] at c
 have ⟨a,j,k⟩:=h.2 enc w n _ x d (by omega)
 rw [h.1]
 exact ⟨a,j,k⟩
theorem RdA.cons {e off m:Nat} {α β:Type} {g:TRep α} {h:TRep β} {c:α->Prop} {d:β->Prop} (f:Rdb P B e g c) (u:RdA P B e m (off+1) h d):RdA P B e (m+1) off (rP g h) (fun y=>c y.1/\d y.2) :=
 fun enc w n cs xs j k l=>by
 cases xs with
 | nil=>cases j
 | cons x xs =>
  have r:=k 0 (by omega)
  simp only [List.getElem?_cons_zero,Nat.add_zero] at r
  simp only [List.map_cons] at l
  rw [B.cons] at l
  have ⟨a,q,v⟩:=f.2 enc w n _ x r (by omega)
  have ⟨b,z,A⟩:=u enc w n cs xs (by simpa using j) (fun i hi=>by have:=k (i+1) (by omega);rw [show off+(i+1)=off+1+i by omega] at this;simpa using this) (by omega)
  rw [<- f.1] at q
  refine ⟨(a,b),⟨_,_,?_,q,z⟩,v,A⟩
  rw [Nat.add_mul,Nat.one_mul,<- f.1,<- List.drop_drop]
  exact List.take_add
theorem Rdb.array {β:Type} {R:TRep β} {ok:β->Prop} {m e:Nat} (j:P.underlying t=some (.array m e)) (c:P.cellsOf t=R.sz) (h:RdA P B e m 0 R ok):Rdb P B t R ok:=⟨c.symm,fun enc w d cs x k f=>by
 obtain ⟨xs,n,rfl,rfl,l,q,r⟩:=DataW.trod_array j k
 simp only at f
 rw [B.agg] at f
 have ⟨y,g,u⟩:=h enc w n cs xs q (fun i hi=>by have:=r i hi;rw [Nat.zero_add];exact this) (by omega)
 rw [Nat.zero_mul,List.drop_zero,<- c,<- l,List.take_length] at g
 exact ⟨y,g,u⟩⟩
end
section
variable {P:Program} {H:Type} {enc:TypeId × Value->H}
theorem Znm {w:World} {b t:Nat} {v:Value} (d:(match P.underlying t with | some (.int _) | some .bool | some .string | some (.slice _)=>true | _=>false)=true) (h:Value.okWide P w .any b t v):v.cells=#[v]:=by
 unfold Value.okWide at h
 split at d
 ·rename_i c;rw [c] at h;simp only [Cell.okWide,Cell.ok,c] at h;cases v<;>first | rfl | (simp at h)
 ·rename_i c;rw [c] at h;simp only [Cell.okWide,Cell.ok,c] at h;cases v<;>first | rfl | (simp at h)
 ·rename_i c;rw [c] at h;simp only [Cell.okWide,Cell.ok,c] at h;cases v<;>first | rfl | (simp at h)
 ·rename_i c;rw [c] at h;simp only [Cell.okWide,Cell.ok,c] at h;cases v<;>first | rfl | (simp at h)
 ·cases d
theorem ZlF (l:laidOutB P=true) {W m:World} {r:Nat->Bool}:∀ {k:List TypeId} {g:List Value} {j:List (DataW H)} {f:List MemPlace},k.all (fun t=>P.readableRec t && decide (t < P.types.size))=true ->
  DataW.TrodAll enc P W 0 (fun _=>true) true k g j f->(∀ p∈f,W.sameAt m p)->(∀ p∈f,r p.block=true)->DataW.TrodAll enc P m 0 r true k g j f
 | [],g,j,f,_,h,_,_=>by
  cases g<;>cases j<;>simp only [DataW.TrodAll] at h ⊢<;>first | exact h | exact h.elim
 | t::k,g,j,f,ht,h,hs,hp=>by
  obtain ⟨v,u,d,y,p,q,rfl,rfl,rfl,z,A⟩:=trodAll_cons h
  simp only [List.all_cons,Zc,decide_eq_true_eq] at ht
  exact trodAll_cons_mk (WideElems.Trod_stays l ht.1.1 ht.1.2 z (fun x c=>hs x (List.mem_append.2 (.inl c))) fun x c=>hp x (List.mem_append.2 (.inl c)))
   (ZlF l ht.2 A (fun x c=>hs x (List.mem_append.2 (.inr c))) fun x c=>hp x (List.mem_append.2 (.inr c)))
theorem ZpY {f:Func} {s:ChangeSpec} {g fresh h u:Bool} {W A:World} {args:Array Value} {C:List (DataW H)} {d:List MemPlace} {tb:TypeId} (U:laidOutB P=true)
  (K:f.params.toList.all (fun t=>P.readableRec t && decide (t < P.types.size))=true) (v:s.vars=[]) (O:f.resultTypes=#[tb]) (I:P.underlying tb=some .bool)
  (L:DataW.Whole enc P f.params.toList s.vars g W args.toList C [] d) (y:s.fn H (C++[])={ results:=[.lit (.bool true)],args:=C }) (D:Ext (Vz W) W A) :
  s.post enc P f g fresh h u W args (.bool true) A:=by
 have z:=L.lt
 have j:∀ p∈d,W.sameAt A p:=fun p m=>by
  cases p with
  | cell b off =>
   have:=D.block b (z _ m)
   show A.cell? ⟨b,off,none⟩=W.cell? ⟨b,off,none⟩
   unfold World.cell?;simp only [this]
  | map b=>exact D.block b (z _ m)
 have k:∀ p∈d,(fun b=>decide (b < W.heap.size)) p.block=true:=fun p m=>by simpa using z p m
 obtain ⟨p,q,V,hV,rfl,S,T⟩:=id L
 rw [v] at hV
 have hq:q=[]:=hV
 subst hq
 rw [List.append_nil] at j k S T
 have r:∀ (b:Nat) (G:Nat->Bool) (R:Bool),DataW.TrodAll enc P A b G R f.resultTypes.toList ((Value.bool true).resultList f.resultTypes.size) [.lit (.bool true)] []:=fun b G R=>by
  rw [O];exact trodAll_cons_mk (RowKit.shut_bool I true) trodAll_mk0
 have l:∀ G:Nat->Bool,(∀ x∈p,G x.block=true)->DataW.TrodAll enc P A 0 G true f.params.toList args.toList C p:=fun G M=>ZlF U K V j M
 refine ⟨C,[],p++[],[],p,[],L,?_,?_,?_,?_,fun _=>⟨?_,[.lit (.bool true)]++C,[],([]++p)++[],⟨[]++p,[],trodAll_append (l _ (fun _ _=>rfl)) (r _ _ _),by rw [v];rfl,rfl,?_,?_⟩,?_⟩⟩
 ·rw [y];exact r _ _ _
 ·rw [y];exact l _ k
 ·rw [y,v];rfl
 ·refine ⟨D.os,D.output.out,fun i hi=>?_⟩
  rw [D.block i hi]
  cases hh:W.heap[i]? with
  | none=>trivial
  | some o =>
   cases o with
   | cells c ty fr=>exact ⟨rfl,rfl,rfl,fun _ _=>rfl⟩
   | map es N=>exact .inr ⟨rfl,rfl⟩
   | _=>rfl
 ·exact RowKit.ok_one O rfl (RowKit.okWide_bool_mk I true)
 ·intro b off m
  simp only [List.nil_append,List.append_nil] at m
  have:=S b off m
  have hb:=D.block b (of_decide_eq_true (k _ m))
  unfold World.frozen? at this ⊢
  rw [hb];exact this
 ·intro Y
  simpa using T Y
 ·intro x Z _
  simpa using Z
structure Opened (F:YB) (w:World) (n:Nat) (fs:List (Nat × VF)) (az:List (List SC × List Value)) (E:Env):Prop where
 one:∀ k,(E.ρ k).oneCell'=true
 facts:∀ p∈fs,p.1 < n/\p.2.plain=true/\p.2.ok E F w (E.ρ p.1)
 args:∀ q∈az,q.1.map (ZZ E)=q.2/\∀ c∈q.1,SC.kb n c
theorem Opened.start (F:YB) (w:World):Opened F w 0 [] [] E00:=⟨fun _=>rfl,by simp,by simp⟩
theorem Zri {E E':Env} {F:YB} {w:World} {v:Value}:∀ {f:VF},f.plain=true->f.ok E F w v->f.ok E' F w v
 | .sl _ _,_,h=>h
 | .fn _,_,h=>h
 | .pl _,h,_ | .el _ _,h,_ | .vw _ _ _ _,h,_=>by cases h
theorem Opened.step {F:YB} {w:World} {n:Nat} {fs:List (Nat × VF)} {l:List (List SC × List Value)} {E:Env} (h:Opened F w n fs l E) {α:Type} {R:TRep α} (O:Opn R) {x:α} {m:List Value} (u:R.rep F w x m) :
  ∃ E',Opened F w (n+O.nk) (fs++O.facts n x) (l++[(O.cells n x,m)]) E':=by
 have ⟨E',r,_,_,y,z,A,C⟩:=O.ok u n E h.one
 refine ⟨E',y,fun p f=>?_,fun q g=>?_⟩
 ·rcases List.mem_append.1 f with f | f
  ·have ⟨j,d,k⟩:=h.facts p f
   exact ⟨by omega,d,by rw [(r p.1 j).1];exact Zri d k⟩
  ·have ⟨_,j,d,k⟩:=A p f
   exact ⟨j,d,k⟩
 ·rcases List.mem_append.1 g with g | g
  ·have ⟨j,d⟩:=h.args q g
   exact ⟨by rw [MU r d];exact j,fun c v=>(d c v).mono (Nat.le_add_right _ _)⟩
  ·rw [List.mem_singleton.1 g]
   exact ⟨z.symm,C⟩
theorem Opened.V {F:YB} {w:World} {n:Nat} {fs c:List (Nat × VF)} {d:List (List SC × List Value)} {E:Env} (h:Opened F w n fs d E) (hV:c=fs):∀ k x,ZQ c k=some x->x.ok E F w (E.ρ k) :=
 fun k x f=>(h.facts (k,x) (hV ▸ YY f)).2.2
def M7:Nat->DataW Unit->List Value
 | 0,_=>[]
 | _+1,.lit l=>[l.value]
 | n+1,.agg l=>l.flatMap (M7 n)
 | _+1,_=>[]
end
end Go.Kx
end
