/- Aids for the walks, part 2: a symbolic state of the machine, and that each step of the machine keeps it. -/
import Derived.Laws.Append
import Derived.Deep.Quiet
import Derived.Laws.StructEq
import Derived.ChangeKeysEq
import Derived.Orders
import Derived.Laws.BytesString
import Derived.Laws.IdiomStrings
import Derived.Laws.Externs
import Derived.WalkKit
import Derived.ProofKit
import Derived.OpenShut
import Derived.JoinedCond
import Derived.Deep.DeepHandedRow
import Derived.Test.YtpkbkcejjnemaaaGreatDoorExplainSuggestCore1
set_option linter.all false
section
namespace Go.Kx
variable [LxP]
def RowL {α:Type} (R:TRep α) (F:YD) (w:World) (xs:List α) (ns:List Value):Prop :=
 ns.length=xs.length * R.sz/\∀ (i:Nat) (x:α),xs[i]? = some x->∃ vs,R.rep F w x vs/\∀ (j:Nat) (v:Value),vs[j]? = some v->ns[i * R.sz+j]? = some v
def Rd {α:Type} (P:Program) (R:TRep α) (F:YD) (w:World) (xs:List α) (v:Value):Prop :=
 ∃ b c ns,v=.slice b xs.length c/\RowL R F w xs ns/\(∀ m w',m<=xs.length->w'.heap=w.heap->(Builtin.firstCells R.sz m v).run P w'=.ok (ns.take (m * R.sz)).toArray w')/\∀ u∈ns,u.oneCell'=true
theorem Row.cellsOf {α:Type} {R:TRep α} {F w} {xs:List α} {arr:Array Value} {off:Nat} (h:Row R F w xs arr off) :
  ∃ k:List Value,RowL R F w xs k/\(∀ (j:Nat) v,k[j]? = some v->arr[off+j]? = some v)/\∀ u∈k,u.oneCell'=true:=by
 induction xs generalizing off with
 | nil=>exact ⟨[],⟨by simp,by simp⟩,by simp,by simp⟩
 | cons x xs I =>
  have ⟨vs,m,z⟩:=h 0 x rfl
  have l:=R.len m
  obtain ⟨k,⟨A,C⟩,D,G⟩:=I (off:=off+R.sz) (fun i y g=>by
   have ⟨q,d,f⟩:=h (i+1) y (by simpa using g)
   refine ⟨q,d,fun j v c=>?_⟩
   have:=f j v c
   rw [show off+R.sz+i * R.sz+j=off+(i+1) * R.sz+j by rw [Nat.add_mul];omega]
   exact this)
  refine ⟨vs++k,⟨by rw [List.length_append,l,A,Zg,Nat.add_mul];omega,fun i y g=>?_⟩,fun j v c=>?_,fun u d=>?_⟩
  ·cases i with
   | zero =>
    simp only [List.getElem?_cons_zero,Option.some.injEq] at g
    subst g
    refine ⟨vs,m,fun j v c=>?_⟩
    rw [Nat.zero_mul,Nat.zero_add,Zn (List.getElem?_eq_some_iff.1 c).1]
    exact c
   | succ i =>
    have ⟨q,d,f⟩:=C i y (by simpa using g)
    refine ⟨q,d,fun j v c=>?_⟩
    have:=f j v c
    rw [Zo (by rw [l,Nat.add_mul];omega),l,show (i+1) * R.sz+j-R.sz=i * R.sz+j by rw [Nat.add_mul];omega]
    exact this
  ·rw [List.getElem?_append] at c
   split at c
   ·have:=z j v c
    rw [Nat.zero_mul,Nat.add_zero] at this
    exact this
   ·rename_i r
    have:=D _ v c
    rw [l] at this r
    rw [show off+R.sz+(j-R.sz)=off+j by omega] at this
    exact this
  ·rcases List.mem_append.1 d with d | d
   ·exact R.one m u d
   ·exact G u d
theorem Rd.of_row {α:Type} {P:Program} {R:TRep α} {F w} {xs:List α} {arr:Array Value} {off b Yk:Nat} {ty:TypeId} {fz:Nat × Nat} (g:w.heap[b]? = some (.cells arr ty fz)) (h:Row R F w xs arr off) :
  Rd P R F w xs (.slice (some ⟨b,off,none⟩) xs.length Yk):=by
 have ⟨d,f,q,r⟩:=h.cellsOf
 refine ⟨_,_,d,rfl,f,fun m w' k l=>?_,r⟩
 simp only [Builtin.firstCells]
 have u:(d.take (m * R.sz)).length=m * R.sz:=by
  rw [List.length_take,f.1];exact Nat.min_eq_left (Nat.mul_le_mul_right _ k)
 have:=run_loadCells_list (P:=P) w' ⟨b,off,none⟩ (d.take (m * R.sz)) fun j v c=>by
  rw [VR,MC (by rw [l];exact g)]
  rw [List.getElem?_take] at c
  split at c
  ·exact q j v c
  ·cases c
 rw [u] at this
 exact this
theorem Rd.of_nil {α:Type} {P:Program} {R:TRep α} {F w}:Rd P R F w ([]:List α) (.slice none 0 0) :=
 ⟨_,_,[],rfl,⟨by simp,by simp⟩,fun m w' _ _=>by simp [Builtin.firstCells],by simp⟩
theorem Rd.of_sl {α:Type} {P:Program} {R:TRep α} {F w} {xs:List α} {v:Value} (h:SlR R F w xs v):Rd P R F w xs v:=by
 rcases h with ⟨rfl,a,c,rfl⟩ | ⟨b,off,Yk,arr,ty,fz,rfl,_,_,f,g⟩
 ·refine ⟨a,c,[],rfl,⟨by simp,by simp⟩,fun m w' d _=>?_,by simp⟩
  have:m=0:=by simpa using d
  subst this
  cases a with
  | none=>simp [Builtin.firstCells]
  | some a =>
   simp only [Builtin.firstCells,Nat.zero_mul,List.take_zero]
   exact run_loadCells_list w' a [] (by simp)
 ·exact .of_row f g
theorem Rd.of_own {α:Type} {P:Program} {R:TRep α} {F w} {xs:List α} {v:Value} (h:OwnR R F w xs v):Rd P R F w xs v:=by
 rcases h with ⟨rfl,rfl⟩ | ⟨b,off,Yk,arr,ty,fz,rfl,_,_,_,c,d⟩
 ·exact .of_nil
 ·exact .of_row c d
def Hv {α:Type} (P:Program) (R:TRep α) (F:YD) (w:World) (xs:List α) (v:Value):Prop :=
 ∃ ns,RowL R F w xs ns/\(∀ w',(Builtin.lenOf v).run P w'=.ok xs.length w')/\(∀ m w',m<=xs.length->w'.heap=w.heap->(Builtin.firstCells R.sz m v).run P w'=.ok (ns.take (m * R.sz)).toArray w')/\∀ u∈ns,u.oneCell'=true
theorem Rd.src {α:Type} {P:Program} {R:TRep α} {F w} {xs:List α} {v:Value} (h:Rd P R F w xs v):Hv P R F w xs v:=by
 obtain ⟨b,c,d,rfl,f,g,j⟩:=h
 exact ⟨d,f,fun w'=>by simp [Builtin.lenOf],g,j⟩
theorem RowL.append {α:Type} {R:TRep α} {F w} {xs ys:List α} {l m:List Value} (d:RowL R F w xs l) (q:RowL R F w ys m):RowL R F w (xs++ys) (l++m):=by
 refine ⟨by rw [List.length_append,List.length_append,d.1,q.1,Nat.add_mul],fun i x f=>?_⟩
 rw [List.getElem?_append] at f
 split at f
 ·rename_i r
  have ⟨vs,h,k⟩:=d.2 i x f
  refine ⟨vs,h,fun j v g=>?_⟩
  have:=k j v g
  rw [Zn (List.getElem?_eq_some_iff.1 this).1]
  exact this
 ·rename_i c
  have ⟨vs,h,k⟩:=q.2 _ x f
  refine ⟨vs,h,fun j v g=>?_⟩
  have:=k j v g
  have c:=Nat.not_lt.1 c
  have u:xs.length * R.sz<=i * R.sz:=Nat.mul_le_mul_right _ c
  rw [Zo (by rw [d.1];omega),d.1]
  rw [Nat.sub_mul] at this
  rw [show i * R.sz+j-xs.length * R.sz=i * R.sz-xs.length * R.sz+j by omega]
  exact this
theorem RowL.row {α:Type} {R:TRep α} {F w} {xs:List α} {c:List Value} (h:RowL R F w xs c) {arr:Array Value} {off:Nat} (d:∀ (j:Nat) v,c[j]? = some v->arr[off+j]? = some v):Row R F w xs arr off :=
 fun i x f=>let ⟨vs,hr,hv⟩:=h.2 i x f;⟨vs,hr,fun j v g=>by rw [Nat.add_assoc];exact d _ v (hv j v g)⟩
theorem RowL.mono {α:Type} {R:TRep α} {F w F' w'} {xs:List α} {c:List Value} (g:W4 F w F' w') (h:RowL R F w xs c):RowL R F' w' xs c :=
 ⟨h.1,fun i x d=>let ⟨vs,hr,hv⟩:=h.2 i x d;⟨vs,R.mono g hr,hv⟩⟩
def lim:Nat:=4294967296
def YT {α:Type} (xs ys:List α):Option (List α):=bif Nat.ble (xs.length+ys.length) lim then some (xs++ys) else none
theorem Zmj {α:Type} {xs ys zs:List α} (h:YT xs ys=some zs):zs=xs++ys/\xs.length+ys.length<=lim:=by
 unfold YT at h
 cases c:Nat.ble (xs.length+ys.length) lim with
 | false=>rw [c] at h;cases h
 | true=>rw [c] at h;cases h;exact ⟨rfl,Zf c⟩
theorem ZeC (n:Nat):Ra (0,0) n:=fun j _=>by simp
def OwnQ {α:Type} (Q:Nat->TypeId->Prop) (R:TRep α) (F:YD) (w:World) (xs:List α) (v:Value):Prop :=
 (xs=[]/\v=.slice none 0 0)\/∃ (b off Yk:Nat) (arr:Array Value) (el:TypeId) (fz:Nat × Nat),Q off el/\v=.slice (some ⟨b,off,none⟩) xs.length Yk/\xs.length<=Yk /\
  off+Yk * R.sz<=arr.size/\Ra fz arr.size/\w.heap[b]? = some (.cells arr el fz)/\Row R F w xs arr off
theorem OwnQ.own {α:Type} {Q:Nat->TypeId->Prop} {R:TRep α} {F:YD} {w:World} {xs:List α} {v:Value} (h:OwnQ Q R F w xs v):OwnR R F w xs v:=by
 rcases h with h | ⟨b,off,Yk,arr,el,fz,_,h⟩
 ·exact .inl h
 ·exact .inr ⟨b,off,Yk,arr,el,fz,h⟩
theorem OwnR.q {α:Type} {R:TRep α} {F:YD} {w:World} {xs:List α} {v:Value} (h:OwnR R F w xs v):OwnQ (fun _ _=>True) R F w xs v:=by
 rcases h with h | ⟨b,off,Yk,arr,el,fz,h⟩
 ·exact .inl h
 ·exact .inr ⟨b,off,Yk,arr,el,fz,trivial,h⟩
theorem ZjY {α:Type} (Q:Nat->TypeId->Prop) {P:Program} {t t2 ty:TypeId} {y:TD} (hQ:Q 0 y.el) (d:P.underlying t2=some .string\/∃ e2,P.underlying t2=some (.slice e2)) (ok:TD.Ok P t y) (hk:Nat.beq y.kd 6=true) {R:TRep α} (hR:y.es=R.sz) {F:YD} {w:World} {xs ys:List α} {v Z:Value}
  (ho:OwnQ Q R F w xs v) (hs:Hv P R F w ys Z) (hF:∀ b,YQ v=some b->¬ F b) (hFs:∀ b,F b->b < w.heap.size) (hbs:∀ b,YQ v=some b->b < w.heap.size)
  (L:xs.length+ys.length<=lim) (heb:y.eb<=32768) :
  ∃ Y w',(Builtin.append_ #[t,t2] ty #[v,Z]).run P w=.ok Y w'/\OwnQ Q R F w' (xs++ys) Y/\w'.os=w.os/\w'.tape=w.tape/\Oq w w'/\w.heap.size<=w'.heap.size /\
   (∀ b,b < w.heap.size->YQ v≠some b->w'.heap[b]? = w.heap[b]?)/\(∀ b,YQ Y=some b->(YQ v=some b\/w.heap.size<=b)/\b < w'.heap.size):=by
 have ⟨i,hu,hi,hsz,hby,hne,z,hz,hzs⟩:=ok.slc hk
 have ⟨r,f,C,hfc0,hone⟩:=hs
 have T:∀ w',w'.heap=w.heap->(Builtin.firstCells R.sz ys.length Z).run P w'=.ok r.toArray w':=fun w' hw=>by
  have:=hfc0 ys.length w' (Zp _) hw
  rwa [<- f.1,List.take_length] at this
 have D:i.size=R.sz:=hsz.trans hR
 have g:∀ w',(sizeOf y.el).run P w'=.ok R.sz w':=fun w'=>by simp [sizeOf,typeInfo,hi,D]
 unfold lim at L
 have q:(xs.length+ys.length) * y.eb<=140737488355328:=Nat.le_trans (Nat.mul_le_mul L heb) (by decide)
 have h63:¬ ((9223372036854775807:Int) < ((xs.length+ys.length:Nat):Int)):=by omega
 -- the parts of a slice that has not room enough
 have N:∀ (base:Option Addr) (Yk:Nat) (x:List Value),v=.slice base xs.length Yk->RowL R F w xs x->(∀ w',w'.heap=w.heap->(Builtin.firstCells R.sz xs.length v).run P w'=.ok x.toArray w')->Yk < xs.length+ys.length ->
   ∃ Y w',(Builtin.append_ #[t,t2] ty #[v,Z]).run P w=.ok Y w'/\OwnQ Q R F w' (xs++ys) Y/\w'.os=w.os/\w'.tape=w.tape/\Oq w w'/\w.heap.size<=w'.heap.size /\
   (∀ b,b < w.heap.size->YQ v≠some b->w'.heap[b]? = w.heap[b]?)/\(∀ b,YQ Y=some b->(YQ v=some b\/w.heap.size<=b)/\b < w'.heap.size):=by
  intro base Yk x hv k hfo M
  subst hv
  let K:=(Question.appendCap (xs.length+ys.length) Yk y.el).cut (w.tape w.drawn (.appendCap (xs.length+ys.length) Yk y.el))
  have hnc:xs.length+ys.length<=K:=Nat.le_add_right _ _
  let arr:Array Value:=x.toArray++r.toArray++Builtin.zeroCells z.cells (K-(xs.length+ys.length))
  let w':World:=w.drew.alloc (.cells arr y.el)
  have U:¬ (xs.length+ys.length<=Yk):=by omega
  have hfit:¬ (281474976710656 < Builtin.nextslicecap (xs.length+ys.length) Yk * i.bytes):=by
   have:=growslice_fits M (by rw [<- hby] at q;exact q)
   omega
  have h1:=hfo w.drew rfl
  have h2:=T w.drew rfl
  have G:(Builtin.append_ #[t,t2] ty #[.slice base xs.length Yk,Z]).run P w=.ok (.slice (some ⟨w.heap.size,0,none⟩) (xs.length+ys.length) K) w':=by
   have h63':¬ (9223372036854775807 < ((xs.length:Int)+(ys.length:Int))):=by omega
   rcases d with d | ⟨_,d⟩<;>simp [Builtin.append_,Xm hu,Xm d,g,typeInfo,zeroValue,hi,hz,C,U,h63',hfit,Question.forced,h1,h2,newRow] <;>
   simp [w',arr,K,Array.append_assoc]
  have harr:∀ (j:Nat) u,(x++r)[j]? = some u->arr[0+j]? = some u:=fun j u A=>by
   have I:j < (x++r).length:=(List.getElem?_eq_some_iff.1 A).1
   rw [Nat.zero_add]
   show (x.toArray++r.toArray++_:Array Value)[j]? = some u
   rw [Array.getElem?_append_left (by simpa using I)]
   simpa using A
  have hg:W4 F w F w':=⟨fun _ h=>h,fun b O=>by
   show (w.heap.push _)[b]? = w.heap[b]?
   rw [Array.getElem?_push];rw [if_neg (Nat.ne_of_lt (hFs b O))]⟩
  refine ⟨_,w',G,.inr ⟨w.heap.size,0,K,arr,y.el,(0,0),hQ,by rw [List.length_append],by rw [List.length_append];exact hnc,?_,ZeC _,heap_alloc_new w.drew _,((k.append f).mono hg).row harr⟩,rfl,rfl,.m,by simp [w'],?_,?_⟩
  ·show 0+K * R.sz<=(x.toArray++r.toArray++Builtin.zeroCells z.cells (K-(xs.length+ys.length))).size
   have hzc:(Builtin.zeroCells z.cells (K-(xs.length+ys.length))).size=(K-(xs.length+ys.length)) * R.sz:=by simp [Builtin.zeroCells,hzs,D]
   rw [Array.size_append,Array.size_append,hzc,List.size_toArray,List.size_toArray,k.1,f.1,<- Nat.add_mul,<- Nat.add_mul,Nat.zero_add]
   exact Nat.mul_le_mul_right _ (by omega)
  ·intro b O _
   show (w.heap.push _)[b]? = w.heap[b]?
   rw [Array.getElem?_push];rw [if_neg (Nat.ne_of_lt O)]
  ·intro b O
   cases O
   exact ⟨.inr (Zp _),by simp [w']⟩
 rcases ho with ⟨rfl,rfl⟩ | ⟨b,off,Yk,arr,el,fz,hq,rfl,M,hsza,hth,hh,hr⟩
 ·by_cases h0:ys.length=0
  ·have hy:ys=[]:=List.eq_nil_of_length_eq_zero h0
   subst hy
   have hn0:r=[]:=List.eq_nil_of_length_eq_zero (by simpa using f.1)
   subst hn0
   refine ⟨.slice none 0 0,w,?_,.inl ⟨rfl,rfl⟩,rfl,rfl,.m,Zp _,fun _ _ _=>rfl,fun b O=>by cases O⟩
   have:=T w rfl
   simp only [List.length_nil] at this
   rcases d with d | ⟨_,d⟩<;>simp [Builtin.append_,Xm hu,Xm d,g,C,this]
  ·exact N none 0 [] rfl ⟨by simp,by simp⟩ (fun w' _=>by simp [Builtin.firstCells]) (by simp only [List.length_nil];omega)
 ·have ⟨x,k,hmc,_⟩:=hr.cellsOf
  by_cases l:xs.length+ys.length<=Yk
  ·have hmul:(xs.length+ys.length) * R.sz<=Yk * R.sz:=Nat.mul_le_mul_right _ l
   rw [Nat.add_mul] at hmul
   have V:=f.1
   have hst:=M5 (P:=P) b (off+xs.length * R.sz) el fz r 0 arr w hh hth (by rw [V];omega) hone
   have hbt:b < w.heap.size:=hbs b rfl
   let c:=(arr.toList.take (off+xs.length * R.sz+0)++r++arr.toList.drop (off+xs.length * R.sz+0+r.length)).toArray
   have G:(Builtin.append_ #[t,t2] ty #[.slice (some ⟨b,off,none⟩) xs.length Yk,Z]).run P w=.ok (.slice (some ⟨b,off,none⟩) (xs.length+ys.length) Yk) (w.setRow b c):=by
    have h2:=T w rfl
    rcases d with d | ⟨_,d⟩<;>simp [Builtin.append_,Xm hu,Xm d,g,C,l,h2,VR] <;>
    (rw [hst];rfl)
   have hold:∀ (j:Nat) u,(x++r)[j]? = some u->c[off+j]? = some u:=by
    intro j u A
    show ((arr.toList.take (off+xs.length * R.sz+0)++r++arr.toList.drop (off+xs.length * R.sz+0+r.length)).toArray)[off+j]? = some u
    simp only [Nat.add_zero,List.getElem?_toArray,List.append_assoc]
    have W:(arr.toList.take (off+xs.length * R.sz)).length=off+xs.length * R.sz:=by
     have hal:arr.toList.length=arr.size:=Array.length_toList
     rw [List.length_take,hal];omega
    rw [List.getElem?_append] at A
    split at A
    ·rename_i I
     rw [k.1] at I
     have hj':j < xs.length * R.sz:=I
     rw [Zn (by rw [W];omega),List.getElem?_take,if_pos (by omega)]
     have:=hmc j u A
     simpa using this
    ·rename_i hge
     rw [k.1] at hge A
     rw [Zo (by rw [W];omega),W,Zn (by have:=(List.getElem?_eq_some_iff.1 A).1;omega),
      show off+j-(off+xs.length * R.sz)=j-xs.length * R.sz by omega]
     exact A
   have hg:W4 F w F (w.setRow b c):=⟨fun _ h=>h,fun b' S=>setRow_other w b b' _ (fun e=>hF b rfl (e ▸ S))⟩
   refine ⟨_,w.setRow b c,G,.inr ⟨b,off,Yk,c,el,fz,hq,by rw [List.length_append],by rw [List.length_append];exact l,?_,?_,setRow_heap w b arr _ el fz hh,((k.append f).mono hg).row hold⟩,rfl,rfl,.m,by simp,?_,?_⟩
   ·have:c.size=arr.size:=by
     simp only [c,List.size_toArray,List.length_append,List.length_take,List.length_drop,Array.length_toList,V];omega
    rw [this];exact hsza
   ·have:c.size=arr.size:=by
     simp only [c,List.size_toArray,List.length_append,List.length_take,List.length_drop,Array.length_toList,V];omega
    rw [this];exact hth
   ·intro b' _ hne
    exact setRow_other w b b' _ (fun e=>hne (by rw [e];rfl))
   ·intro b' S
    cases S
    exact ⟨.inl rfl,by simpa using hbt⟩
  ·exact N (some ⟨b,off,none⟩) Yk x rfl k (fun w' hw=>by
    simp only [Builtin.firstCells]
    rw [<- k.1]
    exact run_loadCells_list w' _ x fun j u A=>by rw [VR,MC (by rw [hw];exact hh)];exact hmc j u A) (by omega)
theorem ZrW {α:Type} {P:Program} {t t2 ty:TypeId} {f:TD} (g:P.underlying t2=some .string\/∃ C,P.underlying t2=some (.slice C)) (ok:TD.Ok P t f) (m:Nat.beq f.kd 6=true) {R:TRep α} (r:f.es=R.sz) {F:YD} {w:World} {xs ys:List α} {v l:Value}
  (u:OwnR R F w xs v) (x:Hv P R F w ys l) (hF:∀ b,YQ v=some b->¬ F b) (h:∀ b,F b->b < w.heap.size) (j:∀ b,YQ v=some b->b < w.heap.size)
  (c:xs.length+ys.length<=lim) (k:f.eb<=32768) :
  ∃ d w',(Builtin.append_ #[t,t2] ty #[v,l]).run P w=.ok d w'/\OwnR R F w' (xs++ys) d/\w'.os=w.os/\w'.tape=w.tape/\Oq w w'/\w.heap.size<=w'.heap.size /\
   (∀ b,b < w.heap.size->YQ v≠some b->w'.heap[b]? = w.heap[b]?)/\(∀ b,YQ d=some b->(YQ v=some b\/w.heap.size<=b)/\b < w'.heap.size):=by
 have ⟨d,w',y,z,A⟩:=ZjY (fun _ _=>True) (ty:=ty) trivial g ok m r u.q x hF h j c k
 exact ⟨d,w',y,z.own,A⟩
end Go.Kx
end
section
namespace Go.Kx
variable [LxP]
section
variable {X:Ctx} {s:St} {E:Env} {F:YD} {w:World} {a:Act}
theorem Sat.addM' {m:MO} (c:Sat X s E F w a) (A:m.ok E F w s.nx) (C:m.kb (s.nx+1))
  (d:∀ b,m.fp E s.nx b->¬ F b/\¬ X.Z b/\b < w.heap.size/\∀ k m',Z3 s.M k=some m'->¬ m'.fp E k b) (q:m.isFresh=true->∀ b,m.fp E s.nx b->X.n0<=b) :
  Sat X ⟨s.L,(s.nx,m)::s.M,s.V,s.nx+1⟩ E F w a where
 wf:=⟨(c.wf.grow (Nat.le_succ _)).hL,fun k m' h=>by
   rw [YC] at h
   split at h
   ·rename_i e;cases h;subst e;exact ⟨Nat.lt_succ_self _,C⟩
   ·exact (c.wf.grow (Nat.le_succ _)).hM k m' h,(c.wf.grow (Nat.le_succ _)).hV⟩
 nk:=Nat.le_succ_of_le c.nk
 defers:=c.defers
 size:=c.size
 hL:=c.hL
 hV:=c.hV
 hM:=fun k m' h=>by
  rw [YC] at h
  split at h
  ·rename_i e;cases h;subst e;exact A
  ·exact c.hM k m' h
 dis:=fun k v x y j g l b f=>by
  rw [YC] at j g
  split at j
  ·rename_i D
   cases j;subst D
   split at g
   ·rename_i u;exact absurd u l
   ·exact (d b f).2.2.2 v y g
  ·split at g
   ·rename_i u
    cases g;subst u
    exact fun r=>(d b r).2.2.2 k x j f
   ·exact c.dis k v x y j g l b f
 mF:=fun k m' h b f=>by
  rw [YC] at h
  split at h
  ·rename_i e;cases h;subst e
   exact ⟨(d b f).1,(d b f).2.1,(d b f).2.2.1⟩
  ·exact c.mF k m' h b f
 fresh:=fun k m' h z b f=>by
  rw [YC] at h
  split at h
  ·rename_i e;cases h;subst e;exact q z b f
  ·exact c.fresh k m' h z b f
 hF:=c.hF
 hF0:=c.hF0
 hF1:=c.hF1
 hn0:=c.hn0
 hZ:=c.hZ
 ext:=c.ext
 link:=c.link
 one:=c.one
theorem Sat.freeze {α:Type} {R:TRep α} {xs:List α} {k:Nat} (c:Sat X s E F w a) (q:Z3 s.M k=some (.own R xs true)) :
  Sat X ⟨s.L,(k,.gone)::s.M,(k,.sl R xs)::s.V,s.nx⟩ E (fun b=>F b\/YQ (E.ρ k)=some b) w a:=by
 have A:=c.wf.hM k _ q
 have x:W4 F w (fun b=>F b\/YQ (E.ρ k)=some b) w:=⟨fun _ h=>.inl h,fun _ _=>rfl⟩
 have y:=c.mF k _ q
 exact {
  wf:=⟨c.wf.hL,fun j m h=>by
   rw [YC] at h
   split at h
   ·rename_i e;cases h;subst e;exact ⟨A.1,trivial⟩
   ·exact c.wf.hM j m h,fun j f h=>by
   rw [YC] at h
   split at h
   ·rename_i e;cases h;subst e;exact ⟨A.1,trivial⟩
   ·exact c.wf.hV j f h⟩
  nk:=c.nk
  defers:=c.defers
  size:=c.size
  hL:=c.hL
  hV:=fun j f h=>by
   rw [YC] at h
   split at h
   ·rename_i e;cases h;subst e
    have r:=c.hM k _ q
    simp only [MO.ok] at r
    rcases r with r | ⟨b,off,Yk,arr,ty,fz,z,D,_,_,G,I⟩
    ·exact .inl ⟨r.1,_,_,r.2⟩
    ·exact .inr ⟨b,off,Yk,arr,ty,fz,z,D,.inr (by rw [z];rfl),G,I.mono x⟩
   ·exact (c.hV j f h).mono x
  hM:=fun j m h=>by
   rw [YC] at h
   split at h
   ·cases h;trivial
   ·exact (c.hM j m h).mono x fun _ _=>rfl
  dis:=fun j C m m' h u g b d=>by
   rw [YC] at h u
   split at h
   ·cases h;exact d.elim
   ·split at u
    ·cases u;exact fun l=>l.elim
    ·exact c.dis j C m m' h u g b d
  mF:=fun j m h b d=>by
   rw [YC] at h
   split at h
   ·cases h;exact d.elim
   ·rename_i g
    have:=c.mF j m h b d
    refine ⟨?_,this.2⟩
    rintro (hF | l)
    ·exact this.1 hF
    ·exact c.dis k j _ m q h g b l d
  fresh:=fun j m h v b d=>by
   rw [YC] at h
   split at h
   ·cases h;exact d.elim
   ·exact c.fresh j m h v b d
  hF:=fun b d=>by
   rcases d with d | d
   ·exact c.hF b d
   ·exact (y b d).2.2
  hF0:=fun b d=>.inl (c.hF0 b d)
  hF1:=fun b d=>by
   rcases d with d | d
   ·exact c.hF1 b d
   ·exact .inr ⟨c.fresh k _ q rfl b d,(c.mF k _ q b d).2.1⟩
  hn0:=c.hn0
  hZ:=c.hZ
  ext:=c.ext
  link:=c.link
  one:=c.one }
theorem ZgE {α:Type} {R:TRep α} {F w} {xs:List α} {v:Value} (h:OwnR R F w xs v):v.oneCell'=true:=by
 rcases h with ⟨_,rfl⟩ | ⟨_,_,_,_,_,_,rfl,_⟩<;>rfl
theorem Sat.newOwn {α:Type} {R:TRep α} {xs:List α} {v:Value} {fr:Bool} (f:Sat X s E F w a) (m:OwnR R F w xs v)
  (g:∀ b,YQ v=some b->¬ F b/\¬ X.Z b/\b < w.heap.size/\∀ k m',Z3 s.M k=some m'->¬ m'.fp E k b) (h:fr=true->∀ b,YQ v=some b->X.n0<=b) :
  ∃ E',E'.ρ s.nx=v/\Sat X ⟨s.L,(s.nx,.own R xs fr)::s.M,s.V,s.nx+1⟩ E' F w a:=by
 have r:E.Eqb s.nx (E.setρ s.nx v):=E.eqb_setρ _ _ _ (Zp _)
 have d:(E.setρ s.nx v).ρ s.nx=v:=by simp [Env.setρ]
 have A:=f.env r (fun j=>by
  simp only [Env.setρ];split
  ·exact ZgE m
  ·exact f.one j)
 refine ⟨_,d,A.addM' ?_ trivial ?_ ?_⟩
 ·show OwnR R F w xs ((E.setρ s.nx v).ρ s.nx)
  rw [d];exact m
 ·intro b c
  have c:YQ ((E.setρ s.nx v).ρ s.nx)=some b:=c
  rw [d] at c
  have ⟨u,x,y,z⟩:=g b c
  exact ⟨u,x,y,fun k m' q l=>z k m' q ((MO.fp_eqb r (f.wf.hM k m' q).1).1 l)⟩
 ·intro l b c
  have c:YQ ((E.setρ s.nx v).ρ s.nx)=some b:=c
  rw [d] at c
  exact h l b c
end
section
variable {X:Ctx} {s:St} {tt:List (Nat × TD)} {ops:Array Oper} {todo:Act->World->Prop}
def Sh {α:Type} (X:Ctx) (s:St) (R:TRep α) (ys:List α) (c:SC):Prop:=∀ E F w a,Sat X s E F w a->Hv X.P R F w ys (Yd E c)
theorem Zst {α:Type} {R:TRep α}:Sh X s R ([]:List α) .nil:=fun _ _ _ _ _=>Rd.of_nil.src
theorem Zss {α:Type} {R:TRep α} {ys:List α} {k:Nat} (h:Z3 s.V k=some (.sl R ys)):Sh X s R ys (.sl k):=fun _ _ _ _ c=>(Rd.of_sl (c.hV k _ h)).src
theorem Zkk {α:Type} {R:TRep α} {ys:List α} {k:Nat} {fr:Bool} (h:Z3 s.M k=some (.own R ys fr)):Sh X s R ys (.sl k):=fun _ _ _ _ c=>(Rd.of_own (c.hM k _ h)).src
theorem Ziv {P:Program} {t:TypeId} {d:TD} (h:TD.Ok P t d) (c:(Nat.beq d.kd 6 || Nat.beq d.kd 2)=true):P.underlying t=some .string\/∃ e,P.underlying t=some (.slice e):=by
 rw [Bool.or_eq_true] at c
 rcases c with c | c
 ·have ⟨e,f,_⟩:=h.sliceOf c;exact .inr ⟨e,f⟩
 ·exact .inl (h.str c)
theorem WPr.app {α:Type} {R:TRep α} (htt:TTOk X.P tt) {i:Nat} {q:List Nat} {o:Oper} {t t2:TypeId} {K r:TD} {x y:Operand} {d k:Nat} {fr:Bool} {C:SC} {xs ys zs:List α}
  (O:YT xs ys=some zs) (D:Sh X s R ys C) (N:ops[i]? = some o) (hg:YJ ops s.L o=some true) (S:o.op=.call { callee:=.builtin .append,args:=#[x,y],argTypes:=#[t,t2] }) (hd:o.dst=some d)
  (hx:Yq s.L x=some (.c (.sl k))) (G:Z3 s.M k=some (.own R xs fr)) (hy:Yq s.L y=some (.c C)) (ht:Z3 tt t=some K) (T:Z3 tt t2=some r)
  (hc:(Nat.blt d X.fn.ntmps && Nat.beq K.kd 6 && (Nat.beq r.kd 6 || Nat.beq r.kd 2) && Nat.beq K.es R.sz && Nat.ble K.eb 32768)=true)
  (kk:WPr X ops q todo ⟨(d,.c (.sl s.nx))::s.L,(s.nx,.own R zs fr)::(k,.gone)::s.M,s.V,s.nx+1⟩):WPr X ops (i::q) todo s:=by
 refine WPr.op N hg (fun E F w a f=>?_) kk
 simp only [Zc] at hc
 obtain ⟨⟨⟨⟨c1,c2⟩,U⟩,c3⟩,c4⟩:=hc
 obtain ⟨rfl,hl⟩:=Zmj O
 have ⟨e1,_⟩:=f.eval hx
 have ⟨e2,_⟩:=f.eval hy
 have N:=f.hM k _ G
 simp only [MO.ok] at N
 have A:=f.mF k _ G
 have Y:=Ziv (htt.get T) U
 have ⟨v',w',I,W,g1,g2,g3,g4,g5,g6⟩:=ZrW (ty:=o.type) Y (htt.get ht) c2 (Zd c3) N (D E F w a f) (fun b l=>(A b l).1) f.hF (fun b l=>(A b l).2.2) hl (Zf c4)
 refine Wx (v:=v') (w':=w') (Sm S ?_) ?_
 ·simp only [List.map_toArray,List.map_cons,List.map_nil,e1,e2,Yj,Yd]
  exact Y9 I
 ·have s1:=f.setM (m':=.gone) G g1 g2 g3 g4 (fun b l u=>g5 b l (fun e=>u e)) (fun _ h=>h.elim) trivial trivial (fun h=>by cases h)
  have ⟨E',hv,s2⟩:=s1.newOwn (fr:=fr) W (fun b l=>by
    have ⟨g,h2⟩:=g6 b l
    rcases g with g | g
    ·have:=A b g
     refine ⟨this.1,this.2.1,h2,fun j m' m z=>?_⟩
     simp only [YC] at m
     split at m
     ·cases m;exact z.elim
     ·rename_i u;exact f.dis k j _ m' G m u b g z
    ·refine ⟨fun hF=>absurd (f.hF b hF) (Nat.not_lt.2 g),fun O=>absurd (Zi (f.hZ b O) f.ext.size) (Nat.not_lt.2 g),h2,fun j m' m z=>?_⟩
     simp only [YC] at m
     split at m
     ·cases m;exact z.elim
     ·exact absurd (f.mF j m' m b z).2.2 (Nat.not_lt.2 g))
   (fun z b l=>by
    rcases (g6 b l).1 with g | g
    ·exact f.fresh k _ G z b g
    ·exact Nat.le_trans f.hn0 (Nat.le_trans f.ext.size g))
  have Z:=s2.setL (d:=d) (v:=.c (.sl s.nx)) (Nat.lt_succ_self _) (YZ c1)
  simp only [Yj,Yd] at Z
  rw [show E'.ρ s.nx=v' from hv] at Z
  rw [hd]
  exact ⟨E',F,Z⟩
end
end Go.Kx
end
namespace Go.Kx
section
variable [LxP]
def ME {α:Type} {R:TRep α} (O:YU R) (V:Nat->Option VF):List α->List SC->Prop
 | [],cs=>cs=[]
 | x::xs,cs=>O.chk V x (cs.take R.sz)/\ME O V xs (cs.drop R.sz)
theorem Bn {α:Type} {R:TRep α} (O:YU R) {V:Nat->Option VF} {E:Env} {F:YD} {w:World} (hV:∀ k f,V k=some f->f.ok E F w (E.ρ k)) :
  ∀ {xs:List α} {cs:List SC},ME O V xs cs->RowL R F w xs (cs.map (Yd E))
 | [],cs,h=>by
  have h:cs=[]:=h
  subst h
  exact ⟨by simp,by simp⟩
 | x::xs,cs,h=>by
  have ⟨l,m⟩:=h
  have d:=O.cok l E F w hV
  have q:=Bn O hV m
  have r:((cs.take R.sz).map (Yd E)).length=R.sz:=R.len d
  have:RowL R F w [x] ((cs.take R.sz).map (Yd E)):=by
   refine ⟨by rw [r];simp,fun i y c=>?_⟩
   cases i with
   | zero =>
    simp only [List.getElem?_cons_zero,Option.some.injEq] at c
    subst c
    exact ⟨_,d,fun j v g=>by simpa using g⟩
   | succ i=>simp at c
  have:=this.append q
  rw [<- List.map_append,List.take_append_drop] at this
  exact this
def Tw (z:List SC) (n:Nat):List SC:=(List.range n).map fun i=>z.getD (i % z.length) .nil
section
variable {X:Ctx} {s:St} {tt:List (Nat × TD)} {ops:Array Oper} {todo:Act->World->Prop}
theorem Sat.newRow {α:Type} {R:TRep α} {xs:List α} {E:Env} {F:YD} {w:World} {a:Act} (f:Sat X s E F w a) {arr:Array Value} {ty:TypeId} {Yk:Nat} (x:∀ w',W4 F w F w'->Row R F w' xs arr 0) (y:xs.length<=Yk)
  (q:Yk * R.sz<=arr.size) {d:Nat} (z:d < X.fn.ntmps) {w2:World} (k:w2.heap=w.heap.push (.cells arr ty)) (A:w2.os=w.os) (C:w2.tape=w.tape) (D:Oq w w2) :
  ∃ E' U,Sat X ⟨(d,.c (.sl s.nx))::s.L,(s.nx,.own R xs true)::s.M,s.V,s.nx+1⟩ E' U w2 (a.put (some d) (.slice (some ⟨w.heap.size,0,none⟩) xs.length Yk)):=by
 have g:∀ b,b < w.heap.size->w2.heap[b]? = w.heap[b]? := fun b l=>by
  rw [k,Array.getElem?_push,if_neg (Nat.ne_of_lt l)]
 have m:w2.heap[w.heap.size]? = some (.cells arr ty):=by rw [k];simp
 have r:w2.heap.size=w.heap.size+1:=by rw [k];simp
 have S:=f.world A C D (by omega) g
 have T:W4 F w F w2:=⟨fun _ h=>h,fun b l=>g b (f.hF b l)⟩
 have ⟨E',N,O⟩:=S.newOwn (R:=R) (xs:=xs) (v:=.slice (some ⟨w.heap.size,0,none⟩) xs.length Yk) (fr:=true)
  (.inr ⟨w.heap.size,0,Yk,arr,ty,(0,0),rfl,y,by rw [Nat.zero_add];exact q,ZeC _,m,x w2 T⟩)
  (fun b l=>by
   cases l
   exact ⟨fun hF=>absurd (f.hF _ hF) (Nat.lt_irrefl _),fun G=>absurd (Zi (f.hZ _ G) f.ext.size) (Nat.lt_irrefl _),(show w.heap.size < w2.heap.size by omega),fun j m' I K=>absurd (f.mF j m' I _ K).2.2 (Nat.lt_irrefl _)⟩)
  (fun _ b l=>by cases l;exact Nat.le_trans f.hn0 f.ext.size)
 have u:=O.setL (d:=d) (v:=.c (.sl s.nx)) (Nat.lt_succ_self _) z
 simp only [Yj,Yd] at u
 rw [show E'.ρ s.nx=_ from N] at u
 exact ⟨E',F,u⟩
theorem ZlI {E:Env} {z:Value} {zs:List SC} (g:z.cells=(zs.map (Yd E)).toArray) (n:Nat) (j:n=0\/zs≠[]) :
  ((Array.range n).map (fun i=>z.cells[i % z.cells.size]!)).toList=(Tw zs n).map (Yd E):=by
 apply List.ext_getElem?
 intro i
 simp only [Tw,Array.toList_map,Array.toList_range,List.getElem?_map,List.map_map]
 by_cases hi:i < n
 ·have d:zs≠[]:=by
   rcases j with h | h
   ·omega
   ·exact h
  have c:0 < zs.length:=List.length_pos_iff.2 d
  have f:i % zs.length < zs.length:=Nat.mod_lt _ c
  simp only [List.getElem?_range hi,Option.map_some,g,List.size_toArray,List.length_map,Function.comp]
  rw [getElem!_pos _ _ (by simpa using f)]
  simp [List.getD,Za f]
 ·simp [List.getElem?_eq_none (show (List.range n).length<=i by simp;omega)]
theorem WPr.bs {α:Type} {R:TRep α} (O:YU R) (htt:TTOk X.P tt) (xs:List α) {i:Nat} {A:List Nat} {o:Oper} {t len:Nat} {q C:TD} {l:Array (Nat × Operand)} {d:Nat} {cs:List SC}
  (ho:ops[i]? = some o) (hg:YJ ops s.L o=some true) (Z:o.op=.buildSlice t len l) (hd:o.dst=some d) (ht:Z3 tt t=some q) (u:Z3 tt q.el=some C)
  (hf:Uc (VC q.es len) s.L l.toList (Tw C.z (len * q.es))=some cs) (hk:ME O (Z3 s.V) xs cs)
  (hc:(Nat.blt d X.fn.ntmps && Nat.beq q.kd 6 && Nat.beq q.es R.sz && Nat.beq xs.length len && Nat.ble (len * q.es) 16777216 && !C.z.isEmpty)=true)
  (k:WPr X ops A todo ⟨(d,.c (.sl s.nx))::s.L,(s.nx,.own R xs true)::s.M,s.V,s.nx+1⟩):WPr X ops (i::A) todo s:=by
 refine WPr.op ho hg (fun E F w a hs=>?_) k
 simp only [Zc] at hc
 obtain ⟨⟨⟨⟨⟨c1,c2⟩,c3⟩,Y⟩,c5⟩,c6⟩:=hc
 have c3:=Zd c3
 have Y:=Zd Y
 have c5:=Zf c5
 have ⟨ie,hu,N,S,_,_⟩:=(htt.get ht).slc c2
 have hz:(sizeOf q.el).run X.P w=.ok q.es w:=by simp [sizeOf,typeInfo,N,S]
 have ⟨z,hzr,hzc⟩:=Zat w (htt.get u)
 have hzl:C.z.length=q.es:=by
  have h1:=(htt.get u).2.2.2
  have ⟨i',z',T,hs',_⟩:=(htt.get u).info
  rw [N] at T
  cases T
  rw [h1,<- hs',S]
 have G:C.z≠[]:=by intro h;rw [h] at c6;simp at c6
 have ⟨r,K,D,hkb⟩:=BC hs (VC q.es len) (fun i=>some (i * q.es,q.es)) (fun i o sz g hi=>by
   have:=Zdc _ _ _ _ hi;simp only [Zq] at this;rw [this.1,this.2.1]) l.toList (Tw C.z (len * q.es)) cs
   ((Array.range (len * q.es)).map fun i=>z.cells[i % z.cells.size]!) hf (by
    intro y hy
    simp only [Tw,List.mem_map] at hy
    obtain ⟨j,_,rfl⟩:=hy
    have hm:j % C.z.length < C.z.length:=Nat.mod_lt _ (List.length_pos_iff.2 G)
    simp only [List.getD,Za hm,Option.getD_some]
    exact BQ (htt.get u) _ (List.getElem_mem hm)) (ZlI (hzc E) _ (.inr G))
 have I:=Bn O (E:=E) (F:=F) (w:=w) (fun k f h=>hs.hV k f h) hk
 have U:(execOp a.eval o).run X.P w=.ok (.value (.slice (some ⟨w.heap.size,0,none⟩) len len)) (w.alloc (.cells r q.el)):=by
  simp only [execOp,Z]
  refine Y9 ?_
  have W:(l.map fun (i,x)=>(i,a.eval x)).toList=l.toList.map fun (i,x)=>(i,a.eval x):=by simp
  have hne:¬ (2 ^ 24 < len * q.es):=by omega
  simp only [Instr.buildSlice,Sem.run_bind,Xm hu,Result.andThen_ok,hz,W]
  by_cases h0:len * q.es=0
  ·have key:∀ f:Nat->Value,(Array.range (len * q.es)).map f=#[]:=by intro f;rw [h0];simp
   rw [key] at K
   have hgt:¬ ((0:Nat) > 2 ^ 24):=by omega
   rw [h0] at key ⊢
   simp only [hgt,if_false,Sem.run_bind,if_true,Sem.run_pure,Result.andThen_ok,newRow]
   rw [key]
   simp only [K,Sem.run_pure,Sem.run_bind,run_newObj,Result.andThen_ok]
   rfl
  ·simp [h0,hne,hzr,K,newRow]
 refine Wx U ?_
 have hx:=hs.newRow (R:=R) (xs:=xs) (arr:=r) (ty:=q.el) (Yk:=len) (fun w' g=>(I.mono g).row (off:=0) (fun j v hj=>by
   rw [Nat.zero_add,<- Array.getElem?_toList,D];exact hj)) (by omega) (by
   rw [<- Array.length_toList,D,I.1,Y];exact Zp _) (d:=d) (YZ c1) (w2:=w.alloc (.cells r q.el)) rfl rfl rfl .m
 rw [Y] at hx
 rw [hd]
 exact hx
theorem WPr.ixo {α:Type} {R:TRep α} (htt:TTOk X.P tt) {i:Nat} {g:List Nat} {o:Oper} {t:TypeId} {y:TD} {x D:Operand} {d k:Nat} {ik:IntKind} {n:Int} {xs:List α} {e:α} {fr:Bool}
  (hi:Z5 xs n=some e) (S:ops[i]? = some o) (T:YJ ops s.L o=some true) (z:o.op=.indexAddr t x D) (U:o.dst=some d)
  (W:Yq s.L x=some (.c (.sl k))) (hM:Z3 s.M k=some (.own R xs fr)) (Y:Yq s.L D=some (.c (.i ik n))) (Z:Z3 tt t=some y)
  (G:(Nat.blt d X.fn.ntmps && Nat.beq y.kd 6 && Nat.beq y.es R.sz)=true)
  (k:WPr X ops g todo ⟨(d,.c (.px s.nx 0))::s.L,s.M,(s.nx,.el k (n.toNat * R.sz))::s.V,s.nx+1⟩):WPr X ops (i::g) todo s:=by
 refine WPr.op S T (fun E F w a h=>?_) k
 rename_i u
 simp only [Zc] at G
 obtain ⟨⟨c1,c2⟩,A⟩:=G
 have A:=Zd A
 have ⟨h0,h1,C⟩:=Q7 hi
 have ⟨el,hu,hz⟩:=(htt.get Z).sliceOf c2
 have l:=h.hM u _ hM
 simp only [MO.ok] at l
 rcases l with ⟨rfl,_⟩ | ⟨b,off,Yk,arr,ty,fz,I,K,_,_,hh,hr⟩
 ·simp at C
 have ⟨e1,_⟩:=h.eval W
 have ⟨e3,_⟩:=h.eval Y
 have m:(execOp a.eval o).run X.P w=.ok (.value (.pointer (some ⟨b,off+n.toNat * R.sz,none⟩))) w:=by
  simp only [execOp,z,e1,e3,Yj,Yd,I]
  refine Y9 ?_
  rw [<- A]
  exact Zek w hu (hz w) h0 h1
 refine Wx m ?_
 have N:E.Eqb s.nx (E.setρ s.nx (.pointer (some ⟨b,off+n.toNat * R.sz,none⟩))):=E.eqb_setρ _ _ _ (Zp _)
 have q:(E.setρ s.nx (.pointer (some ⟨b,off+n.toNat * R.sz,none⟩))).ρ s.nx=.pointer (some ⟨b,off+n.toNat * R.sz,none⟩):=by simp [Env.setρ]
 have s1:=h.env N (fun j=>by
  simp only [Env.setρ];split
  ·rfl
  ·exact h.one j)
 have r:=(h.wf.hM u _ hM).1
 have s2:=s1.addV (f:=.el u (n.toNat * R.sz)) (by
  show _=VQ _ _/\_
  rw [q,(N u r).1,I]
  exact ⟨rfl,_,_,rfl⟩) (Nat.lt_succ_of_lt r)
 have O:=s2.setL (d:=d) (v:=.c (.px s.nx 0)) (Nat.lt_succ_self _) (YZ c1)
 simp only [Yj,Yd,q,VQ,Nat.add_zero] at O
 rw [U]
 exact ⟨_,F,O⟩
theorem WPr.ldo {α:Type} {R:TRep α} (O:YU R) (htt:TTOk X.P tt) {i:Nat} {f:List Nat} {o:Oper} {t:TypeId} {C:TD} {x:Operand} {d k q off:Nat} {n:Int} {xs:List α} {e:α} {fr:Bool} {v:SV}
  (hi:Z5 xs n=some e) (K:ops[i]? = some o) (N:YJ ops s.L o=some true) (y:o.op=.load t x) (S:o.dst=some d)
  (T:Yq s.L x=some (.c (.px q off))) (hV:Z3 s.V q=some (.el k (n.toNat * R.sz))) (hM:Z3 s.M k=some (.own R xs fr)) (U:Z3 tt t=some C)
  (D:Ta C off (O.cells s.nx e)=some v) (W:Nat.blt d X.fn.ntmps=true)
  (k:WPr X ops f todo ⟨(d,v)::s.L,s.M,O.facts s.nx e++s.V,s.nx+O.nk⟩):WPr X ops (i::f) todo s:=by
 refine WPr.op K N (fun E F w a h=>?_) k
 rename_i k0
 have ⟨_,_,l⟩:=Q7 hi
 have r:=h.hM k0 _ hM
 simp only [MO.ok] at r
 rcases r with ⟨rfl,_⟩ | ⟨b,G,Yk,arr,ty,fz,hv,I,_,_,hh,hr⟩
 ·simp at l
 have ⟨vs,m,z⟩:=hr n.toNat e l
 have ⟨E2,a1,_,_,a3,a4,a5,a6⟩:=O.ok m s.nx E h.one
 have ⟨hq,_⟩:=h.hV q _ hV
 have hqn:=(h.wf.hV q _ hV).1
 have g:∀ (j:Nat) c,(O.cells s.nx e)[j]? = some c->arr[G+n.toNat * R.sz+j]? = some (Yd E2 c):=fun j c Y=>z j _ (by rw [a4,List.getElem?_map,Y];rfl)
 have A:=H7 (E:=E2) (base:=G+n.toNat * R.sz) (htt.get U) hh (cs:=O.cells s.nx e) g D
 have ⟨e1,_⟩:=h.eval T
 have u:(execOp a.eval o).run X.P w=.ok (.value (Yj E2 v)) w:=by
  have:(Instr.loadAt t (a.eval x)).run X.P w=.ok (Yj E2 v) w:=by
   rw [e1]
   simp only [Instr.loadAt,Yj,Yd,hq,hv,VQ,Instr.sureAddr,Sem.run_bind,Sem.run_pure,Result.andThen_ok,A]
  simp only [execOp,y]
  exact Y9 this
 refine Wx u ?_
 have s1:=h.env a1 a3
 have s2:=s1.addF (fs:=O.facts s.nx e) (n:=O.nk) (fun p Z=>a5 p Z)
 have s3:=s2.setL (d:=d) (v:=v) (ZdM D a6) (YZ W)
 rw [S]
 exact ⟨E2,F,s3⟩
def YA {α:Type} (xs:List α) (n:Int) (e:α):List α:=xs.set n.toNat e
theorem WPr.sto {α:Type} {R:TRep α} (O:YU R) (htt:TTOk X.P tt) {i:Nat} {N:List Nat} {o:Oper} {t:TypeId} {td:TD} {x y:Operand} {k q off:Nat} {n:Int} {xs:List α} {e:α} {fr:Bool} {v:SV} {g:List SC} (e':α)
  (hi:Z5 xs n=some e) (ho:ops[i]? = some o) (hg:YJ ops s.L o=some true) (hop:o.op=.store t x y) (hd:o.dst=none)
  (hx:Yq s.L x=some (.c (.px q off))) (hV:Z3 s.V q=some (.el k (n.toNat * R.sz))) (hM:Z3 s.M k=some (.own R xs fr)) (ht:Z3 tt t=some td)
  (hy:Yq s.L y=some v) (hp:Ug v=some g)
  (hk:O.chk (Z3 s.V) e' ((O.cells s.nx e).take off++g++(O.cells s.nx e).drop (off+g.length)))
  (hc:(Nat.beq g.length td.sz && Nat.ble (off+g.length) R.sz && (Nat.beq g.length R.sz || Nat.beq O.nk 0))=true)
  (k:WPr X ops N todo ⟨s.L,(k,.own R (YA xs n e') fr)::s.M,s.V,s.nx⟩):WPr X ops (i::N) todo s:=by
 refine WPr.op ho hg (fun E F w a G=>?_) k
 rename_i k0
 simp only [Zc,Bool.or_eq_true] at hc
 obtain ⟨⟨c1,c2⟩,c3⟩:=hc
 have c1:=Zd c1
 have c2:=Zf c2
 have ⟨_,_,W⟩:=Q7 hi
 have hsl:=G.hM k0 _ hM
 simp only [MO.ok] at hsl
 rcases hsl with ⟨rfl,_⟩ | ⟨b,l,Yk,arr,ty,fz,hv,hcap,hsza,hth,hh,hr⟩
 ·simp at W
 have ⟨vs,S,hvs⟩:=hr n.toNat e W
 have ⟨E2,a1,_,a2,a3,a4,a5,a6⟩:=O.ok S s.nx E G.one
 have ⟨hq,_⟩:=G.hV q _ hV
 have ⟨e1,_⟩:=G.eval hx
 have ⟨e2,ek⟩:=G.eval hy
 have ⟨ec,ekk⟩:=ZaC (s:=s) G.one hp ek
 have hvl:=R.len S
 have hcl:(O.cells s.nx e).length=R.sz:=by rw [<- hvl,a4,List.length_map]
 have hin:n.toNat < xs.length:=(List.getElem?_eq_some_iff.1 W).1
 have hroom:l+n.toNat * R.sz+R.sz<=arr.size:=by
  have:(n.toNat+1) * R.sz<=Yk * R.sz:=Nat.mul_le_mul_right _ (by omega)
  rw [Nat.add_mul] at this
  omega
 have C:(g.map (Yd E)).length=g.length:=List.length_map ..
 have hst:=M5 (P:=X.P) b (l+n.toNat * R.sz+off) ty fz (g.map (Yd E)) 0 arr w hh hth (by rw [C];omega)
  (by intro u hu;obtain ⟨c,hc',rfl⟩:=List.mem_map.1 hu;exact MH G.one (ekk c hc'))
 let d:=(arr.toList.take (l+n.toNat * R.sz+off+0)++g.map (Yd E)++arr.toList.drop (l+n.toNat * R.sz+off+0+(g.map (Yd E)).length)).toArray
 have hrun:(execOp a.eval o).run X.P w=.ok .skip (w.setRow b d):=by
  have hsv:(Instr.storeAt t (a.eval x) (a.eval y)).run X.P w=.ok () (w.setRow b d):=by
   rw [e1,e2]
   have hsz:(Yj E v).cells.size=td.sz:=by rw [ec];simp [c1]
   have hp:Yj E (.c (.px q off))=.pointer (some ⟨b,l+n.toNat * R.sz+off,none⟩):=by
    show VQ (E.ρ q) off=_
    rw [hq,hv];rfl
   rw [hp]
   simp only [Instr.storeAt,Instr.sureAddr,Sem.run_bind,Sem.run_pure,Result.andThen_ok,storeVar,Zas w (htt.get ht),hsz,ne_eq,not_true_eq_false,if_false]
   have:(Yj E v).cells.toList=g.map (Yd E):=by rw [ec]
   rw [this]
   exact hst
  simp only [execOp,hop,Sem.run_bind,hsv,Result.andThen_ok,Sem.run_pure]
 refine ZeH hrun ?_
 have hmf:=G.mF k0 _ hM
 have hbF:¬ F b:=(hmf b (by show YQ (E.ρ k0)=some b;rw [hv];rfl)).1
 have hg:W4 F w F (w.setRow b d):=⟨fun _ h=>h,fun b' hb'=>setRow_other w b b' _ (fun h=>hbF (h ▸ hb'))⟩
 have T:d.size=arr.size:=by
  have Y:arr.toList.length=arr.size:=Array.length_toList
  simp only [d,List.size_toArray,List.length_append,List.length_take,List.length_drop,Y,C];omega
 -- what the cells are now
 have U:∀ j,d[j]? = if l+n.toNat * R.sz+off<=j/\j < l+n.toNat * R.sz+off+g.length then (g.map (Yd E))[j-(l+n.toNat * R.sz+off)]? else arr[j]? := by
  intro j
  have Y:arr.toList.length=arr.size:=Array.length_toList
  have Z:(arr.toList.take (l+n.toNat * R.sz+off)).length=l+n.toNat * R.sz+off:=by rw [List.length_take,Y];omega
  show ((arr.toList.take (l+n.toNat * R.sz+off+0)++g.map (Yd E)++arr.toList.drop (l+n.toNat * R.sz+off+0+(g.map (Yd E)).length)).toArray)[j]? = _
  simp only [Nat.add_zero,List.getElem?_toArray,List.append_assoc,C]
  by_cases c:j < l+n.toNat * R.sz+off
  ·rw [Zn (by rw [Z];exact c),List.getElem?_take,if_pos c,if_neg (by omega)];simp
  ·rw [Zo (by rw [Z];omega),Z]
   by_cases c':j < l+n.toNat * R.sz+off+g.length
   ·rw [Zn (by rw [C];omega),if_pos ⟨by omega,c'⟩]
   ·rw [Zo (by rw [C];omega),C,List.getElem?_drop,if_neg (by omega)]
    rw [show l+n.toNat * R.sz+off+g.length+(j-(l+n.toNat * R.sz+off)-g.length)=j by omega]
    simp
 have hEc:∀ (j:Nat) (c:SC),(O.cells s.nx e)[j]? = some c->(j < off\/off+g.length<=j)->Yd E c=Yd E2 c:=by
  intro j c z hout
  rcases c3 with h | h
  ·have:=Zd h
   have hjl:=(List.getElem?_eq_some_iff.1 z).1
   omega
  ·have h:=Zd h
   have hk':=a6 c (Zb z)
   rw [h,Nat.add_zero] at hk'
   exact (MG a1 hk').symm
 have D:R.rep F (w.setRow b d) e' (((O.cells s.nx e).take off++g++(O.cells s.nx e).drop (off+g.length)).map (Yd E)) :=
  R.mono hg (O.cok hk E F w (fun k f h=>G.hV k f h))
 have hrow:Row R F (w.setRow b d) (YA xs n e') d l:=by
  intro i' x' A
  unfold YA at A
  rw [List.getElem?_set] at A
  split at A
  ·rename_i hii
   try rw [if_pos hin] at A
   cases A
   refine ⟨_,D,fun j u z=>?_⟩
   rw [U,<- hii]
   rw [List.getElem?_map] at z
   have r:((O.cells s.nx e).take off).length=off:=by rw [List.length_take,hcl];omega
   by_cases c:off<=j/\j < off+g.length
   ·rw [if_pos ⟨by omega,by omega⟩,show l+n.toNat * R.sz+j-(l+n.toNat * R.sz+off)=j-off by omega,List.getElem?_map]
    rw [List.append_assoc,Zo (by rw [r];exact c.1),r,Zn (by omega)] at z
    exact z
   ·rw [if_neg (by omega)]
    have hkeep:∃ I,(O.cells s.nx e)[j]? = some I/\u=Yd E I:=by
     rcases Nat.lt_or_ge j off with K | hge
     ·rw [List.append_assoc,Zn (by rw [r];exact K),List.getElem?_take,if_pos K] at z
      rw [Zm] at z
      have ⟨I,h1,h2⟩:=z
      exact ⟨I,h1,h2.symm⟩
     ·rw [List.append_assoc,Zo (by rw [r];exact hge),r,Zo (by omega),List.getElem?_drop,
       show off+g.length+(j-off-g.length)=j by omega,Zm] at z
      have ⟨I,h1,h2⟩:=z
      exact ⟨I,h1,h2.symm⟩
    have ⟨I,h1,h2⟩:=hkeep
    have:=hvs j (Yd E2 I) (by rw [a4,List.getElem?_map,h1];rfl)
    rw [h2,hEc j I h1 (by omega)]
    exact this
  ·rename_i hne
   have ⟨us,hu,huv⟩:=hr i' x' A
   refine ⟨us,R.mono hg hu,fun j u z=>?_⟩
   have hjl:j < R.sz:=by rw [<- R.len hu];exact (List.getElem?_eq_some_iff.1 z).1
   rw [U,if_neg]
   ·exact huv j u z
   ·rintro ⟨g1,g2⟩
    rcases Nat.lt_or_ge i' n.toNat with K | hge
    ·have:(i'+1) * R.sz<=n.toNat * R.sz:=Nat.mul_le_mul_right _ K
     rw [Nat.add_mul] at this;omega
    ·have:(n.toNat+1) * R.sz<=i' * R.sz:=Nat.mul_le_mul_right _ (by omega)
     rw [Nat.add_mul] at this;omega
 refine ⟨E,F,?_⟩
 rw [hd]
 refine G.setM (m':=.own R (YA xs n e') fr) hM rfl rfl .m (by simp) (fun b' _ hne=>setRow_other w b b' _ (fun h=>hne (by subst h;show YQ (E.ρ k0)=some b';rw [hv];rfl))) (fun _ h=>h) ?_ trivial (fun h=>h)
 refine .inr ⟨b,l,Yk,d,ty,fz,?_,?_,by rw [T];exact hsza,by rw [T];exact hth,setRow_heap w b arr _ ty fz hh,hrow⟩
 ·rw [hv];simp [YA]
 ·simpa [YA] using hcap
end
end
section
variable [LxP]
abbrev Z1 (n:Int):Int:=IntKind.i64.wrap n
abbrev wk (k:IntKind) (n:Int):Int:=k.wrap n
abbrev str (l:List UInt8):ByteArray:=⟨⟨l⟩⟩
abbrev Q0 {α:Type} (_:Nat):Option α:=none
theorem HU {α:Type} {c:Bool} {x y:Option α} {r:α} (h:(bif c then x else y)=some r):(c=false/\y=some r)\/(c=true/\x=some r):=(oc h).symm
section
variable {X:Ctx} {s:St} {ops:Array Oper} {todo:Act->World->Prop}
end
end
section
variable [LxP]
section
variable {X:Ctx} {s:St} {ops:Array Oper} {todo:Act->World->Prop} {tt:List (Nat × TD)}
end
end
section
variable [LxP]
def U1 (op:BinOp) (k:IntKind) (m n:Int):Option Int:=match op with
 | .quo=>bif n==0 then none else some (k.wrap (m.tdiv n))
 | .rem=>bif n==0 then none else some (m.tmod n)
 | .shl=>bif decide (n < 0) then none else some (k.wrap (m * 2 ^ (min n.toNat k.bits)))
 | .shr=>bif decide (n < 0) then none else some (m.fdiv (2 ^ (min n.toNat k.bits)))
 | .and=>some (k.wrap ((BitVec.ofInt k.bits m &&& BitVec.ofInt k.bits n).toNat:Int))
 | .or=>some (k.wrap ((BitVec.ofInt k.bits m ||| BitVec.ofInt k.bits n).toNat:Int))
 | .xor=>some (k.wrap ((BitVec.ofInt k.bits m ^^^ BitVec.ofInt k.bits n).toNat:Int))
 | .andNot=>some (k.wrap ((BitVec.ofInt k.bits m &&& ~~~ BitVec.ofInt k.bits n).toNat:Int))
 | _=>none
def BL:BinOp->Bool
 | .shl | .shr=>true
 | _=>false
theorem Zmv {P:Program} {d:BinOp} {t:TypeId} {x y:Operand} {k f:IntKind} {m n z:Int} {w:World} (h:U1 d k m n=some z) (g:(BL d || decide (k=f))=true) :
  (do eqGuard d t x y (.int k m) (.int f n);binOp d t (.int k m) (.int f n):Sem Value).run P w=.ok (.int k z) w:=by
 cases d<;>simp only [U1] at h<;>(try (cases h;done))
 all_goals simp only [BL,Bool.false_or,Bool.true_or,decide_eq_true_eq] at g
 all_goals try subst g
 ·cases c:(n==0) with
  | true=>rw [c] at h;cases h
  | false =>
   rw [c] at h;cases h
   have:¬ n=0:=by simpa using c
   simp [eqGuard,binOp,Op.intDiv,this]
 ·cases c:(n==0) with
  | true=>rw [c] at h;cases h
  | false =>
   rw [c] at h;cases h
   have:¬ n=0:=by simpa using c
   simp [eqGuard,binOp,Op.intDiv,this]
 ·cases h;simp [eqGuard,binOp,Op.intBits]
 ·cases h;simp [eqGuard,binOp,Op.intBits]
 ·cases h;simp [eqGuard,binOp,Op.intBits]
 ·cases c:(decide (n < 0)) with
  | true=>rw [c] at h;cases h
  | false =>
   rw [c] at h;cases h
   have:¬ n < 0:=by simpa using c
   simp [eqGuard,binOp,Op.shift,this]
 ·cases c:(decide (n < 0)) with
  | true=>rw [c] at h;cases h
  | false =>
   rw [c] at h;cases h
   have:¬ n < 0:=by simpa using c
   simp [eqGuard,binOp,Op.shift,this]
 ·cases h;simp [eqGuard,binOp,Op.intBits]
def X7 (s:ByteArray) (n:Int):Option Int:=bif decide (0<=n) then s[n.toNat]?.map (fun b=>(b.toNat:Int)) else none
def YK (x y:ByteArray):Option ByteArray:=bif decide (((x.size+y.size:Nat):Int) > IntKind.i64.max) then none else some (x++y)
section
variable {X:Ctx} {s:St} {ops:Array Oper} {todo:Act->World->Prop} {tt:List (Nat × TD)}
theorem WPr.bin {i:Nat} {f:List Nat} {o:Oper} {t q:TypeId} {x y:Operand} {d:Nat} {op:BinOp} {k l:IntKind} {m n z:Int}
  (r:U1 op k m n=some z) (u:ops[i]? = some o) (A:YJ ops s.L o=some true) (h:o.op=.binOp op t x y q) (C:o.dst=some d)
  (D:Yq s.L x=some (.c (.i k m))) (G:Yq s.L y=some (.c (.i l n))) (I:(BL op || decide (k=l))=true) (K:Nat.blt d X.fn.ntmps=true)
  (N:WPr X ops f todo ⟨(d,.c (.i k z))::s.L,s.M,s.V,s.nx⟩):WPr X ops (i::f) todo s:=by
 refine WPr.op u A (fun E F w a j=>?_) N
 have ⟨O,_⟩:=j.eval D
 have ⟨R,_⟩:=j.eval G
 have g:(execOp a.eval o).run X.P w=.ok (.value (.int k z)) w:=by
  simp only [execOp,h,O,R,Yj,Yd]
  exact Y9 (Zmv r I)
 refine Wx g ⟨E,F,?_⟩
 rw [C]
 exact j.setL (v:=.c (.i k z)) trivial (YZ K)
theorem WPr.cat {i:Nat} {f:List Nat} {o:Oper} {t q:TypeId} {x y:Operand} {d:Nat} {m n z:ByteArray}
  (g:YK m n=some z) (r:ops[i]? = some o) (u:YJ ops s.L o=some true) (j:o.op=.binOp .add t x y q) (A:o.dst=some d)
  (C:Yq s.L x=some (.c (.s m))) (D:Yq s.L y=some (.c (.s n))) (G:Nat.blt d X.fn.ntmps=true)
  (I:WPr X ops f todo ⟨(d,.c (.s z))::s.L,s.M,s.V,s.nx⟩):WPr X ops (i::f) todo s:=by
 refine WPr.op r u (fun E F w a k=>?_) I
 have ⟨K,_⟩:=k.eval C
 have ⟨N,_⟩:=k.eval D
 have h:(execOp a.eval o).run X.P w=.ok (.value (.string z)) w:=by
  simp only [execOp,j,K,N,Yj,Yd]
  refine Y9 ?_
  unfold YK at g
  cases l:decide (((m.size+n.size:Nat):Int) > IntKind.i64.max) with
  | true=>rw [l] at g;cases g
  | false =>
   rw [l] at g;cases g
   have:¬ ((m.size+n.size:Nat):Int) > IntKind.i64.max:=by simpa using l
   simp only [eqGuard,binOp,Op.stringOp,this,if_false,Sem.run_bind,Sem.run_pure]
   rfl
 refine Wx h ⟨E,F,?_⟩
 rw [A]
 exact k.setL (v:=.c (.s z)) trivial (YZ G)
theorem WPr.sx (htt:TTOk X.P tt) {i:Nat} {f:List Nat} {o:Oper} {t:TypeId} {r:TD} {x y:Operand} {d:Nat} {ik:IntKind} {m:ByteArray} {n z:Int}
  (g:X7 m n=some z) (A:ops[i]? = some o) (C:YJ ops s.L o=some true) (k:o.op=.index t x y) (D:o.dst=some d)
  (G:Z3 tt t=some r) (h:Nat.beq r.kd 2=true)
  (I:Yq s.L x=some (.c (.s m))) (K:Yq s.L y=some (.c (.i ik n))) (N:Nat.blt d X.fn.ntmps=true)
  (O:WPr X ops f todo ⟨(d,.c (.i .u8 z))::s.L,s.M,s.V,s.nx⟩):WPr X ops (i::f) todo s:=by
 refine WPr.op A C (fun E F w a l=>?_) O
 have ⟨R,_⟩:=l.eval I
 have ⟨S,_⟩:=l.eval K
 have U:X.P.underlying t=some .string:=by
  have u:=(htt.get G).2.1
  have h:=Zd h
  unfold UJ at u
  split at u<;>simp_all
 have j:(execOp a.eval o).run X.P w=.ok (.value (.int .u8 z)) w:=by
  simp only [execOp,k,R,S,Yj,Yd]
  refine Y9 ?_
  unfold X7 at g
  cases q:decide (0<=n) with
  | false=>rw [q] at g;cases g
  | true =>
   rw [q] at g
   simp only [cond_true,Zm] at g
   obtain ⟨b,T,rfl⟩:=g
   have W:0<=n:=by simpa using q
   simp only [Instr.index,asIntOf,Sem.run_bind,Sem.run_pure,Result.andThen_ok,Xm U,W,if_true,T]
 refine Wx j ⟨E,F,?_⟩
 rw [D]
 exact l.setL (v:=.c (.i .u8 z)) trivial (YZ N)
end
end
section
variable [LxP]
theorem WP.condCT {X:Ctx} {s:St} {k:List Item} {x y:Code} (h:WP X (.code x::k) s):WP X (.code (.cond (.const (.bool true)) x y)::k) s:=fun E F w a c =>
 Runs.head (fun _ _ _ _=>.one (step_cond (t:=true) rfl)) (h E F w a c)
theorem WP.condCF {X:Ctx} {s:St} {k:List Item} {x y:Code} (h:WP X (.code y::k) s):WP X (.code (.cond (.const (.bool false)) x y)::k) s:=fun E F w a c =>
 Runs.head (fun _ _ _ _=>.one (step_cond (t:=false) rfl)) (h E F w a c)
def Wj (lo hi:Option Int) (len:Nat):Option (Nat × Nat) :=
 bif decide (0<=lo.getD 0) && decide (lo.getD 0<=hi.getD len) && decide (hi.getD len<=(len:Int)) then some ((lo.getD 0).toNat,(hi.getD len).toNat) else none
theorem My {lo hi:Option Int} {len:Nat} {p:Nat × Nat} (h:Wj lo hi len=some p):0<=lo.getD 0/\lo.getD 0<=hi.getD len/\hi.getD len<=(len:Int)/\p=((lo.getD 0).toNat,(hi.getD len).toNat):=by
 unfold Wj at h
 cases c:(decide (0<=lo.getD 0) && decide (lo.getD 0<=hi.getD len) && decide (hi.getD len<=(len:Int))) with
 | false=>rw [c] at h;cases h
 | true =>
  rw [c] at h;cases h
  simp only [Zc,decide_eq_true_eq] at c
  exact ⟨c.1.1,c.1.2,c.2,rfl⟩
def ssl (s:ByteArray) (lo hi:Option Int):Option ByteArray:=(Wj lo hi s.size).map fun p=>s.extract p.1 p.2
def lsl {α:Type} (xs:List α) (lo hi:Option Int):Option (List α):=(Wj lo hi xs.length).map fun p=>(xs.take p.2).drop p.1
def Wp (L:List (Nat × SV)):Option Operand->Option (Option (IntKind × Int))
 | none=>some none
 | some x=>match Yq L x with
  | some (.c (.i k n))=>some (some (k,n))
  | _=>none
theorem MM {X:Ctx} {s:St} {E F w a} (c:Sat X s E F w a) {x:Option Operand} {r:Option (IntKind × Int)} (h:Wp s.L x=some r):x.map a.eval=r.map fun p=>.int p.1 p.2:=by
 cases x with
 | none=>cases h;rfl
 | some x =>
  simp only [Wp] at h
  split at h
  ·rename_i k n f
   cases h
   have ⟨d,_⟩:=c.eval f
   simp [d,Yj,Yd]
  ·cases h
theorem Zem {P:Program} {w:World} {is:Bool} {len Yk:Nat} {lo hi:Option (IntKind × Int)} {p:Nat × Nat} (l:len<=Yk) (h:Wj (lo.map (·.2)) (hi.map (·.2)) len=some p) :
    (Instr.sliceBounds is len Yk (lo.map fun p=>.int p.1 p.2) (hi.map fun p=>.int p.1 p.2) none).run P w=.ok (p.1,p.2,Yk) w:=by
  obtain ⟨c,d,f,rfl⟩:=My h
  cases lo with
  | none =>
    cases hi with
    | none=>simp [Instr.sliceBounds]
    | some q =>
      simp at c d f
      have:q.2<=(Yk:Int):=by omega
      simp [Instr.sliceBounds,Instr.sliceBound,asIntOf,d,this]
  | some r =>
    cases hi with
    | none =>
      simp at c d f
      simp [Instr.sliceBounds,Instr.sliceBound,asIntOf,c,d]
    | some q =>
      simp at c d f
      have g:q.2<=(Yk:Int):=by omega
      have j:0<=q.2:=by omega
      have m:r.2<=(q.2.toNat:Int):=by omega
      have k:r.2<=max q.2 0:=by omega
      simp [Instr.sliceBounds,Instr.sliceBound,asIntOf,g,j,c,k]
theorem ZjZ {P:Program} {w:World} {t el:TypeId} {es:Nat} {b:Option Addr} {len Yk:Nat} {lo hi:Option (IntKind × Int)} {p:Nat × Nat} (c:P.underlying t=some (.slice el)) (d:(sizeOf el).run P w=.ok es w)
    (f:len<=Yk) (h:Wj (lo.map (·.2)) (hi.map (·.2)) len=some p) :
    (Instr.sliceAt t (.slice b len Yk) (lo.map fun p=>.int p.1 p.2) (hi.map fun p=>.int p.1 p.2) none).run P w =
      .ok (.slice (if Yk=p.1 then b else b.map (·.add (p.1 * es))) (p.2-p.1) (Yk-p.1)) w:=by
  simp only [Instr.sliceAt,Sem.run_bind,Xm c,Result.andThen_ok,Instr.slice,Zem f h,d,Sem.run_pure]
theorem ZrY {P:Program} {w:World} {t:TypeId} {s:ByteArray} {lo hi:Option (IntKind × Int)} {p:Nat × Nat} (c:P.underlying t=some .string) (h:Wj (lo.map (·.2)) (hi.map (·.2)) s.size=some p) :
    (Instr.sliceAt t (.string s) (lo.map fun p=>.int p.1 p.2) (hi.map fun p=>.int p.1 p.2) none).run P w=.ok (.string (s.extract p.1 p.2)) w:=by
  simp only [Instr.sliceAt,Sem.run_bind,Xm c,Result.andThen_ok,Instr.slice,Option.isSome_none,Bool.false_eq_true,if_false,Zem (Zp _) h,Sem.run_pure]
theorem Row.sub {α:Type} {R:TRep α} {F w} {xs:List α} {arr:Array Value} {off:Nat} (h:Row R F w xs arr off) (l m:Nat):Row R F w ((xs.take m).drop l) arr (off+l * R.sz):=by
 intro i x c
 rw [List.getElem?_drop,List.getElem?_take] at c
 split at c
 ·have ⟨vs,f,g⟩:=h (l+i) x c
  refine ⟨vs,f,fun j v d=>?_⟩
  have:=g j v d
  rw [show off+l * R.sz+i * R.sz+j=off+(l+i) * R.sz+j by rw [Nat.add_mul];omega]
  exact this
 ·cases c
theorem Row.empty {α:Type} {R:TRep α} {F w} {arr:Array Value} {off:Nat}:Row R F w ([]:List α) arr off:=fun i x c=>by simp at c
section
variable {X:Ctx} {s:St} {ops:Array Oper} {todo:Act->World->Prop} {tt:List (Nat × TD)}
theorem WPr.ssl (htt:TTOk X.P tt) {i:Nat} {f:List Nat} {o:Oper} {t:TypeId} {A:TD} {x:Operand} {lo hi:Option Operand} {l h:Option (IntKind × Int)} {d:Nat} {m z:ByteArray}
    (q:ssl m (l.map (·.2)) (h.map (·.2))=some z) (D:ops[i]? = some o) (G:YJ ops s.L o=some true) (r:o.op=.slice t x lo hi none) (I:o.dst=some d)
    (K:Z3 tt t=some A) (g:Nat.beq A.kd 2=true) (N:Yq s.L x=some (.c (.s m))) (u:Wp s.L lo=some l) (y:Wp s.L hi=some h) (O:Nat.blt d X.fn.ntmps=true)
    (R:WPr X ops f todo ⟨(d,.c (.s z))::s.L,s.M,s.V,s.nx⟩):WPr X ops (i::f) todo s:=by
  refine WPr.op D G (fun E F w a k=>?_) R
  have ⟨S,_⟩:=k.eval N
  have U:X.P.underlying t=some .string:=by
    have C:=(htt.get K).2.1
    have g:=Zd g
    unfold UJ at C
    split at C<;>simp_all
  unfold Kx.ssl at q
  rw [Zm] at q
  obtain ⟨p,T,rfl⟩:=q
  have j:(execOp a.eval o).run X.P w=.ok (.value (.string (m.extract p.1 p.2))) w:=by
    simp only [execOp,r,S,Yj,Yd,MM k u,MM k y]
    exact Y9 (ZrY U T)
  refine Wx j ⟨E,F,?_⟩
  rw [I]
  exact k.setL (v:=.c (.s (m.extract p.1 p.2))) trivial (YZ O)
theorem SlR.sub {α:Type} {R:TRep α} {F w} {xs:List α} {b:Option Addr} {c:Nat} {p:Nat × Nat} (h:SlR R F w xs (.slice b xs.length c)) (q:p.1<=p.2) (g:p.2<=xs.length) :
    SlR R F w ((xs.take p.2).drop p.1) (.slice (if c=p.1 then b else b.map (·.add (p.1 * R.sz))) (p.2-p.1) (c-p.1)):=by
  have d:((xs.take p.2).drop p.1).length=p.2-p.1:=by simp;omega
  rcases h with ⟨rfl,f⟩ | ⟨j,off,Yk,arr,el,fz,f,r,hF,k,l⟩
  · cases f
    simp at g
    refine .inl ⟨by simp,?_⟩
    have:p.1=0:=by omega
    simp [this,g]
  · cases f
    split
    · rename_i u
      have m:(xs.take p.2).drop p.1=[]:=List.eq_nil_of_length_eq_zero (by rw [d];omega)
      refine .inr ⟨j,off,c-p.1,arr,el,fz,by rw [d],by rw [d];omega,hF,k,by rw [m];exact Row.empty⟩
    · refine .inr ⟨j,off+p.1 * R.sz,c-p.1,arr,el,fz,by rw [d];simp [VR],by rw [d];omega,hF,k,l.sub p.1 p.2⟩
theorem WPr.isl {α:Type} {R:TRep α} (htt:TTOk X.P tt) {i:Nat} {m:List Nat} {o:Oper} {t:TypeId} {C:TD} {x:Operand} {lo hi:Option Operand} {l h:Option (IntKind × Int)} {d k:Nat} {xs zs:List α}
    (D:lsl xs (l.map (·.2)) (h.map (·.2))=some zs) (Z:ops[i]? = some o) (hg:YJ ops s.L o=some true) (G:o.op=.slice t x lo hi none) (hd:o.dst=some d)
    (ht:Z3 tt t=some C) (hx:Yq s.L x=some (.c (.sl k))) (hV:Z3 s.V k=some (.sl R xs)) (I:Wp s.L lo=some l) (K:Wp s.L hi=some h)
    (A:(Nat.blt d X.fn.ntmps && Nat.beq C.kd 6 && Nat.beq C.es R.sz)=true)
    (kk:WPr X ops m todo ⟨(d,.c (.sl s.nx))::s.L,s.M,(s.nx,.sl R zs)::s.V,s.nx+1⟩):WPr X ops (i::m) todo s:=by
  refine WPr.op Z hg (fun E F w a q=>?_) kk
  simp only [Zc] at A
  obtain ⟨⟨c1,c2⟩,N⟩:=A
  have N:=Zd N
  have ⟨e1,_⟩:=q.eval hx
  have ⟨el,hu,O⟩:=(htt.get ht).sliceOf c2
  have g:SlR R F w xs (E.ρ k):=q.hV k _ hV
  have ⟨b,c,r⟩:=ZgF g
  rw [r] at g
  unfold Kx.lsl at D
  rw [Zm] at D
  obtain ⟨p,U,rfl⟩:=D
  have ⟨q1,q2,q3,W⟩:=My U
  have u:xs.length<=c:=by
    rcases g with ⟨rfl,r⟩ | ⟨b',off,Yk,arr,el,fz,r,A,_⟩
    · simp
    · cases r;exact A
  have y:(execOp a.eval o).run X.P w=.ok (.value (.slice (if c=p.1 then b else b.map (·.add (p.1 * R.sz))) (p.2-p.1) (c-p.1))) w:=by
    simp only [execOp,G,e1,Yj,Yd,r,MM q I,MM q K]
    rw [<- N]
    exact Y9 (ZjZ hu (O w) u U)
  have z:=g.sub (p:=p) (by rw [W];simp;omega) (by rw [W];simp;omega)
  refine Wx y ?_
  have S:E.Eqb s.nx (E.setρ s.nx (.slice (if c=p.1 then b else b.map (·.add (p.1 * R.sz))) (p.2-p.1) (c-p.1))):=E.eqb_setρ _ _ _ (Zp _)
  have s1:=q.env S (fun j=>by
    simp only [Env.setρ];split
    · rfl
    · exact q.one j)
  have Y:(E.setρ s.nx (.slice (if c=p.1 then b else b.map (·.add (p.1 * R.sz))) (p.2-p.1) (c-p.1))).ρ s.nx=.slice (if c=p.1 then b else b.map (·.add (p.1 * R.sz))) (p.2-p.1) (c-p.1):=by simp [Env.setρ]
  have s2:=s1.addV (f:=.sl R ((xs.take p.2).drop p.1)) (by
    show SlR _ _ _ _ _
    rw [Y];exact z) trivial
  have T:=s2.setL (d:=d) (v:=.c (.sl s.nx)) (Nat.lt_succ_self _) (YZ c1)
  simp only [Yj,Yd] at T
  rw [Y] at T
  rw [hd]
  exact ⟨_,F,T⟩
end
end
section
variable [LxP]
section
variable {X:Ctx} {s s':St} {ops:Array Oper} {todo:List Item} {tt:List (Nat × TD)}
end
end
section
variable [LxP]
section
variable {X:Ctx} {s:St} {ops:Array Oper} {todo:List Item} {tt:List (Nat × TD)}
end
end
section
variable [LxP]
def BA (P:Program) (g:TypeId->List SC->List SC->Option Bool):List Field->List SC->List SC->Option Bool
 | [],_,_=>some true
 | f::fs,cs,ds=>bif f.name == "_" then none else match P.info? f.type with
  | some i=>match g f.type ((cs.drop f.offset).take i.size) ((ds.drop f.offset).take i.size) with
   | some a=>match BA P g fs cs ds with
    | some b=>some (a && b)
    | none=>none
   | none=>none
  | none=>none
def By (g:TypeId->List SC->List SC->Option Bool) (el sz:Nat):List Nat->List SC->List SC->Option Bool
 | [],_,_=>some true
 | j::js,cs,ds=>match g el ((cs.drop (j * sz)).take sz) ((ds.drop (j * sz)).take sz) with
  | some a=>match By g el sz js cs ds with
   | some b=>some (a && b)
   | none=>none
  | none=>none
def VU (P:Program):Nat->TypeId->List SC->List SC->Option Bool
 | 0,_,_,_=>none
 | d+1,t,cs,ds=>match P.underlying t with
  | some (.int _)=>match cs,ds with
   | [.i k m],[.i k' n]=>bif decide (k=k') then some (m==n) else none
   | _,_=>none
  | some .bool=>match cs,ds with
   | [.b a],[.b b]=>some (a==b)
   | _,_=>none
  | some .string=>match cs,ds with
   | [.s a],[.s b]=>some (a.toList==b.toList)
   | _,_=>none
  | some (.struct fs)=>bif P.stoodInHeld t then none else BA P (VU P d) fs.toList cs ds
  | some (.array n el)=>match P.info? el with
   | some i=>bif i.size==P.cellsOf el then By (VU P d) el (P.cellsOf el) (List.range n) cs ds else none
   | none=>none
  | _=>none
def VB (P:Program) (t:TypeId) (E:Env) (cs:List SC):Value:=bif Wi P t then .agg (cs.map (Yd E)).toArray else match cs with
 | [c]=>Yd E c
 | _=>undef
theorem ZhX (E:Env) (cs:List SC) (o n:Nat):((cs.map (Yd E)).toArray).extract o (o+n)=(((cs.drop o).take n).map (Yd E)).toArray:=by
 simp [List.map_drop,List.map_take]
theorem ZsM {cs:List SC} {o n:Nat} {c:SC} (h:(cs.drop o).take n=[c]):cs[o]? = some c:=by
 have:((cs.drop o).take n)[0]? = some c:=by rw [h];rfl
 rw [List.getElem?_take] at this
 split at this
 ·simpa using this
 ·cases this
theorem Zah {P:Program} {w:World} {E:Env} {d:Nat} {t:TypeId} {i:TypeInfo} {cs es:List SC} {o:Nat} {b:Bool} (hi:P.info? t=some i)
  (h:VU P d t ((cs.drop o).take i.size) es=some b\/VU P d t es ((cs.drop o).take i.size)=some b) :
  (part t (cs.map (Yd E)).toArray o).run P w=.ok (VB P t E ((cs.drop o).take i.size)) w:=by
 have g:∀ c,(cs.drop o).take i.size=[c]->Wi P t=false->∀ u,P.underlying t=some u->(match u with | .struct _ | .array _ _=>False | _=>True) ->
   (part t (cs.map (Yd E)).toArray o).run P w=.ok (VB P t E ((cs.drop o).take i.size)) w:=by
  intro c l v u f x
  have q:=ZsM l
  have j:(isAgg t).run P w=.ok false w:=by
   simp only [isAgg,Sem.run_bind,Xm f,Result.andThen_ok]
   cases u<;>first | rfl | exact x.elim
  simp only [part,Sem.run_bind,j,Result.andThen_ok,Bool.false_eq_true,if_false]
  have:(cs.map (Yd E)).toArray[o]? = some (Yd E c):=by simp [q]
  rw [this,l]
  simp only [VB,v,cond_false,Sem.run_pure]
 cases d with
 | zero=>rcases h with h | h<;>cases h
 | succ d =>
  unfold VU at h
  split at h
  ·rename_i k f
   rcases h with h | h<;>(split at h)<;>first | (rename_i l m;exact g _ (by first | exact l | exact m) (by simp [Wi,f]) _ f trivial) | cases h
  ·rename_i f
   rcases h with h | h<;>(split at h)<;>first | (rename_i l m;exact g _ (by first | exact l | exact m) (by simp [Wi,f]) _ f trivial) | cases h
  ·rename_i f
   rcases h with h | h<;>(split at h)<;>first | (rename_i l m;exact g _ (by first | exact l | exact m) (by simp [Wi,f]) _ f trivial) | cases h
  ·rename_i fs f
   have j:(isAgg t).run P w=.ok true w:=by simp only [isAgg,Sem.run_bind,Xm f,Result.andThen_ok];rfl
   have r:(sizeOf t).run P w=.ok i.size w:=by simp [sizeOf,typeInfo,hi]
   simp only [part,Sem.run_bind,j,Result.andThen_ok,if_true,r,Sem.run_pure]
   rw [ZhX]
   simp [VB,Wi,f]
  ·rename_i n el f
   have j:(isAgg t).run P w=.ok true w:=by simp only [isAgg,Sem.run_bind,Xm f,Result.andThen_ok];rfl
   have r:(sizeOf t).run P w=.ok i.size w:=by simp [sizeOf,typeInfo,hi]
   simp only [part,Sem.run_bind,j,Result.andThen_ok,if_true,r,Sem.run_pure]
   rw [ZhX]
   simp [VB,Wi,f]
  ·rcases h with h | h<;>cases h
theorem ZhR {P:Program} {w:World} {E:Env} {n d:Nat} {el:TypeId} {i:TypeInfo} (hi:P.info? el=some i) (g:i.size=P.cellsOf el)
  (m:∀ t cs f b,VU P d t cs f=some b->(Op.equalIn (n+d) t (VB P t E cs) (VB P t E f)).run P w=.ok b w) :
  ∀ (k:List Nat) {cs f:List SC} {b:Bool},By (VU P d) el (P.cellsOf el) k cs f=some b->(Op.eqItems (n+d) el (P.cellsOf el) (cs.map (Yd E)).toArray (f.map (Yd E)).toArray k).run P w=.ok b w
 | [],cs,f,b,h=>by cases h;simp [Op.eqItems]
 | j::k,cs,f,b,h=>by
  unfold By at h
  split at h
  ·rename_i a v
   split at h
   ·rename_i x l
    cases h
    have c:=v
    rw [<- g] at c
    have q:=Zah (w:=w) (E:=E) hi (cs:=cs) (o:=j * i.size) (.inl c)
    have r:=Zah (w:=w) (E:=E) hi (cs:=f) (o:=j * i.size) (.inr c)
    have u:=m _ _ _ _ c
    rw [g] at q r u
    simp only [Op.eqItems,Sem.run_bind,q,r,u,Result.andThen_ok]
    cases a
    ·simp
    ·simp only [Zh,Bool.false_eq_true,if_false,Bool.true_and]
     exact ZhR hi g m k l
   ·cases h
  ·cases h
theorem ZhT {P:Program} {w:World} {E:Env} {n d:Nat} (m:∀ t cs c b,VU P d t cs c=some b->(Op.equalIn (n+d) t (VB P t E cs) (VB P t E c)).run P w=.ok b w) :
  ∀ (fs:List Field) {cs c:List SC} {b:Bool},BA P (VU P d) fs cs c=some b->(Op.eqFields (n+d) (cs.map (Yd E)).toArray (c.map (Yd E)).toArray fs).run P w=.ok b w
 | [],cs,c,b,h=>by cases h;simp [Op.eqFields]
 | f::fs,cs,c,b,h=>by
  unfold BA at h
  cases l:f.name == "_" with
  | true=>rw [l] at h;cases h
  | false =>
   rw [l] at h
   simp only [cond_false] at h
   split at h
   ·rename_i i hi
    split at h
    ·rename_i a g
     split at h
     ·rename_i v j
      cases h
      have k:f.name ≠ "_":=by simpa using l
      unfold Op.eqFields
      have q:=Zah (w:=w) (E:=E) (cs:=cs) (o:=f.offset) (t:=f.type) hi (.inl g)
      have r:=Zah (w:=w) (E:=E) (cs:=c) (o:=f.offset) (t:=f.type) hi (.inr g)
      have u:=m _ _ _ _ g
      simp only [ne_eq,k,not_false_eq_true,if_true,Sem.run_bind,q,r,u,Result.andThen_ok]
      cases a
      ·simp
      ·simp only [Zh,Bool.false_eq_true,if_false,Bool.true_and]
       exact ZhT m fs j
     ·cases h
    ·cases h
   ·cases h
theorem Zdf {P:Program} {w:World} {E:Env} {n:Nat}:∀ (d:Nat) {t:TypeId} {cs f:List SC} {b:Bool},VU P d t cs f=some b->(Op.equalIn (n+d) t (VB P t E cs) (VB P t E f)).run P w=.ok b w
 | 0,_,_,_,_,h=>by cases h
 | d+1,t,cs,f,b,h=>by
  unfold VU at h
  split at h
  ·rename_i k c
   split at h
   ·rename_i l m u x
    cases r:decide (l=u) with
    | false=>rw [r] at h;cases h
    | true =>
     rw [r] at h;cases h
     have:l=u:=by simpa using r
     subst this
     simp only [VB,Wi,c,cond_false,Yd]
     exact run_equalIn_int w (n+d) t l k m x c
   ·cases h
  ·rename_i c
   split at h
   ·cases h
    simp only [VB,Wi,c,cond_false,Yd]
    exact run_equalIn_bool w (n+d) t _ _ c
   ·cases h
  ·rename_i c
   split at h
   ·cases h
    simp only [VB,Wi,c,cond_false,Yd]
    exact run_equalIn_string w (n+d) t _ _ c
   ·cases h
  ·rename_i fs c
   cases g:P.stoodInHeld t with
   | true=>rw [g] at h;cases h
   | false =>
    rw [g] at h
    simp only [cond_false] at h
    have v:P.fieldsOf t=fs:=by simp [Program.fieldsOf,c]
    have j:=run_equalIn_struct w (n+d) t (cs.map (Yd E)).toArray (f.map (Yd E)).toArray (by rw [v];exact c) g
    rw [v] at j
    have q:Wi P t=true:=by simp [Wi,c]
    simp only [VB,q,cond_true]
    rw [show n+(d+1)=n+d+1 from rfl,j]
    exact ZhT (fun t cs f b h=>Zdf d h) _ h
  ·rename_i m el c
   split at h
   ·rename_i i hi
    cases g:i.size==P.cellsOf el with
    | false=>rw [g] at h;cases h
    | true =>
     rw [g] at h
     simp only [cond_true] at h
     have j:=run_equalIn_array w (n+d) (cs.map (Yd E)).toArray (f.map (Yd E)).toArray c hi
     have q:Wi P t=true:=by simp [Wi,c]
     simp only [VB,q,cond_true]
     rw [show n+(d+1)=n+d+1 from rfl,j]
     exact ZhR hi (by simpa using g) (fun t cs f b h=>Zdf d h) _ h
   ·cases h
  ·cases h
theorem ZnD {P:Program} {t:TypeId} {cs c:List SC} {b:Bool} (d:Wi P t=true) (h:VU P 20 t cs c=some b) (E:Env) (w:World) :
  (Op.equal t (.agg (cs.map (Yd E)).toArray) (.agg (c.map (Yd E)).toArray)).run P w=.ok b w:=by
 have:=Zdf (w:=w) (E:=E) (n:=9980) 20 h
 simpa [VB,d,Op.equal,Op.maxDepth] using this
end
section
variable [LxP]
def Xs {α:Type} (z:α) (l c:Int):Option (List α):=bif decide (0<=l) && decide (l<=c) && decide (c<=4294967296) then some (List.replicate l.toNat z) else none
section
variable {X:Ctx} {s:St} {ops:Array Oper} {todo:Act->World->Prop} {tt:List (Nat × TD)}
theorem ZkO {n:Int} (c:0<=n) (d:n<=4294967296):IntKind.i64.wrap n=n:=by
 simp [IntKind.wrap,IntKind.signed,IntKind.bits]
 omega
theorem ZvQ {α:Type} {R:TRep α} {z:α} {E:Env} {F:YD} {w:World} {zs:List SC} (l:RowL R F w [z] (zs.map (Yd E))) (n:Nat) {arr:Array Value}
  (d:arr.toList=(Tw zs (n * R.sz)).map (Yd E)) (m:Nat) (D:m<=n):Row R F w (List.replicate m z) arr 0:=by
 have f:zs.length=R.sz:=by have:=l.1;simpa using this
 intro i x h
 rw [List.getElem?_replicate] at h
 split at h
 ·rename_i hi
  cases h
  have ⟨vs,y,A⟩:=l.2 0 z rfl
  refine ⟨vs,y,fun j v u=>?_⟩
  have r:=A j v u
  rw [Nat.zero_mul,Nat.zero_add,List.getElem?_map,Zm] at r
  obtain ⟨c,q,rfl⟩:=r
  have C:j < zs.length:=(List.getElem?_eq_some_iff.1 q).1
  rw [<- Array.getElem?_toList,d,Nat.zero_add,List.getElem?_map,Zm]
  refine ⟨c,?_,rfl⟩
  unfold Tw
  have k:i * R.sz+j < n * R.sz:=by
   have:(i+1) * R.sz<=n * R.sz:=Nat.mul_le_mul_right _ (by omega)
   rw [Nat.add_mul] at this
   omega
  rw [List.getElem?_map,List.getElem?_range k]
  simp only [Option.map_some,Option.some.injEq]
  have g:(i * R.sz+j) % zs.length=j:=by
   rw [f,Nat.mul_comm,Nat.mul_add_mod]
   exact Nat.mod_eq_of_lt (by omega)
  rw [g,List.getD,q]
  rfl
 ·cases h
theorem WPr.mk {α:Type} {R:TRep α} (O:YU R) (htt:TTOk X.P tt) (z:α) {i:Nat} {q:List Nat} {o:Oper} {t:TypeId} {j v:TD} {x y:Operand} {d:Nat} {k k':IntKind} {l c:Int} {xs:List α}
    (A:Xs z l c=some xs) (ho:ops[i]? = some o) (hg:YJ ops s.L o=some true) (hop:o.op=.makeSlice t x y) (hd:o.dst=some d) (ht:Z3 tt t=some j) (r:Z3 tt j.el=some v)
    (T:Yq s.L x=some (.c (.i k l))) (hy:Yq s.L y=some (.c (.i k' c))) (hk:ME O (Z3 s.V) [z] v.z)
    (hc:(Nat.blt d X.fn.ntmps && Nat.beq j.kd 6 && Nat.beq j.es R.sz && Nat.ble j.eb 32768 && !v.z.isEmpty)=true)
    (kk:WPr X ops q todo ⟨(d,.c (.sl s.nx))::s.L,(s.nx,.own R xs true)::s.M,s.V,s.nx+1⟩):WPr X ops (i::q) todo s:=by
  refine WPr.op ho hg (fun E F w a U=>?_) kk
  simp only [Zc] at hc
  obtain ⟨⟨⟨⟨c1,c2⟩,W⟩,c4⟩,c5⟩:=hc
  have W:=Zd W
  have c4:=Zf c4
  have ⟨e1,_⟩:=U.eval T
  have ⟨e2,_⟩:=U.eval hy
  unfold Xs at A
  cases Z:(decide (0<=l) && decide (l<=c) && decide (c<=4294967296)) with
  | false=>rw [Z] at A;cases A
  | true =>
    rw [Z] at A;cases A
    simp only [Zc,decide_eq_true_eq] at Z
    obtain ⟨⟨q0,q1⟩,q2⟩:=Z
    have ⟨ie,hu,u,C,heb,_⟩:=(htt.get ht).slc c2
    have hz:(sizeOf j.el).run X.P w=.ok j.es w:=by simp [sizeOf,typeInfo,u,C]
    have ⟨Y,hzr,hzc⟩:=Zat w (htt.get r)
    have hzl:v.z.length=j.es:=by
      have h1:=(htt.get r).2.2.2
      have ⟨i',z',D,hs',_⟩:=(htt.get r).info
      rw [u] at D
      cases D
      rw [h1,<- hs',C]
    have G:v.z≠[]:=by intro h;rw [h] at c5;simp at c5
    have hcc:(c.toNat:Int)=c:=Int.toNat_of_nonneg (by omega)
    have I:(execOp a.eval o).run X.P w=.ok (.value (.slice (some ⟨w.heap.size,0,none⟩) l.toNat c.toNat)) (w.alloc (.cells ((Array.range (c.toNat * j.es)).map (Y.cells[· % Y.cells.size]!)) j.el)):=by
      simp only [execOp,hop,e1,e2,Yj,Yd]
      refine Y9 ?_
      have w1:IntKind.i64.wrap l=l:=ZkO q0 (by omega)
      have w2:IntKind.i64.wrap c=c:=ZkO (by omega) q2
      have hmul:(j.eb:Int) * c<=32768 * 4294967296:=Int.mul_le_mul (by omega) q2 (by omega) (by omega)
      have n1:¬ c < 0:=by omega
      have n2:¬ l < 0:=by omega
      have n3:¬ c < l:=by omega
      have n4:¬ (2:Int) ^ 48 < (j.eb:Int) * c:=by omega
      have n5:¬ roomBytes < c.toNat * j.eb:=by
        have:((c.toNat * j.eb:Nat):Int)=c * j.eb:=by rw [Int.natCast_mul,hcc]
        have h3:c * (j.eb:Int)=j.eb * c:=Int.mul_comm _ _
        show ¬ 2 ^ 47 < c.toNat * j.eb
        omega
      have hti:(typeInfo j.el).run X.P w=.ok ie w:=by simp [typeInfo,u]
      simp only [Instr.makeSlice,Sem.run_bind,Xm hu,Result.andThen_ok,asInt,asIntOf,Sem.run_pure,hti,heb,w1,w2]
      simp only [n1,n2,n3,n4,decide_false,Bool.or_false,Bool.or_self,gt_iff_lt,Bool.false_eq_true,if_false,askRoom,n5,Sem.run_pure,Sem.run_bind,Result.andThen_ok,hz]
      by_cases h0:c.toNat * j.es=0
      · have key:∀ f:Nat->Value,(Array.range (c.toNat * j.es)).map f=#[]:=by intro f;rw [h0];simp
        simp only [h0,if_true,Sem.run_pure,Result.andThen_ok]
        rw [h0] at key
        rw [key]
        simp [newRow]
        congr 2
        apply Array.ext<;>simp
      · simp [h0,hzr,newRow]
    refine Wx I ?_
    have K:=Bn O (E:=E) (F:=F) (w:=w) (fun k f h=>U.hV k f h) hk
    have N:=ZlI (hzc E) (c.toNat * j.es) (.inr G)
    have S:l.toNat<=c.toNat:=by omega
    have T:=U.newRow (R:=R) (xs:=List.replicate l.toNat z) (arr:=(Array.range (c.toNat * j.es)).map (Y.cells[· % Y.cells.size]!)) (ty:=j.el) (Yk:=c.toNat)
      (fun w' g=>ZvQ (K.mono g) c.toNat (by rw [<- W];exact N) l.toNat S) (by simpa using S) (by simp [W]) (d:=d) (YZ c1) (w2:=w.alloc _) rfl rfl rfl .m
    rw [List.length_replicate] at T
    rw [hd]
    exact T
end
end
section
variable [LxP]
section keys
def SC.kp (p:Nat->Bool):SC->Bool
 | .sl k | .bp k _ | .px k _ | .sp k _ _ _=>p k
 | .cl _ fs ks=>fs.all p && ks.all p
 | _=>true
def SV.kp (p:Nat->Bool):SV->Bool
 | .c x=>x.kp p
 | .a cs=>cs.all (SC.kp p)
 | .t vs=>vs.all fun v=>match v with | .inl x=>SC.kp p x | .inr cs=>cs.all (SC.kp p)
 | .u=>true
def VF.kp (p:Nat->Bool):VF->Bool
 | .pl cs=>cs.all (SC.kp p)
 | .el k _ | .vw k _ _ _=>p k
 | _=>true
def MO.kp (p:Nat->Bool):MO->Bool
 | .box cs _=>cs.all (SC.kp p)
 | _=>true
def Env.Eqp (p:Nat->Bool) (E E':Env):Prop:=∀ k,p k=true->E'.ρ k=E.ρ k/\E'.β k=E.β k
variable {p:Nat->Bool} {E E':Env}
theorem ZhF (h:E.Eqp p E') {c:List Nat} (d:c.all p=true):X1 E' c=X1 E c:=by
 unfold X1
 rw [List.map_congr_left fun k f=>by rw [(h k (List.all_eq_true.1 d k f)).2]]
theorem Bt (h:E.Eqp p E'):∀ {x:SC},x.kp p=true->Yd E' x=Yd E x
 | .sl k,hx=>(h k hx).1
 | .bp k o,hx=>by simp [Yd,(h k hx).2]
 | .px k o,hx=>by simp [Yd,(h k hx).1]
 | .sp k _ _ _,hx=>by simp only [Yd,(h k hx).1,(h k hx).2]
 | .cl f fs ks,hx=>by
  simp only [SC.kp,Zc] at hx
  simp only [Yd,ZhF h hx.1,ZhF h hx.2]
 | .i _ _,_ | .b _,_ | .s _,_ | .v _,_ | .nil,_=>rfl
theorem Zc2 (h:E.Eqp p E') {cs:List SC} (c:cs.all (SC.kp p)=true):cs.map (Yd E')=cs.map (Yd E) :=
 List.map_congr_left fun x d=>Bt h (List.all_eq_true.1 c x d)
theorem Zm2 (h:E.Eqp p E'):∀ {x:SV},x.kp p=true->Yj E' x=Yj E x
 | .c _,hx=>Bt h hx
 | .a cs,hx=>by simp only [Yj,Zc2 h hx]
 | .t vs,hx=>by
  simp only [Yj]
  have:vs.map (TJ E')=vs.map (TJ E):=List.map_congr_left fun v f=>by
   have d:=List.all_eq_true.1 hx v f
   cases v with
   | inl x=>exact Bt h d
   | inr cs=>simp only [TJ,Zc2 h d]
  rw [this]
 | .u,_=>rfl
theorem VF.ok.eqp (h:E.Eqp p E') {F w v}:∀ {f:VF},f.kp p=true->f.ok E F w v->f.ok E' F w v
 | .sl _ _,_,hf=>hf
 | .pl cs,hk,⟨b,off,arr,ty,fz,hv,hF,hh,hx⟩=>⟨b,off,arr,ty,fz,hv,hF,hh,fun j x c=>by
   rw [Bt h (List.all_eq_true.1 hk x (Zb c))];exact hx j x c⟩
 | .el k j,hk,hf=>by show _=VQ (E'.ρ k) j/\_;rw [(h k hk).1];exact hf
 | .vw k l h' sz,hk,hf=>by show _=Vl l h' sz (E'.ρ k);rw [(h k hk).1];exact hf
 | .fn _,_,hf=>hf
theorem MO.ok.eqp (h:E.Eqp p E') {F w} {k:Nat} (c:p k=true):∀ {m:MO},m.kp p=true->m.ok E F w k->m.ok E' F w k
 | .box cs t,hm,h'=>by
  show w.heap[E'.β k]? = _
  rw [(h k c).2,Zc2 h hm];exact h'
 | .own _ _ _,_,h'=>by show OwnR _ _ _ _ (E'.ρ k);rw [(h k c).1];exact h'
 | .abs _,_,h'=>h'
 | .buf _ _,_,h'=>by show BufR _ _ _ (E'.ρ k);rw [(h k c).1];exact h'
 | .gone,_,_=>trivial
theorem MO.fp_eqp (h:E.Eqp p E') {k:Nat} (c:p k=true):∀ {m:MO} {b:Nat},m.fp E' k b↔m.fp E k b
 | .box _ _,b=>by simp only [MO.fp];rw [(h k c).2]
 | .own _ _ _,b=>by simp only [MO.fp];rw [(h k c).1]
 | .abs _,_=>Iff.rfl
 | .buf _ _,b=>by simp only [MO.fp];rw [(h k c).1]
 | .gone,_=>Iff.rfl
variable {n:Nat}
theorem SC.kp_of_kb (h:∀ k,k < n->p k=true):∀ {x:SC},x.kb n->x.kp p=true
 | .sl k,hx | .bp k _,hx | .px k _,hx | .sp k _ _ _,hx=>h k hx
 | .cl f fs ks,hx=>by simp only [SC.kp,Zc,List.all_eq_true];exact ⟨fun k c=>h k (hx.1 k c),fun k c=>h k (hx.2 k c)⟩
 | .i _ _,_ | .b _,_ | .s _,_ | .v _,_ | .nil,_=>rfl
theorem SV.kp_of_kb (h:∀ k,k < n->p k=true):∀ {x:SV},x.kb n->x.kp p=true
 | .c _,hx=>SC.kp_of_kb h hx
 | .a cs,hx=>List.all_eq_true.2 fun x d=>SC.kp_of_kb h (hx x d)
 | .t vs,hx=>List.all_eq_true.2 fun v d=>by
  have:=hx v d
  cases v with
  | inl x=>exact SC.kp_of_kb h this
  | inr cs=>exact List.all_eq_true.2 fun x d=>SC.kp_of_kb h (this x d)
 | .u,_=>rfl
theorem VF.kp_of_kb (h:∀ k,k < n->p k=true):∀ {x:VF},x.kb n->x.kp p=true
 | .pl cs,hx=>List.all_eq_true.2 fun x c=>SC.kp_of_kb h (hx x c)
 | .el k _,hx | .vw k _ _ _,hx=>h k hx
 | .sl _ _,_ | .fn _,_=>rfl
theorem MO.kp_of_kb (h:∀ k,k < n->p k=true):∀ {x:MO},x.kb n->x.kp p=true
 | .box cs _,hx=>List.all_eq_true.2 fun x c=>SC.kp_of_kb h (hx x c)
 | .own _ _ _,_ | .abs _,_ | .buf _ _,_ | .gone,_=>rfl
theorem SC.kp_mono {q:Nat->Bool} (h:∀ k,p k=true->q k=true):∀ {x:SC},x.kp p=true->x.kp q=true
 | .sl k,hx | .bp k _,hx | .px k _,hx | .sp k _ _ _,hx=>h k hx
 | .cl f fs ks,hx=>by
  simp only [SC.kp,Zc,List.all_eq_true] at hx ⊢;exact ⟨fun k c=>h k (hx.1 k c),fun k c=>h k (hx.2 k c)⟩
 | .i _ _,_ | .b _,_ | .s _,_ | .v _,_ | .nil,_=>rfl
theorem SCs.kp_mono {q:Nat->Bool} (h:∀ k,p k=true->q k=true) {cs:List SC} (c:cs.all (SC.kp p)=true):cs.all (SC.kp q)=true :=
 List.all_eq_true.2 fun x d=>SC.kp_mono h (List.all_eq_true.1 c x d)
theorem SV.kp_mono {q:Nat->Bool} (h:∀ k,p k=true->q k=true):∀ {x:SV},x.kp p=true->x.kp q=true
 | .c _,hx=>SC.kp_mono h hx
 | .a cs,hx=>SCs.kp_mono h hx
 | .t vs,hx=>List.all_eq_true.2 fun v d=>by
  have:=List.all_eq_true.1 hx v d
  cases v with
  | inl x=>exact SC.kp_mono h this
  | inr cs=>exact SCs.kp_mono h this
 | .u,_=>rfl
theorem VF.kp_mono {q:Nat->Bool} (h:∀ k,p k=true->q k=true):∀ {x:VF},x.kp p=true->x.kp q=true
 | .pl cs,hx=>SCs.kp_mono h hx
 | .el k _,hx | .vw k _ _ _,hx=>h k hx
 | .sl _ _,_ | .fn _,_=>rfl
theorem MO.kp_mono {q:Nat->Bool} (h:∀ k,p k=true->q k=true):∀ {x:MO},x.kp p=true->x.kp q=true
 | .box cs _,hx=>SCs.kp_mono h hx
 | .own _ _ _,_ | .abs _,_ | .buf _ _,_ | .gone,_=>rfl
end keys
structure Ent:Type 1 where
 L:List (Nat × SV)
 V:List (Nat × VF)
 W:List (Nat × MO)
 R:List (Nat × MO)
 k0:Nat
 dL:List (Nat × SV)
 dV:List (Nat × VF)
 dM:List (Nat × MO)
 k1:Nat
@[reducible] def Ent.s (e:Ent):St:=⟨e.L,e.W++e.R,e.V,e.k0⟩
@[reducible] def Ent.s' (e:Ent):St:=⟨e.dL,e.dM++e.R,e.dV,e.k1⟩
@[reducible] def Ctx.var (X:Ctx) (nk:Nat) (E0:Env) (F0:YD) (w0:World) (n0:Nat) (Z:YD):Ctx:={ X with nk:=nk,E0:=E0,F0:=F0,w0:=w0,n0:=n0,Z:=Z }
theorem Oper.wp_put {P:Program} {o:Oper} {a:Act} {w:World} {K:Act->World->Prop} {Q:Exit->Act->World->Prop} (h:o.wp P a w K Q) :
  o.wp P a w (fun j w'=>K j w'/\((∃ v,j=a.put o.dst v)\/∃ d l,j.defers=d::l)) Q:=by
 unfold Oper.wp at *
 generalize (execOp a.eval o).run P w=r at *
 cases r with
 | ok n w' =>
  cases n<;>simp only [Oper.upon] at h ⊢
  case value u=>exact ⟨h,.inl ⟨u,rfl⟩⟩
  case skip=>exact ⟨h,.inl ⟨undef,rfl⟩⟩
  case defer d=>exact ⟨h,.inr ⟨d,a.defers,by rw [Zd9]⟩⟩
  case enter f args =>
   refine Calls.mono h fun e k g=>?_
   cases e with
   | returned u=>exact ⟨g,.inl ⟨u,rfl⟩⟩
   | panicked c=>exact g
   | outgrown=>exact g
  case row row args=>exact Rows.mono h fun u k g=>⟨g,.inl ⟨u,rfl⟩⟩
 | halt x w' =>
  cases x<;>simp only [Oper.upon] at h ⊢
  case panic u=>exact h
section
variable {X:Ctx} {s:St} {E:Env} {F:YD} {w:World} {a:Act} {o:Oper} {e:Ent}
theorem Zqy {a:Act} {x:Option Tmp} {u:Value} {d:Nat} (h:x≠some d):(a.put x u).tmps[d]? = a.tmps[d]? := by
 cases x with
 | none=>rfl
 | some c=>have:c≠d:=fun e=>h (by rw [e]);simp [Act.put,this]
theorem Zm8 {d:Nat} (c:e.dL.map (·.1)=o.dst.toList) (h:Z3 e.dL d=none):o.dst≠some d:=fun f=>by
  rw [f] at c
  simp only [Option.toList_some] at c
  have ⟨q,g,j⟩:=List.mem_map.1 (show d∈e.dL.map (·.1) by rw [c];simp)
  exact BW h q.2 (by rw [<- j];exact g)
theorem LS.frame (c:Sat X s E F w a) (hd:e.dL.map (·.1)=o.dst.toList)
    (st:∀ nk E0 F0 w0 n0 Z E F w a,Sat (X.var nk E0 F0 w0 n0 Z) e.s E F w a->o.wp X.P a w (fun a' w'=>∃ E' F',Sat (X.var nk E0 F0 w0 n0 Z) e.s' E' F' w' a') (fun _ _ _=>False))
    (wf:e.s.Wf) (nL:∀ d v,Z3 e.L d=some v->Z3 s.L d=some v) (nV:∀ k f,Z3 e.V k=some f->Z3 s.V k=some f)
    (O:∀ k m,Z3 (e.W++e.R) k=some m->Z3 s.M k=some m) (hW:∀ k,Z3 e.dM k=none->Z3 e.W k=none)
    (hk0:X.nk<=e.k0) (hk:e.k0<=e.k1) (I:e.k1<=s.nx) {p:Nat->Bool} (hp:∀ k,p k=true->¬ (e.k0<=k/\k < e.k1))
    (pL:∀ d v,Z3 s.L d=some v->v.kp p=true) (pM:∀ k m,Z3 s.M k=some m->p k=true/\m.kp p=true) (pV:∀ k f,Z3 s.V k=some f->p k=true/\f.kp p=true) :
    o.wp X.P a w (fun a' w'=>∃ E' F',Sat X ⟨e.dL++s.L,e.dM++s.M,e.dV++s.V,s.nx⟩ E' F' w' a') (fun _ _ _=>False):=by
  let Z':YD:=fun b=>X.Z b\/F b\/∃ k m,Z3 s.M k=some m/\Z3 (e.W++e.R) k=none/\m.fp E k b
  have h1:Sat (X.var e.k0 E F w X.n0 Z') e.s E F w a:={
    wf:=wf
    nk:=Zp _
    defers:=c.defers
    size:=c.size
    hL:=fun d v h=>c.hL d v (nL d v h)
    hV:=fun k f h=>c.hV k f (nV k f h)
    hM:=fun k m h=>c.hM k m (O k m h)
    dis:=fun k z m m' h r=>c.dis k z m m' (O k m h) (O z m' r)
    mF:=fun k m h b q=>by
      have N:=c.mF k m (O k m h) b q
      refine ⟨N.1,?_,N.2.2⟩
      rintro (A | A | ⟨z,m',G,h4,h5⟩)
      · exact N.2.1 A
      · exact N.1 A
      · refine c.dis k z m m' (O k m h) G (fun hkk=>?_) b q h5
        subst hkk
        have hh:Z3 (e.W++e.R) k=some m:=h
        rw [h4] at hh;cases hh
    fresh:=fun k m h=>c.fresh k m (O k m h)
    hF:=c.hF
    hF0:=fun _ h=>h
    hF1:=fun _ h=>.inl h
    hn0:=Nat.le_trans c.hn0 c.ext.size
    hZ:=fun b A=>by
      rcases A with A | A | ⟨z,m',G,h4,h5⟩
      · exact Zi (c.hZ b A) c.ext.size
      · exact c.hF b A
      · exact (c.mF z m' G b h5).2.2
    ext:=Ext.refl _ _
    link:=Env.Eqb.refl _ _
    one:=c.one }
  refine Oper.wp_mono (fun a' w' hq=>?_) (Oper.wp_put (st _ _ _ _ _ _ E F w a h1))
  obtain ⟨⟨E',F',j⟩,hput⟩:=hq
  have S:∃ v,a'=a.put o.dst v:=by
    rcases hput with h | ⟨d,l,h⟩
    · exact h
    · rw [j.defers] at h;cases h
  obtain ⟨u,rfl⟩:=S
  let E2:Env:=⟨fun k=>if e.k0<=k/\k < e.k1 then E'.ρ k else E.ρ k,fun k=>if e.k0<=k/\k < e.k1 then E'.β k else E.β k⟩
  have q1:E.Eqp p E2:=fun k hk=>by
    have:=hp k hk
    simp only [E2,if_neg this,and_self]
  have T:E.Eqb e.k0 E':=j.link
  have q2:E'.Eqb e.k1 E2:=fun k hk=>by
    by_cases hc:e.k0<=k/\k < e.k1
    · simp only [E2,if_pos hc,and_self]
    · have:=T k (by omega)
      simp only [E2,if_neg hc,this,and_self]
  have C:Ext Z' w w':=j.ext
  have g:W4 F w F' w':=⟨j.hF0,fun b q=>C.block b (.inr (.inl q))⟩
  have U:∀ k m,Z3 (e.dM++s.M) k=some m->Z3 (e.dM++e.R) k=some m\/(Z3 s.M k=some m/\Z3 (e.W++e.R) k=none):=fun k m h=>by
    rw [X3] at h ⊢
    cases hd:Z3 e.dM k with
    | some x=>rw [hd] at h;exact .inl h
    | none =>
      rw [hd] at h
      simp only [] at h ⊢
      have hw:=hW k hd
      cases hr:Z3 e.R k with
      | some y =>
        have:=O k y (by rw [X3,hw];exact hr)
        rw [h] at this
        exact .inl this.symm
      | none=>exact .inr ⟨h,by rw [X3,hw];exact hr⟩
  have fA:∀ k m,Z3 (e.dM++e.R) k=some m->∀ b,m.fp E2 k b->m.fp E' k b:=fun k m h b q=>(MO.fp_eqb q2 (j.wf.hM k m h).1).1 q
  have Y:∀ k m,Z3 s.M k=some m->∀ b,m.fp E2 k b->m.fp E k b:=fun k m h b q=>(MO.fp_eqp q1 (pM k m h).1).1 q
  refine ⟨E2,F',?_⟩
  exact {
    wf:=⟨fun d v h=>by
        rw [X3] at h
        split at h
        · rename_i x D;cases h;exact (j.wf.hL d _ D).mono I
        · exact c.wf.hL d v h,fun k m h=>by
        rcases U k m h with h | ⟨h,_⟩
        · exact ⟨Zi (j.wf.hM k m h).1 I,(j.wf.hM k m h).2.mono I⟩
        · exact c.wf.hM k m h,fun k f h=>by
        rw [X3] at h
        split at h
        · rename_i x D;cases h;exact ⟨Zi (j.wf.hV k _ D).1 I,(j.wf.hV k _ D).2.mono I⟩
        · exact c.wf.hV k f h⟩
    nk:=c.nk
    defers:=j.defers
    size:=j.size
    hL:=fun d v h=>by
      rw [X3] at h
      split at h
      · rename_i x D
        cases h
        rw [Bs q2 (j.wf.hL d _ D)]
        exact j.hL d _ D
      · rename_i D
        rw [Zqy (Zm8 hd D),Zm2 q1 (pL d v h)]
        exact c.hL d v h
    hV:=fun k f h=>by
      rw [X3] at h
      split at h
      · rename_i x D
        cases h
        have:=(j.hV k _ D).eqb q2 (j.wf.hV k _ D).2
        rw [(q2 k (j.wf.hV k _ D).1).1]
        exact this
      · have:=((c.hV k f h).mono g).eqp q1 (pV k f h).2
        rw [(q1 k (pV k f h).1).1]
        exact this
    hM:=fun k m h=>by
      rcases U k m h with h | ⟨h,r⟩
      · exact (j.hM k m h).eqb q2 (j.wf.hM k m h).1 (j.wf.hM k m h).2
      · exact ((c.hM k m h).mono g fun b q=>C.block b (.inr (.inr ⟨k,m,h,r,q⟩))).eqp q1 (pM k m h).1 (pM k m h).2
    dis:=fun k z m m' h r hne b q K=>by
      rcases U k m h with h | ⟨h,g1⟩
      · rcases U z m' r with r | ⟨r,g2⟩
        · exact j.dis k z m m' h r hne b (fA k m h b q) (fA z m' r b K)
        · exact (j.mF k m h b (fA k m h b q)).2.1 (.inr (.inr ⟨z,m',r,g2,Y z m' r b K⟩))
      · rcases U z m' r with r | ⟨r,g2⟩
        · exact (j.mF z m' r b (fA z m' r b K)).2.1 (.inr (.inr ⟨k,m,h,g1,Y k m h b q⟩))
        · exact c.dis k z m m' h r hne b (Y k m h b q) (Y z m' r b K)
    mF:=fun k m h b q=>by
      rcases U k m h with h | ⟨h,g1⟩
      · have:=j.mF k m h b (fA k m h b q)
        exact ⟨this.1,fun A=>this.2.1 (.inl A),this.2.2⟩
      · have N:=c.mF k m h b (Y k m h b q)
        refine ⟨fun hF'=>?_,N.2.1,Zi N.2.2 C.size⟩
        rcases j.hF1 b hF' with G | G
        · exact N.1 G
        · exact G.2 (.inr (.inr ⟨k,m,h,g1,Y k m h b q⟩))
    fresh:=fun k m h hf b q=>by
      rcases U k m h with h | ⟨h,g1⟩
      · exact j.fresh k m h hf b (fA k m h b q)
      · exact c.fresh k m h hf b (Y k m h b q)
    hF:=j.hF
    hF0:=fun b q=>j.hF0 b (c.hF0 b q)
    hF1:=fun b q=>by
      rcases j.hF1 b q with G | G
      · exact c.hF1 b G
      · exact .inr ⟨G.1,fun A=>G.2 (.inl A)⟩
    hn0:=c.hn0
    hZ:=c.hZ
    ext:=c.ext.trans (C.mono fun _ A=>.inl A)
    link:=c.link.trans fun k hk=>by
      have:¬ (e.k0<=k/\k < e.k1):=by omega
      simp only [E2,if_neg this,and_self]
    one:=fun k=>by
      simp only [E2]
      split
      · exact j.one k
      · exact c.one k }
theorem LS.skipped (g:Sat X s E F w a) (c:e.dL.map (·.1)=o.dst.toList) (l:∀ d v,(d,v)∈e.dL->v=.u/\d < X.fn.ntmps) (m:e.dM=[]) (x:e.dV=[]) :
    Sat X ⟨e.dL++s.L,e.dM++s.M,e.dV++s.V,s.nx⟩ E F w (a.put o.dst undef):=by
  rw [m,x]
  cases j:o.dst with
  | none =>
    rw [j] at c
    simp only [Option.toList_none,List.map_eq_nil_iff] at c
    rw [c]
    exact g
  | some d =>
    rw [j] at c
    simp only [Option.toList_some] at c
    obtain ⟨q,h⟩:∃ q,e.dL=[q]:=by
      cases k:e.dL with
      | nil=>rw [k] at c;cases c
      | cons q r=>rw [k] at c;simp only [List.map_cons,List.cons.injEq,List.map_eq_nil_iff] at c;exact ⟨q,by rw [c.2]⟩
    have ⟨y,v⟩:=q
    obtain ⟨rfl,f⟩:=l y v (by rw [h];simp)
    rw [h] at c ⊢
    simp only [List.map_cons,List.map_nil,List.cons.injEq,and_true] at c
    subst c
    exact g.setL (v:=.u) trivial f
end
def LS (X:Ctx) (ops:Array Oper) (i:Nat) (e:Ent):Prop:=∃ o,ops[i]? = some o/\e.dL.map (·.1)=o.dst.toList /\
  ((YJ ops e.L o=some true/\∀ nk E0 F0 w0 n0 Z E F w a,Sat (X.var nk E0 F0 w0 n0 Z) e.s E F w a ->
      o.wp X.P a w (fun a' w'=>∃ E' F',Sat (X.var nk E0 F0 w0 n0 Z) e.s' E' F' w' a') (fun _ _ _=>False)) \/
   (YJ ops e.L o=some false/\(∀ d v,(d,v)∈e.dL->v=.u/\d < X.fn.ntmps)/\e.dM=[]/\e.dV=[]))
section
variable {α:Type _} {dl:Nat->List (Nat × α)} {dn dn':Nat->Bool} {b:List (Nat × α)}
def WC (dl:Nat->List (Nat × α)) (dn:Nat->Bool) (b:List (Nat × α)):Nat->List (Nat × α)
 | 0=>b
 | j+1=>bif dn j then dl j++WC dl dn b j else WC dl dn b j
theorem RY {k:Nat}:∀ {n:Nat},(∀ j,j < n->(Z3 (dl j) k).isSome=true->dn j=dn' j)->Z3 (WC dl dn b n) k=Z3 (WC dl dn' b n) k
 | 0,_=>rfl
 | n+1,h=>by
  have d:=RY (n:=n) fun j g=>h j (by omega)
  have f:=h n (by omega)
  simp only [WC]
  cases c:Z3 (dl n) k with
  | some v =>
   rw [f (by rw [c];rfl)]
   cases dn' n
   ·exact d
   ·simp only [cond_true,X3,c]
  | none =>
   cases dn n<;>cases dn' n<;>simp only [cond_true,cond_false,X3,c,d]
theorem BV {i k:Nat}:∀ {n:Nat},i < n->dn i=false->(∀ j,j≠i->dn' j=dn j)->dn' i=true ->
  ((Z3 (dl i) k).isSome=true->∀ j,i < j->j < n->(Z3 (dl j) k).isSome=true->dn j=false)->Z3 (WC dl dn' b n) k=Z3 (dl i++WC dl dn b n) k
 | 0,hi,_,_,_,_=>absurd hi (Nat.not_lt_zero _)
 | n+1,hi,h0,hne,h1,hlater=>by
  by_cases c:i=n
  ·subst c
   have q:Z3 (WC dl dn' b i) k=Z3 (WC dl dn b i) k:=RY fun j g _=>hne j (by omega)
   simp only [WC,h0,h1,cond_true,cond_false,X3,q]
  ·have h:=BV (k:=k) (n:=n) (by omega) h0 hne h1 fun l j g m=>hlater l j g (by omega)
   have r:=hne n (fun e=>c e.symm)
   simp only [WC,r]
   cases d:dn n with
   | false=>simp only [cond_false];exact h
   | true =>
    simp only [cond_true,X3,h]
    cases x:Z3 (dl n) k with
    | none=>rfl
    | some v =>
     cases f:Z3 (dl i) k with
     | none=>rfl
     | some u =>
      have:=hlater (by rw [f];rfl) n (by omega) (by omega) (by rw [x];rfl)
      rw [d] at this;cases this
theorem HO {k:Nat} {v:α}:∀ {n:Nat},Z3 (WC dl dn b n) k=some v->Z3 b k=some v\/∃ j,j < n/\dn j=true/\Z3 (dl j) k=some v
 | 0,h=>.inl h
 | n+1,h=>by
  simp only [WC] at h
  cases c:dn n with
  | false =>
   rw [c] at h
   rcases HO (n:=n) h with h | ⟨j,g,d,f⟩
   ·exact .inl h
   ·exact .inr ⟨j,by omega,d,f⟩
  | true =>
   rw [c] at h
   simp only [cond_true,X3] at h
   split at h
   ·rename_i x l;cases h;exact .inr ⟨n,by omega,c,l⟩
   ·rcases HO (n:=n) h with h | ⟨j,g,d,f⟩
    ·exact .inl h
    ·exact .inr ⟨j,by omega,d,f⟩
end
def WA (anc:List Nat) (i j:Nat):Bool:=Nat.testBit (anc.getD i 0) j
def RN (anc:List Nat):List Edge->Nat
 | []=>0
 | e::r=>bif Region.binds .any e then Nat.lor (Nat.lor (2 ^ e.on) (anc.getD e.on 0)) (RN anc r) else RN anc r
theorem ZcL {anc:List Nat} {j:Nat}:∀ {l:List Edge},Nat.testBit (RN anc l) j=true->∃ e∈l,Region.binds .any e=true/\(j=e.on\/WA anc e.on j=true)
 | [],h=>by simp [RN] at h
 | e::r,h=>by
  unfold RN at h
  cases d:Region.binds .any e with
  | false =>
   rw [d] at h
   have ⟨x,f,g⟩:=ZcL (l:=r) h
   exact ⟨x,Zj _ f,g⟩
  | true =>
   rw [d] at h
   simp only [cond_true] at h
   have c:Nat.testBit ((2 ^ e.on ||| anc.getD e.on 0) ||| RN anc r) j=true:=h
   rw [Nat.testBit_or,Nat.testBit_or,Bool.or_eq_true,Bool.or_eq_true] at c
   rcases c with (c | c) | c
   ·exact ⟨e,Zk,d,.inl (by rw [Nat.testBit_two_pow] at c;simpa using (of_decide_eq_true c).symm)⟩
   ·exact ⟨e,Zk,d,.inr c⟩
   ·have ⟨x,f,g⟩:=ZcL (l:=r) c
    exact ⟨x,Zj _ f,g⟩
def Uu {α:Type _} (k:Nat) (l:List (Nat × α)):Bool:=l.any fun q=>Nat.beq q.1 k
def VY {α:Type _} {β:Type _} (l:List (Nat × α)) (r:List (Nat × β)):Bool:=l.any fun q=>Uu q.1 r
theorem Zpi {α:Type _} {k:Nat} {l:List (Nat × α)} (h:(Z3 l k).isSome=true):Uu k l=true:=by
 have ⟨v,c⟩:=Option.isSome_iff_exists.1 h
 exact List.any_eq_true.2 ⟨_,Y2 c,by simp⟩
theorem Zo0 {α:Type _} {k:Nat} {l:List (Nat × α)} (h:Uu k l=true):(Z3 l k).isSome=true:=by
 cases f:Z3 l k with
 | some _=>rfl
 | none =>
  have ⟨q,c,d⟩:=List.any_eq_true.1 h
  obtain rfl:=Zd d
  exact absurd c (BW f q.2)
theorem Pp {α:Type _} {β:Type _} {l:List (Nat × α)} {r:List (Nat × β)} {k:Nat} (h:(Z3 l k).isSome=true) (g:(Z3 r k).isSome=true):VY l r=true:=by
 have ⟨v,c⟩:=Option.isSome_iff_exists.1 h
 exact List.any_eq_true.2 ⟨_,Y2 c,Zpi g⟩
def Ent.sh (e f:Ent):Bool:=VY e.L f.dL || VY e.dL f.dL || VY e.V f.dV || VY e.dV f.dV || VY e.W f.dM || VY e.R f.dM || VY e.dM f.dM
def ZhQ:Ent:=⟨[],[],[],[],0,[],[],[],0⟩
section chk
variable (ops:Array Oper) (ents:List Ent) (anc:List Nat) (nx0 nx:Nat)
def YL (i:Nat):Ent:=ents.getD i ZhQ
def R7 (i k:Nat):Bool:=Nat.blt k nx0 || (List.range ents.length).any fun j=>(Nat.beq j i || WA anc i j) && Nat.ble (YL ents j).k0 k && Nat.blt k (YL ents j).k1
def ZcW (i j:Nat):Bool:=Nat.beq i j || ((!((YL ents i).sh (YL ents j)) || WA anc i j || WA anc j i) && (Nat.ble (YL ents i).k1 (YL ents j).k0 || Nat.ble (YL ents j).k1 (YL ents i).k0))
def Bm (i:Nat):Bool :=
  let e:=YL ents i
  let p:=R7 ents anc nx0 i
  Pw e.L (e.W++e.R) e.V e.k0 && Nat.ble nx0 e.k0 && Nat.ble e.k0 e.k1 && Nat.ble e.k1 nx && e.W.all (fun q=>Uu q.1 e.dM) &&
    e.dL.all (fun q=>q.2.kp p) && e.dM.all (fun q=>p q.1 && q.2.kp p) && e.dV.all (fun q=>p q.1 && q.2.kp p) &&
    (match ops[i]? with
     | some o=>Nat.beq (anc.getD i 0) (RN anc o.after.toList) && o.after.toList.all (fun d => !Region.binds .any d || Nat.blt d.on i)
     | none=>false)
def MD:Bool:=Nat.beq ops.size ents.length && Nat.ble nx0 nx && (List.range ents.length).all fun i=>Bm ops ents anc nx0 nx i && (List.range ents.length).all fun j=>ZcW ents anc i j
def MU (s:St):List (List (Option SV) × List (Option VF) × List (Option MO)):=(List.range ents.length).map fun i =>
  let e:=YL ents i
  (e.L.map fun q=>Z3 (WC (fun j=>(YL ents j).dL) (WA anc i) s.L ents.length) q.1,
   e.V.map fun q=>Z3 (WC (fun j=>(YL ents j).dV) (WA anc i) s.V ents.length) q.1,
   (e.W++e.R).map fun q=>Z3 (WC (fun j=>(YL ents j).dM) (WA anc i) s.M ents.length) q.1)
def Li:List (List (Option SV) × List (Option VF) × List (Option MO)):=(List.range ents.length).map fun i =>
 let e:=YL ents i
 (e.L.map fun q=>some q.2,e.V.map fun q=>some q.2,(e.W++e.R).map fun q=>some q.2)
def Vk (s:St) (dn:Nat->Bool):St :=
 ⟨WC (fun j=>(YL ents j).dL) dn s.L ents.length,WC (fun j=>(YL ents j).dM) dn s.M ents.length,WC (fun j=>(YL ents j).dV) dn s.V ents.length,nx⟩
end chk
inductive AllLS (X:Ctx) (ops:Array Oper):Nat->List Ent->Prop
 | nil {i:Nat}:AllLS X ops i []
 | cons {i:Nat} {e:Ent} {r:List Ent} (h:LS X ops i e) (k:AllLS X ops (i+1) r):AllLS X ops i (e::r)
theorem AllLS.get {X:Ctx} {ops:Array Oper}:∀ {l:List Ent} {i:Nat},AllLS X ops i l->∀ j,j < l.length->LS X ops (i+j) (YL l j)
 | _::_,i,.cons h k,0,_=>h
 | _::r,i,.cons h k,j+1,hj=>by
  have:=k.get j (by simpa using hj)
  rw [show i+(j+1)=i+1+j by omega]
  exact this
def X9 (dn:Nat->Bool):Nat->Nat
 | 0=>0
 | j+1=>X9 dn j+(bif dn j then 0 else 1)
theorem Zg5 {dn:Nat->Bool}:∀ {n:Nat},X9 dn n=0->∀ j,j < n->dn j=true
 | 0,_,j,hj=>absurd hj (Nat.not_lt_zero _)
 | n+1,h,j,hj=>by
  simp only [X9] at h
  by_cases e:j=n
  ·subst e
   cases c:dn j with
   | true=>rfl
   | false=>rw [c] at h;simp at h
  ·exact Zg5 (n:=n) (by omega) j (by omega)
theorem Zg2 {dn dn':Nat->Bool}:∀ {n:Nat},(∀ j,j < n->dn' j=dn j)->X9 dn' n=X9 dn n
 | 0,_=>rfl
 | n+1,h=>by simp only [X9,Zg2 (n:=n) fun j c=>h j (by omega),h n (by omega)]
theorem Zg0 {dn dn':Nat->Bool} {i:Nat}:∀ {n:Nat},i < n->dn i=false->dn' i=true->(∀ j,j≠i->dn' j=dn j)->X9 dn' n+1=X9 dn n
 | 0,h,_,_,_=>absurd h (Nat.not_lt_zero _)
 | n+1,hi,h0,h1,hne=>by
  simp only [X9]
  by_cases e:i=n
  ·subst e
   rw [Zg2 (dn:=dn) (dn':=dn') fun j c=>hne j (by omega),h0,h1];rfl
  ·have:=Zg0 (n:=n) (by omega) h0 h1 hne
   rw [hne n (fun h=>e h.symm)];omega
theorem ZcZ {dn:Nat->Bool}:∀ {n:Nat},(∀ j,j < n->dn j=false)->X9 dn n=n
 | 0,_=>rfl
 | n+1,h=>by simp only [X9,ZcZ (n:=n) fun j c=>h j (by omega),h n (by omega)];rfl
theorem Sat.weaken {X:Ctx} {s t:St} {E F w a} (c:Sat X s E F w a) (f:t.nx=s.nx) (hL:∀ d v,Z3 t.L d=some v->Z3 s.L d=some v)
  (hM:∀ d v,Z3 t.M d=some v->Z3 s.M d=some v) (hV:∀ d v,Z3 t.V d=some v->Z3 s.V d=some v):Sat X t E F w a:={ c with
 wf:=⟨fun d v h=>f ▸ c.wf.hL d v (hL d v h),fun d v h=>f ▸ c.wf.hM d v (hM d v h),fun d v h=>f ▸ c.wf.hV d v (hV d v h)⟩
 nk:=f ▸ c.nk
 hL:=fun d v h=>c.hL d v (hL d v h)
 hV:=fun d v h=>c.hV d v (hV d v h)
 hM:=fun d v h=>c.hM d v (hM d v h)
 dis:=fun k g m m' h j=>c.dis k g m m' (hM k m h) (hM g m' j)
 mF:=fun k m h=>c.mF k m (hM k m h)
 fresh:=fun k m h=>c.fresh k m (hM k m h) }
theorem Sat.same {X:Ctx} {s t:St} {E F w a} (c:Sat X s E F w a) (f:t.nx=s.nx) (hL:∀ d,Z3 t.L d=Z3 s.L d) (hM:∀ d,Z3 t.M d=Z3 s.M d) (hV:∀ d,Z3 t.V d=Z3 s.V d) :
  Sat X t E F w a:=c.weaken f (fun d v h=>by rw [<- hL];exact h) (fun d v h=>by rw [<- hM];exact h) (fun d v h=>by rw [<- hV];exact h)
end
section
variable [LxP]
theorem Zif {ops:Array Oper} {L l:List (Nat × SV)} {o:Oper} {t:Bool} (q:∀ d v,Z3 L d=some v->Z3 l d=some v) (h:YJ ops L o=some t):YJ ops l o=some t:=by
 unfold YJ at *
 split
 ·rename_i c;rw [c] at h;exact h
 ·rename_i j m c
  rw [c] at h
  simp only [] at h
  split
  ·rename_i r f
   rw [f] at h
   simp only [] at h
   split
   ·rename_i d g
    rw [g] at h
    simp only [] at h
    cases k:Z3 L d with
    | none=>rw [k] at h;cases h
    | some v=>rw [k] at h;rw [q d v k];exact h
   ·rename_i g;rw [g] at h;exact h
  ·rename_i f;rw [f] at h;exact h
theorem Zic {l:Array Bool} {i j:Nat} (hi:i < l.size):(l.setIfInBounds i true).getD j false=if j=i then true else l.getD j false:=by
 by_cases e:j=i
 ·subst e;simp [hi]
 ·rw [if_neg e];simp only [Array.getD_eq_getD_getElem?,Array.getElem?_setIfInBounds_ne (Ne.symm e)]
section
variable {X:Ctx} {ops:Array Oper} {ents:List Ent} {anc:List Nat} {s:St} {nx:Nat}
theorem Q6 {α:Type _} (dl:Nat->List (Nat × α)) (b:List (Nat × α)):∀ n:Nat,WC dl (fun _=>false) b n=b
 | 0=>rfl
 | n+1=>by simp only [WC,cond_false];exact Q6 dl b n
structure ZgB (ops:Array Oper) (ents:List Ent) (anc:List Nat) (nx0 nx i:Nat):Prop where
 wf:(YL ents i).s.Wf
 lo:nx0<=(YL ents i).k0
 le:(YL ents i).k0<=(YL ents i).k1
 hi:(YL ents i).k1<=nx
 W:∀ k,Z3 (YL ents i).dM k=none->Z3 (YL ents i).W k=none
 dL:∀ d v,Z3 (YL ents i).dL d=some v->v.kp (R7 ents anc nx0 i)=true
 dM:∀ k m,Z3 (YL ents i).dM k=some m->R7 ents anc nx0 i k=true/\m.kp (R7 ents anc nx0 i)=true
 dV:∀ k f,Z3 (YL ents i).dV k=some f->R7 ents anc nx0 i k=true/\f.kp (R7 ents anc nx0 i)=true
 edges:∃ o,ops[i]? = some o/\(∀ d∈o.after,Region.binds .any d=true->d.on < i) /\
  ∀ j,WA anc i j=true->∃ d∈o.after,Region.binds .any d=true/\(j=d.on\/WA anc d.on j=true)
theorem ZmN {nx0 i:Nat} (h:Bm ops ents anc nx0 nx i=true):ZgB ops ents anc nx0 nx i:=by
 unfold Bm at h
 simp only [Zc] at h
 obtain ⟨⟨⟨⟨⟨⟨⟨⟨r,y⟩,z⟩,A⟩,C⟩,D⟩,G⟩,I⟩,g⟩:=h
 refine ⟨ZeG r,Zf y,Zf z,Zf A,fun k u=>?_,fun d v c=>?_,fun k m c=>?_,fun k f c=>?_,?_⟩
 ·cases c:Z3 (YL ents i).W k with
  | none=>rfl
  | some v =>
   have:=Zo0 (List.all_eq_true.1 C _ (Y2 c))
   rw [u] at this;cases this
 ·exact List.all_eq_true.1 D _ (Y2 c)
 ·have:=List.all_eq_true.1 G _ (Y2 c)
  rwa [Zc] at this
 ·have:=List.all_eq_true.1 I _ (Y2 c)
  rwa [Zc] at this
 ·split at g
  ·rename_i o K
   rw [Zc] at g
   refine ⟨o,K,fun d l x=>?_,fun j q=>?_⟩
   ·have:=List.all_eq_true.1 g.2 d (by simpa using l)
    rw [x] at this
    exact YZ this
   ·unfold WA at q
    rw [Zd g.1] at q
    have ⟨d,l,r⟩:=ZcL q
    exact ⟨d,by simpa using l,r⟩
  ·cases g
structure Chk (ops:Array Oper) (ents:List Ent) (anc:List Nat) (nx0 nx:Nat):Prop where
 size:ops.size=ents.length
 nxle:nx0<=nx
 E:∀ i,i < ents.length->ZgB ops ents anc nx0 nx i
 sh:∀ i j,i < ents.length->j < ents.length->i≠j->(YL ents i).sh (YL ents j)=true->WA anc i j=true\/WA anc j i=true
 rg:∀ i j,i < ents.length->j < ents.length->i≠j->(YL ents i).k1<=(YL ents j).k0\/(YL ents j).k1<=(YL ents i).k0
theorem ZgU {nx0:Nat} (h:MD ops ents anc nx0 nx=true):Chk ops ents anc nx0 nx:=by
  unfold MD at h
  rw [Zc,Zc] at h
  obtain ⟨⟨k,l⟩,m⟩:=h
  have f:∀ i j,i < ents.length->j < ents.length->Bm ops ents anc nx0 nx i=true/\ZcW ents anc i j=true:=fun i j hi d=>by
    have:=List.all_eq_true.1 m i (List.mem_range.2 hi)
    rw [Zc] at this
    exact ⟨this.1,List.all_eq_true.1 this.2 j (List.mem_range.2 d)⟩
  refine ⟨Zd k,Zf l,fun i hi=>ZmN (f i i hi hi).1,fun i j hi d c g=>?_,fun i j hi d c=>?_⟩
  all_goals
    have:=(f i j hi d).2
    unfold ZcW at this
    rw [Bool.or_eq_true] at this
    rcases this with h | h
    · exact absurd (Zd h) c
    · rw [Zc,Bool.or_eq_true,Bool.or_eq_true,Bool.or_eq_true] at h
      first
        | (rcases h.1 with (h | h) | h
           · rw [g] at h;cases h
           · exact .inl h
           · exact .inr h)
        | exact h.2.imp Zf Zf
theorem Chk.anc_lt {nx0:Nat} (c:Chk ops ents anc nx0 nx):∀ (i:Nat),i < ents.length->∀ j,WA anc i j=true->j < i:=by
 intro i
 induction i using Nat.strongRecOn with
 | _ i q =>
  intro hi j m
  have ⟨o,_,g,h⟩:=(c.E i hi).edges
  have ⟨d,k,l,f⟩:=h j m
  have:=g d k l
  rcases f with rfl | f
  ·exact this
  ·have:=q d.on this (by omega) j f
   omega
theorem M6 (e f:Ent) (h:VY e.L f.dL=true\/VY e.dL f.dL=true\/VY e.V f.dV=true\/VY e.dV f.dV=true\/VY e.W f.dM=true\/VY e.R f.dM=true\/VY e.dM f.dM=true):e.sh f=true:=by
 unfold Ent.sh
 rcases h with h | h | h | h | h | h | h<;>simp [h]
theorem Zg1 {dn:Nat->Bool}:∀ {n:Nat},(∀ j,j < n->dn j=true)->X9 dn n=0
 | 0,_=>rfl
 | n+1,h=>by simp only [X9,Zg1 (n:=n) fun j c=>h j (by omega),h n (by omega)];rfl
theorem ZjE {t:Nat} {ops':Array Oper} (ht:t<=1) (C:ops.size=ents.length+t) (hpx:∀ i,i < ents.length->ops'[i]? = ops[i]?)
  (hT:∀ i o,ents.length<=i->ops[i]? = some o->(∀ d∈o.after,Region.binds .any d=true->d.on < ents.length)/\∀ j,j < ents.length->∃ d∈o.after,Region.binds .any d=true/\d.on=j)
  (hl:AllLS X ops 0 ents) (c:Chk ops' ents anc s.nx nx) (hN:MU ents anc s=Li ents) (Y:s.Wf) (hnk:X.nk<=s.nx) {todo:Act->World->Prop}
  (hend:∀ E F w a,Sat X (Vk ents nx s fun _=>true) E F w a->wpOps X.P ops (fun e a' w'=>e=.normal/\todo a' w') (List.range' ents.length t) a w) :
  ∀ (m:Nat) (l:Array Bool) (E:Env) (F:YD) (w:World) (a:Act),l.size=ops.size->(∀ j,ents.length<=j->l.getD j false=false)->(∀ i,l.getD i false=true->∀ j,WA anc i j=true->l.getD j false=true) ->
   X9 (fun j=>l.getD j false) ents.length=m->Sat X (Vk ents nx s fun j=>l.getD j false) E F w a->wpAny X.P .any ops (fun e a' w'=>e=.normal/\todo a' w') (m+t) l a w:=by
 have G:∀ {l:Array Bool} {i:Nat},l.getD i true=false->l.getD i false=false:=fun {l i} h=>by
  rcases Nat.lt_or_ge i l.size with h' | h'
  ·simp [h'] at h ⊢;exact h
  ·simp [h'] at h
 have N:∀ {l:Array Bool} {i:Nat},i < l.size->l.getD i false=false->l.getD i true=false:=fun {l i} h' h=>by
  simp [h'] at h ⊢;exact h
 have hall:∀ {l:Array Bool} {E F w a},l.size=ops.size->(∀ j,ents.length<=j->l.getD j false=false)->(∀ j,j < ents.length->l.getD j false=true)->Sat X (Vk ents nx s fun j=>l.getD j false) E F w a ->
   wpAny X.P .any ops (fun e a' w'=>e=.normal/\todo a' w') t l a w:=fun {l E F w a} u O D hs=>by
  have hw:=hend E F w a (hs.same rfl (fun d=>RY fun j f _=>(D j f).symm) (fun d=>RY fun j f _=>(D j f).symm) (fun d=>RY fun j f _=>(D j f).symm))
  have hin:∀ j,j∈Region.ready .any ops l->ents.length<=j/\j < ops.size:=fun j f=>by
   have ⟨Z,o,U,_⟩:=mem_ready.1 f
   refine ⟨Nat.not_lt.1 fun h=>?_,(Array.getElem?_eq_some_iff.1 U).1⟩
   have:=D j h
   rw [G Z] at this;cases this
  match t,ht,C,hw with
  | 0,_,C,hw=>exact ⟨List.eq_nil_iff_forall_not_mem.2 fun j f=>by have:=hin j f;omega,hw⟩
  | 1,_,C,hw =>
   rw [show List.range' ents.length 1=[ents.length] from rfl,wpOps_cons] at hw
   have hlt:ents.length < ops.size:=by omega
   have U:=Array.getElem?_eq_getElem hlt
   have ⟨t1,t2⟩:=hT _ _ (Zp _) U
   refine ⟨fun hr=>?_,fun i hi=>?_⟩
   ·have:ents.length∈Region.ready .any ops l:=mem_ready.2 ⟨N (by rw [u];exact hlt) (O _ (Zp _)),_,U,fun d hdm A=>D d.on (t1 d hdm A)⟩
    rw [hr] at this;cases this
   ·obtain rfl:i=ents.length:=by have:=hin i hi;omega
    refine wpOp_mono (fun a' w' h=>⟨List.eq_nil_iff_forall_not_mem.2 fun j f=>?_,h⟩) hw
    have ⟨Z,o,ho',_⟩:=mem_ready.1 f
    have hj':=(Array.getElem?_eq_some_iff.1 ho').1
    have Z:=G Z
    rw [Zic (by rw [u];exact hlt)] at Z
    split at Z
    ·cases Z
    ·rw [D j (by omega)] at Z;cases Z
 have hneed:∀ i,i < ents.length ->
   (∀ d v,Z3 (YL ents i).L d=some v->Z3 (WC (fun j=>(YL ents j).dL) (WA anc i) s.L ents.length) d=some v) /\
   (∀ d v,Z3 (YL ents i).V d=some v->Z3 (WC (fun j=>(YL ents j).dV) (WA anc i) s.V ents.length) d=some v) /\
   (∀ d v,Z3 ((YL ents i).W++(YL ents i).R) d=some v->Z3 (WC (fun j=>(YL ents j).dM) (WA anc i) s.M ents.length) d=some v):=fun i hi=>by
  have:=Rl hN i (List.mem_range.2 hi)
  simp only [Zq] at this
  exact ⟨fun d v h=>Rl this.1 _ (Y2 h),fun d v h=>Rl this.2.1 _ (Y2 h),fun d v h=>Rl this.2.2 _ (Y2 h)⟩
 intro m
 induction m with
 | zero =>
  intro l E F w a u O hcl hcnt hs
  rw [Nat.zero_add]
  exact hall u O (Zg5 hcnt) hs
 | succ m ih =>
  intro l E F w a u O hcl hcnt hs
  rw [show m+1+t=m+t+1 by omega]
  have hdone:Region.ready .any ops l=[]->∀ j,j < ents.length->l.getD j false=true:=fun hr j=>by
   induction j using Nat.strongRecOn with
   | _ j ihj =>
    intro f
    cases D:l.getD j false with
    | true=>rfl
    | false =>
     have ⟨o,U,q,_⟩:=(c.E j f).edges
     rw [hpx j f] at U
     have:j∈Region.ready .any ops l:=mem_ready.2 ⟨N (by rw [u,C];omega) D,o,U,fun d hdm A=>ihj d.on (q d hdm A) (by have:=q d hdm A;omega)⟩
     rw [hr] at this;cases this
  refine ⟨fun hr=>?_,fun i hi=>?_⟩
  ·have:=hall u O (hdone hr) hs
   match t,ht,this with
   | 0,_,h=>exact h.2
   | 1,_,h=>exact h.1 hr
  ·have ⟨Z,o,U,hpre⟩:=mem_ready.1 hi
   have r:i < ents.length:=by
    refine Nat.not_le.1 fun hge=>?_
    have ⟨_,t2⟩:=hT i o hge U
    have:X9 (fun j=>l.getD j false) ents.length=0:=Zg1 fun j f=>by
     obtain ⟨d,D,A,rfl⟩:=t2 j f
     exact hpre d D A
    omega
   have hil:i < l.size:=by rw [u,C];omega
   have I:=G Z
   have ce:=c.E i r
   have ⟨o',ho',he1,he2⟩:=ce.edges
   rw [hpx i r] at ho'
   obtain rfl:o'=o:=by rw [U] at ho';exact (Zl ho').symm
   have hanc:∀ j,WA anc i j=true->l.getD j false=true:=fun j f=>by
    have ⟨d,D,A,h3⟩:=he2 j f
    have:=hpre d D A
    rcases h3 with rfl | h3
    ·exact this
    ·exact hcl d.on this j h3
   -- who VY anything with i has come up just if i waits for him
   have hsh:∀ j,j < ents.length->(j=i\/(YL ents i).sh (YL ents j)=true)->l.getD j false=WA anc i j:=fun j f h=>by
    by_cases e:j=i
    ·subst e
     rw [I]
     cases A:WA anc j j with
     | false=>rfl
     | true=>exact absurd (c.anc_lt j f j A) (Nat.lt_irrefl _)
    ·rcases c.sh i j r f (Ne.symm e) (h.resolve_left e) with q | q
     ·rw [q,hanc j q]
     ·cases A:WA anc i j with
      | true=>have:=c.anc_lt i r j A;have:=c.anc_lt j f i q;omega
      | false =>
       cases D:l.getD j false with
       | false=>rfl
       | true=>have:=hcl j D i q;rw [I] at this;cases this
   have z:∀ j,i < j->j < ents.length->(YL ents i).sh (YL ents j)=true->l.getD j false=false:=fun j S f h=>by
    rw [hsh j f (.inr h)]
    cases A:WA anc i j with
    | false=>rfl
    | true=>have:=c.anc_lt i r j A;omega
   have ⟨n1,n2,n3⟩:=hneed i r
   have nL:∀ d v,Z3 (YL ents i).L d=some v->Z3 (Vk ents nx s fun j=>l.getD j false).L d=some v:=fun d v h=>by
    rw [<- n1 d v h]
    exact RY fun j f g=>hsh j f (.inr (M6 _ _ (.inl (Pp (by rw [h];rfl) g))))
   have nV:∀ d v,Z3 (YL ents i).V d=some v->Z3 (Vk ents nx s fun j=>l.getD j false).V d=some v:=fun d v h=>by
    rw [<- n2 d v h]
    exact RY fun j f g=>hsh j f (.inr (M6 _ _ (.inr (.inr (.inl (Pp (by rw [h];rfl) g))))))
   have nM:∀ d v,Z3 ((YL ents i).W++(YL ents i).R) d=some v->Z3 (Vk ents nx s fun j=>l.getD j false).M d=some v:=fun d v h=>by
    rw [<- n3 d v h]
    refine RY fun j f g=>hsh j f (.inr (M6 _ _ (.inr (.inr (.inr (.inr ?_))))))
    rw [X3] at h
    split at h
    ·rename_i x hx;exact .inl (Pp (by rw [hx];rfl) g)
    ·exact .inr (.inl (Pp (by rw [h];rfl) g))
   let l':=l.setIfInBounds i true
   have y:∀ j,l'.getD j false=if j=i then true else l.getD j false:=fun j=>Zic hil
   have hfr':∀ j,ents.length<=j->l'.getD j false=false:=fun j f=>by rw [y,if_neg (by omega)];exact O j f
   have hcl':∀ j,l'.getD j false=true->∀ k,WA anc j k=true->l'.getD k false=true:=fun j f k g=>by
    rw [y] at f ⊢
    split
    ·rfl
    ·split at f
     ·rename_i e;subst e;exact hanc k g
     ·exact hcl j f k g
   have hcnt':X9 (fun j=>l'.getD j false) ents.length=m:=by
    have:=Zg0 (dn:=fun j=>l.getD j false) (dn':=fun j=>l'.getD j false) (n:=ents.length) r I (by simp only [y,if_true]) (fun j f=>by simp only [y,if_neg f])
    omega
   have hgo:∀ {E F w a},Sat X ⟨(YL ents i).dL++(Vk ents nx s fun j=>l.getD j false).L,(YL ents i).dM++(Vk ents nx s fun j=>l.getD j false).M,
     (YL ents i).dV++(Vk ents nx s fun j=>l.getD j false).V,nx⟩ E F w a->Sat X (Vk ents nx s fun j=>l'.getD j false) E F w a:=fun {E F w a} hs'=>by
    refine hs'.same rfl (fun d=>?_) (fun d=>?_) (fun d=>?_)
    ·exact BV (dl:=fun j=>(YL ents j).dL) r I (fun j f=>by simp only [y,if_neg f]) (by simp only [y,if_true]) fun q j S f K=>z j S f (M6 _ _ (.inr (.inl (Pp q K))))
    ·exact BV (dl:=fun j=>(YL ents j).dM) r I (fun j f=>by simp only [y,if_neg f]) (by simp only [y,if_true]) fun q j S f K=>z j S f (M6 _ _ (.inr (.inr (.inr (.inr (.inr (.inr (Pp q K))))))))
    ·exact BV (dl:=fun j=>(YL ents j).dV) r I (fun j f=>by simp only [y,if_neg f]) (by simp only [y,if_true]) fun q j S f K=>z j S f (M6 _ _ (.inr (.inr (.inr (.inl (Pp q K))))))
   have hLS:=hl.get i r
   rw [Nat.zero_add] at hLS
   have ⟨o2,ho2,D,hst⟩:=hLS
   obtain rfl:o2=o':=by rw [U] at ho2;exact (Zl ho2).symm
   unfold wpOp
   simp only [U]
   rcases hst with ⟨hg,hst⟩ | ⟨hg,hu,hm,hv⟩
   ·rw [RV hs (Zif nL hg),if_pos rfl]
    let p:Nat->Bool:=fun k => !(Nat.ble (YL ents i).k0 k && Nat.blt k (YL ents i).k1)
    have hp:∀ k,p k=true->¬ ((YL ents i).k0<=k/\k < (YL ents i).k1):=fun k g hc=>by
     simp only [p,Bool.not_eq_true',Bool.and_eq_false_iff] at g
     rcases g with g | g
     ·rw [Nat.ble_eq_true_of_le hc.1] at g;cases g
     ·unfold Nat.blt at g;rw [Nat.ble_eq_true_of_le hc.2] at g;cases g
    have hp':∀ k,¬ ((YL ents i).k0<=k/\k < (YL ents i).k1)->p k=true:=fun k g=>by
     simp only [p,Bool.not_eq_true',Bool.and_eq_false_iff]
     by_cases q:(YL ents i).k0<=k
     ·right
      cases A:Nat.blt k (YL ents i).k1 with
      | false=>rfl
      | true=>exact absurd ⟨q,YZ A⟩ g
     ·left
      cases A:Nat.ble (YL ents i).k0 k with
      | false=>rfl
      | true=>exact absurd (Zf A) q
    have T:∀ k,k < s.nx->p k=true:=fun k g=>hp' k fun hc=>by have:=ce.lo;omega
    have hpj:∀ j,j < ents.length->l.getD j false=true->∀ k,R7 ents anc s.nx j k=true->p k=true:=fun j f hdj k g=>by
     unfold R7 at g
     rw [Bool.or_eq_true] at g
     rcases g with g | g
     ·exact T k (YZ g)
     ·have ⟨j',hj',g⟩:=List.any_eq_true.1 g
      have hj':=List.mem_range.1 hj'
      rw [Zc,Zc,Bool.or_eq_true] at g
      obtain ⟨⟨hk1,hk2⟩,hk3⟩:=g
      have hdj':l.getD j' false=true:=by
       rcases hk1 with h | h
       ·rw [Zd h];exact hdj
       ·exact hcl j hdj j' h
      have hne:i≠j':=fun e=>by subst e;rw [I] at hdj';cases hdj'
      have:=c.rg i j' r hj' hne
      have K:=Zf hk2
      have h3:=YZ hk3
      exact hp' k fun hc=>by omega
    refine .inl (Oper.wp_imp (fun a' w' hq=>?_) (LS.frame hs D hst ce.wf nL nV nM ce.W (Nat.le_trans hnk ce.lo) ce.le ce.hi (p:=p) hp ?_ ?_ ?_))
    ·have ⟨E',F',hs'⟩:=hq
     exact ih l' E' F' w' a' (by simp [l',u]) hfr' hcl' hcnt' (hgo hs')
    ·intro d v h
     rcases HO h with h | ⟨j,f,q,K⟩
     ·exact SV.kp_of_kb T (Y.hL d v h)
     ·exact SV.kp_mono (hpj j f q) ((c.E j f).dL d v K)
    ·intro d v h
     rcases HO h with h | ⟨j,f,q,K⟩
     ·exact ⟨T d (Y.hM d v h).1,MO.kp_of_kb T (Y.hM d v h).2⟩
     ·exact ⟨hpj j f q d ((c.E j f).dM d v K).1,MO.kp_mono (hpj j f q) ((c.E j f).dM d v K).2⟩
    ·intro d v h
     rcases HO h with h | ⟨j,f,q,K⟩
     ·exact ⟨T d (Y.hV d v h).1,VF.kp_of_kb T (Y.hV d v h).2⟩
     ·exact ⟨hpj j f q d ((c.E j f).dV d v K).1,VF.kp_mono (hpj j f q) ((c.E j f).dV d v K).2⟩
   ·rw [RV hs (Zif nL hg),if_neg (by simp)]
    exact ih l' E F w _ (by simp [l',u]) hfr' hcl' hcnt' (hgo (LS.skipped hs D hu hm hv))
theorem Zrz (x:AllLS X ops 0 ents) (c:Chk ops ents anc s.nx nx) (y:MU ents anc s=Li ents) (k:s.Wf) (m:X.nk<=s.nx) {todo:Act->World->Prop}
  (f:∀ E F w a,Sat X (Vk ents nx s fun _=>true) E F w a->todo a w) (d:Nat) (l:Array Bool) (E:Env) (F:YD) (w:World) (a:Act) (u:l.size=ops.size)
  (q:∀ i,l.getD i false=true->∀ j,WA anc i j=true->l.getD j false=true) (g:X9 (fun j=>l.getD j false) ents.length=d) (r:Sat X (Vk ents nx s fun j=>l.getD j false) E F w a) :
  wpAny X.P .any ops (fun e z w'=>e=.normal/\todo z w') d l a w :=
 ZjE (t:=0) (Nat.zero_le _) c.size (fun _ _=>rfl) (fun i o h A=>absurd (Array.getElem?_eq_some_iff.1 A).1 (by rw [c.size];omega)) x c y k m (fun E F w a r=>⟨rfl,f E F w a r⟩) d l E F w a u
  (fun j v=>by rw [<- c.size,<- u] at v;simp [Nat.not_lt.2 v]) q g r
end
end
section
variable [LxP]
section
variable {X:Ctx} {ops:Array Oper} {tt:List (Nat × TD)} {i:Nat} {e:Ent}
end
end
section
variable [LxP]
def Vp (s:ByteArray):List Int:=s.data.toList.map fun b=>(b.toNat:Int)
theorem Mz (s:ByteArray):(Vp s).length=s.size:=by
 unfold Vp
 rw [List.length_map,Array.length_toList];rfl
section
variable {X:Ctx} {s:St} {ops:Array Oper} {todo:Act->World->Prop} {tt:List (Nat × TD)} {E:Env} {F:YD} {w:World} {a:Act}
theorem WPr.val {i:Nat} {c:List Nat} {o:Oper} {d:Nat} {v:SV} (f:∀ E F w a,Sat X s E F w a->(execOp a.eval o).run X.P w=.ok (.value (Yj E v)) w/\v.kb s.nx)
  (h:ops[i]? = some o) (j:YJ ops s.L o=some true) (k:o.dst=some d) (l:Nat.blt d X.fn.ntmps=true) (m:WPr X ops c todo ⟨(d,v)::s.L,s.M,s.V,s.nx⟩):WPr X ops (i::c) todo s:=by
 refine WPr.op h j (fun E F w a g=>?_) m
 have ⟨q,r⟩:=f E F w a g
 refine Wx q ⟨E,F,?_⟩
 rw [k]
 exact g.setL r (YZ l)
theorem WPr.ax {α:Type} (g:α->SC) (xs:List α) {e:α} {i:Nat} {f:List Nat} {o:Oper} {t el len d:Nat} {x y:Operand} {ik:IntKind} {n:Int}
    (hi:Z5 xs n=some e) (v:ops[i]? = some o) (z:YJ ops s.L o=some true) (k:o.op=.index t x y) (A:o.dst=some d) (C:X.P.underlying t=some (.array len el))
    (q:(X.P.info? el).map (·.size)=some 1) (D:Wi X.P el=false) (l:(X.P.underlying el).isSome=true)
    (G:Yq s.L x=some (.a (xs.map g))) (I:xs.length=len) (K:Yq s.L y=some (.c (.i ik n))) (N:Nat.blt d X.fn.ntmps=true)
    (O:WPr X ops f todo ⟨(d,.c (g e))::s.L,s.M,s.V,s.nx⟩):WPr X ops (i::f) todo s:=by
  refine WPr.val (fun E F w a r=>?_) v z A N O
  have ⟨R,S,u⟩:=Q7 hi
  have ⟨T,U⟩:=r.eval G
  have ⟨W,_⟩:=r.eval K
  have ⟨ds,m⟩:=Option.isSome_iff_exists.1 l
  have h:g e∈xs.map g:=List.mem_map.2 ⟨e,Zb u,rfl⟩
  refine ⟨?_,U _ h⟩
  simp only [execOp,k,T,W,Yj,Yd]
  refine Y9 ?_
  have j:=Zel w m
  rw [D] at j
  have hz:(sizeOf el).run X.P w=.ok 1 w:=by
    rw [Zm] at q
    have ⟨Y,Z,h4⟩:=q
    simp [sizeOf,typeInfo,Z,h4]
  have hc:(0<=n/\n < (len:Int)):=⟨R,by rw [<- I];exact S⟩
  simp only [Instr.index,asIntOf,Sem.run_bind,Sem.run_pure,Result.andThen_ok,Xm C,hc,and_self,if_true,hz,part,j,Bool.false_eq_true,if_false,Nat.mul_one]
  have:(((xs.map g).map (Yd E)).toArray)[n.toNat]? = some (Yd E (g e)):=by simp [u]
  rw [this]
  rfl
theorem WPr.axb (j:Nat) {i:Nat} {f:List Nat} {o:Oper} {t el len es d k off:Nat} {x y:Operand} {ik:IntKind} {n:Int}
    (q:n=(j:Int)) (r:ops[i]? = some o) (u:YJ ops s.L o=some true) (g:o.op=.indexAddr t x y) (v:o.dst=some d) (z:X.P.underlying t=some (.array len el))
    (l:(X.P.info? el).map (·.size)=some es) (h:Nat.blt j len=true)
    (A:Yq s.L x=some (.c (.bp k off))) (C:Yq s.L y=some (.c (.i ik n))) (D:Nat.blt d X.fn.ntmps=true)
    (G:WPr X ops f todo ⟨(d,.c (.bp k (off+j * es)))::s.L,s.M,s.V,s.nx⟩):WPr X ops (i::f) todo s:=by
  refine WPr.val (fun E F w a m=>?_) r u v D G
  have ⟨I,K⟩:=m.eval A
  have ⟨N,_⟩:=m.eval C
  refine ⟨?_,K⟩
  simp only [execOp,g,I,N,Yj,Yd]
  refine Y9 ?_
  have T:(sizeOf el).run X.P w=.ok es w:=by
    rw [Zm] at l
    have ⟨O,R,S⟩:=l
    simp [sizeOf,typeInfo,R,S]
  have:=YZ h
  subst q
  have U:(0<=(j:Int)/\(j:Int) < (len:Int)):=⟨by omega,by omega⟩
  simp only [Instr.indexAt,asIntOf,Sem.run_bind,Sem.run_pure,Result.andThen_ok,Xm z,Instr.sureAddr,U,and_self,if_true,T,VR,Int.toNat_natCast]
theorem WPr.axp (j:Nat) {i:Nat} {f:List Nat} {o:Oper} {t el len es d k off:Nat} {x y:Operand} {ik:IntKind} {n:Int}
    (A:n=(j:Int)) (C:ops[i]? = some o) (D:YJ ops s.L o=some true) (r:o.op=.indexAddr t x y) (G:o.dst=some d) (I:X.P.underlying t=some (.array len el))
    (z:(X.P.info? el).map (·.size)=some es) (u:Nat.blt j len=true)
    (K:Yq s.L x=some (.c (.px k off))) (hV:(∃ cs,Z3 s.V k=some (.pl cs))\/∃ q m,Z3 s.V k=some (.el q m)) (N:Yq s.L y=some (.c (.i ik n))) (O:Nat.blt d X.fn.ntmps=true)
    (R:WPr X ops f todo ⟨(d,.c (.px k (off+j * es)))::s.L,s.M,s.V,s.nx⟩):WPr X ops (i::f) todo s:=by
  refine WPr.val (fun E F w a g=>?_) C D G O R
  have ⟨S,T⟩:=g.eval K
  have ⟨U,_⟩:=g.eval N
  refine ⟨?_,T⟩
  have v:∃ b l,E.ρ k=.pointer (some ⟨b,l,none⟩):=by
    rcases hV with ⟨cs,h⟩ | ⟨q,m,h⟩
    · have ⟨b,l,_,_,_,h,_⟩:=g.hV k _ h;exact ⟨b,l,h⟩
    · exact (g.hV k _ h).2
  have ⟨b,l,v⟩:=v
  simp only [execOp,r,S,U,Yj,Yd,v,VQ]
  refine Y9 ?_
  have hz:(sizeOf el).run X.P w=.ok es w:=by
    rw [Zm] at z
    have ⟨W,Y,Z⟩:=z
    simp [sizeOf,typeInfo,Y,Z]
  have:=YZ u
  subst A
  have hc:(0<=(j:Int)/\(j:Int) < (len:Int)):=⟨by omega,by omega⟩
  simp only [Instr.indexAt,asIntOf,Sem.run_bind,Sem.run_pure,Result.andThen_ok,Xm I,Instr.sureAddr,hc,and_self,if_true,hz,VR,Int.toNat_natCast,Nat.add_assoc]
theorem WPr.pnil (g:Bool) {i:Nat} {f:List Nat} {o:Oper} {t el m d k off:Nat} {x y:Operand}
  (r:ops[i]? = some o) (u:YJ ops s.L o=some true) (j:o.op=.binOp (bif g then .neq else .eql) t x y m) (z:o.dst=some d) (A:X.P.underlying t=some (.pointer el))
  (C:Yq s.L x=some (.c (.bp k off))) (D:Yq s.L y=some (.c (.v (.pointer none)))) (G:Nat.blt d X.fn.ntmps=true)
  (I:WPr X ops f todo ⟨(d,.c (.b g))::s.L,s.M,s.V,s.nx⟩):WPr X ops (i::f) todo s:=by
 refine WPr.val (fun E F w a l=>?_) r u z G I
 have ⟨K,O⟩:=l.eval C
 have ⟨N,_⟩:=l.eval D
 refine ⟨?_,trivial⟩
 simp only [execOp,j,K,N,Yj,Yd]
 refine Y9 ?_
 have h:(Op.equal t (.pointer (some ⟨E.β k,off,none⟩)) (.pointer none)).run X.P w=.ok false w:=by
  show (Op.equalIn (9999+1) t _ _).run X.P w=.ok false w
  generalize 9999=q
  simp only [Op.equalIn,Sem.run_bind,Xm A,Result.andThen_ok,Sem.run_pure]
 cases g with
 | false =>
  simp only [cond_false,eqGuard,Sem.run_bind,Sem.run_pure,Result.andThen_ok]
  show (do pure (Value.bool (<- Op.equal t _ _)):Sem Value).run X.P w=_
  simp only [Sem.run_bind,h,Result.andThen_ok,Sem.run_pure]
 | true =>
  simp only [cond_true,eqGuard,Sem.run_bind,Sem.run_pure,Result.andThen_ok]
  show (do pure (Value.bool (!(<- Op.equal t _ _))):Sem Value).run X.P w=_
  simp only [Sem.run_bind,h,Result.andThen_ok,Sem.run_pure,Bool.not_false]
theorem Sat.moveM {m m':MO} {k K:Nat} (z:Sat X s E F w a) (y:Z3 s.M k=some m) (A:Z3 s.M K=none) (C:K < s.nx) (D:m'.ok E F w K) (G:m'.kb s.nx)
  (r:∀ b,m'.fp E K b->m.fp E k b) (I:m'.isFresh=true->∀ b,m'.fp E K b->X.n0<=b):Sat X ⟨s.L,(K,m')::(k,.gone)::s.M,s.V,s.nx⟩ E F w a:=by
 have R:K≠k:=fun e=>by subst e;rw [y] at A;cases A
 have g:=z.drop y
 have W:Z3 ((k,MO.gone)::s.M) K=none:=by rw [YC,if_neg (Ne.symm R)];exact A
 exact { g with
  wf:=⟨g.wf.hL,fun j c h=>by
   rw [YC] at h
   split at h
   ·rename_i e;cases h;subst e;exact ⟨C,G⟩
   ·exact g.wf.hM j c h,g.wf.hV⟩
  hM:=fun j c h=>by
   rw [YC] at h
   split at h
   ·rename_i e;cases h;subst e;exact D
   ·exact g.hM j c h
  dis:=fun j S T c u l v b f d=>by
   have key:∀ q c,q≠K->Z3 ((k,MO.gone)::s.M) q=some c->∀ b,m'.fp E K b->¬ c.fp E q b:=fun q c Y h b f d=>by
    rw [YC] at h
    split at h
    ·cases h;exact d
    ·rename_i N;exact z.dis k q m c y h N b (r b f) d
   rw [YC] at u l
   split at u
   ·rename_i O;cases u;subst O
    split at l
    ·rename_i x;exact v x
    ·rename_i x;exact key S c (Ne.symm x) l b f d
   ·rename_i O
    split at l
    ·rename_i x;cases l;subst x;exact key j T (Ne.symm O) u b d f
    ·exact g.dis j S T c u l v b f d
  mF:=fun j c h b f=>by
   rw [YC] at h
   split at h
   ·rename_i e;cases h;subst e;exact z.mF k m y b (r b f)
   ·exact g.mF j c h b f
  fresh:=fun j c h U b f=>by
   rw [YC] at h
   split at h
   ·rename_i e;cases h;subst e;exact I U b f
   ·exact g.fresh j c h U b f }
theorem WPr.slb {α:Type} {R:TRep α} (O:YU R) (xs:List α) {i:Nat} {l:List Nat} {o:Oper} {t el len d k ty:Nat} {x:Operand} {cs:List SC}
    (G:ME O (Z3 s.V) xs cs) (I:ops[i]? = some o) (N:YJ ops s.L o=some true) (y:o.op=.slice t x none none none) (S:o.dst=some d)
    (T:X.P.underlying t=some (.array len el)) (C:(X.P.info? el).map (·.size)=some R.sz)
    (U:Yq s.L x=some (.c (.bp k 0))) (hM:Z3 s.M k=some (.box cs ty)) (D:(Nat.blt d X.fn.ntmps && Nat.beq xs.length len && (Z3 s.M s.nx).isNone)=true)
    (W:WPr X ops l todo ⟨(d,.c (.sl s.nx))::s.L,(s.nx,.own R xs false)::(k,.gone)::s.M,s.V,s.nx+1⟩):WPr X ops (i::l) todo s:=by
  refine WPr.op I N (fun E F w a q=>?_) W
  simp only [Zc,Option.isNone_iff_eq_none] at D
  obtain ⟨⟨Z,u⟩,c3⟩:=D
  have u:=Zd u
  have ⟨e1,_⟩:=q.eval U
  have hz:∀ w',(sizeOf el).run X.P w'=.ok R.sz w':=fun w'=>by
    rw [Zm] at C
    have ⟨inf,h3,h4⟩:=C
    simp [sizeOf,typeInfo,h3,h4]
  have g:w.heap[E.β k]? = some (.cells (cs.map (Yd E)).toArray ty (0,0)):=q.hM k _ hM
  have m:=Bn O (E:=E) (F:=F) (w:=w) (fun k f h=>q.hV k f h) G
  have r:(execOp a.eval o).run X.P w=.ok (.value (.slice (some ⟨E.β k,0,none⟩) len len)) w:=by
    simp only [execOp,y,e1,Yj,Yd]
    refine Y9 ?_
    have g:=Zem (P:=X.P) (w:=w) (is:=false) (len:=len) (Yk:=len) (lo:=none) (hi:=none) (p:=(0,len)) (Zp _) (by simp [Wj])
    simp only [Option.map_none] at g
    simp only [Instr.sliceAt,Option.map_none,Sem.run_bind,Xm T,Result.andThen_ok,Instr.sureAddr,Sem.run_pure,g,hz,VR,Nat.zero_mul,Nat.add_zero,ite_self,Nat.sub_zero]
  refine Wx r ?_
  have hE:E.Eqb s.nx (E.setρ s.nx (.slice (some ⟨E.β k,0,none⟩) len len)):=E.eqb_setρ _ _ _ (Zp _)
  have z:(E.setρ s.nx (.slice (some ⟨E.β k,0,none⟩) len len)).ρ s.nx=.slice (some ⟨E.β k,0,none⟩) len len:=by simp [Env.setρ]
  have s1:=(q.env hE (fun j=>by
    simp only [Env.setρ];split
    · rfl
    · exact q.one j)).nxt (n:=s.nx+1) (Nat.le_succ _)
  have s2:=s1.moveM (K:=s.nx) (m':=.own R xs false) hM c3 (Nat.lt_succ_self _) (by
      show OwnR R F w xs ((E.setρ s.nx _).ρ s.nx)
      rw [z]
      refine .inr ⟨E.β k,0,len,_,ty,(0,0),by rw [u],by omega,?_,ZeC _,g,m.row fun j v Y=>by rw [Nat.zero_add];simpa using Y⟩
      rw [List.size_toArray,m.1,u,Nat.zero_add];exact Zp _) trivial (fun b g=>by
      have g:YQ ((E.setρ s.nx _).ρ s.nx)=some b:=g
      rw [z] at g
      cases g
      exact rfl) (fun h=>by cases h)
  have A:=s2.setL (d:=d) (v:=.c (.sl s.nx)) (Nat.lt_succ_self _) (YZ Z)
  simp only [Yj,Yd] at A
  rw [z] at A
  rw [S]
  exact ⟨_,F,A⟩
theorem WPr.nilc {α:Type} {R:TRep α} {xs:List α} (f:Bool) {i:Nat} {g:List Nat} {o:Oper} {t el I d k:Nat} {x y:Operand}
  (K:Z3 s.V k=some (.sl R xs)\/∃ fr,Z3 s.M k=some (.own R xs fr)) (N:ops[i]? = some o) (O:YJ ops s.L o=some true) (z:o.op=.binOp (bif f then .neq else .eql) t x y I) (S:o.dst=some d) (T:X.P.underlying t=some (.slice el))
  (U:Yq s.L x=some (.c (.sl k))) (W:Yq s.L y=some (.c .nil)) (Y:Nat.blt d X.fn.ntmps=true)
  (Z:∀ b:Bool,(b=true->xs=[])->WPr X ops g todo ⟨(d,.c (.b (bif f then !b else b)))::s.L,s.M,s.V,s.nx⟩):WPr X ops (i::g) todo s:=by
 intro E F w a m
 have ⟨e1,_⟩:=m.eval U
 have ⟨e2,_⟩:=m.eval W
 have A:∃ (b:Bool) (p:Option Addr) (l c:Nat),Yd E (.sl k)=.slice p l c/\p.isNone=b/\(b=true->xs=[]):=by
  rcases K with h | ⟨fr,h⟩
  ·rcases (m.hV k _ h:SlR R F w xs (E.ρ k)) with ⟨j,G,c',C⟩ | ⟨b,off,Yk,arr,D,fz,j,_⟩
   ·exact ⟨G.isNone,G,0,c',C,rfl,fun _=>j⟩
   ·exact ⟨false,_,_,_,j,rfl,fun h=>by cases h⟩
  ·rcases (m.hM k _ h:OwnR R F w xs (E.ρ k)) with ⟨j,C⟩ | ⟨b,off,Yk,arr,D,fz,j,_⟩
   ·exact ⟨true,none,0,0,C,rfl,fun _=>j⟩
   ·exact ⟨false,_,_,_,j,rfl,fun h=>by cases h⟩
 have ⟨b,p,l,c,A,hp,hb⟩:=A
 have r:(execOp a.eval o).run X.P w=.ok (.value (.bool (bif f then !b else b))) w:=by
  simp only [execOp,z,e1,e2,Yj]
  rw [A]
  simp only [Yd]
  refine Y9 ?_
  have u:(Op.equal t (.slice p l c) (.slice none 0 0)).run X.P w=.ok b w:=by
   show (Op.equalIn (9999+1) t _ _).run X.P w=_
   generalize 9999=q
   subst hp
   cases p<;>simp only [Op.equalIn,Sem.run_bind,Xm T,Result.andThen_ok,Sem.run_pure,Option.isNone_none,Option.isNone_some]
  cases f with
  | false =>
   simp only [cond_false,eqGuard,Sem.run_bind,Sem.run_pure,Result.andThen_ok]
   show (do pure (Value.bool (<- Op.equal t _ _)):Sem Value).run X.P w=_
   simp only [Sem.run_bind,u,Result.andThen_ok,Sem.run_pure]
  | true =>
   simp only [cond_true,eqGuard,Sem.run_bind,Sem.run_pure,Result.andThen_ok]
   show (do pure (Value.bool (!(<- Op.equal t _ _))):Sem Value).run X.P w=_
   simp only [Sem.run_bind,u,Result.andThen_ok,Sem.run_pure]
 have hk:=Z b hb E F w _ (m.setL (d:=d) (v:=.c (.b (bif f then !b else b))) trivial (YZ Y))
 simp only [wpOps,N,RV m O,if_true]
 refine .inl (Wx r ?_)
 rw [S]
 exact hk
end
end
section
variable [LxP]
theorem RowL.take {α:Type} {R:TRep α} {F w} {xs:List α} {k:List Value} (h:RowL R F w xs k) {m:Nat} (l:m<=xs.length):RowL R F w (xs.take m) (k.take (m * R.sz)):=by
 have f:m * R.sz<=xs.length * R.sz:=Nat.mul_le_mul_right _ l
 refine ⟨by rw [List.length_take,List.length_take,h.1,Nat.min_eq_left f,Nat.min_eq_left l],fun i x c=>?_⟩
 rw [List.getElem?_take] at c
 split at c
 ·rename_i d
  have ⟨vs,r,u⟩:=h.2 i x c
  refine ⟨vs,r,fun j v q=>?_⟩
  have g:=(List.getElem?_eq_some_iff.1 q).1
  rw [R.len r] at g
  have:(i+1) * R.sz<=m * R.sz:=Nat.mul_le_mul_right _ d
  rw [Nat.add_mul] at this
  rw [List.getElem?_take,if_pos (by omega)]
  exact u j v q
 ·cases c
theorem RowL.drop {α:Type} {R:TRep α} {F w} {xs:List α} {c:List Value} (h:RowL R F w xs c) (m:Nat):RowL R F w (xs.drop m) (c.drop (m * R.sz)):=by
 refine ⟨by rw [List.length_drop,List.length_drop,h.1,Nat.sub_mul],fun i x d=>?_⟩
 rw [List.getElem?_drop] at d
 have ⟨vs,g,k⟩:=h.2 (m+i) x d
 refine ⟨vs,g,fun j v f=>?_⟩
 have:=k j v f
 rw [List.getElem?_drop,show m * R.sz+(i * R.sz+j)=(m+i) * R.sz+j by rw [Nat.add_mul];omega]
 exact this
def BH (h:Option Int) (len:Nat):Nat:=match h with | some h=>h.toNat | none=>len
theorem Lg (l h:Option Int) (sz:Nat) (b:Option Addr) (len Yk:Nat) :
    Vl l h sz (.slice b len Yk)=.slice (if Yk=(l.getD 0).toNat then b else b.map (·.add ((l.getD 0).toNat * sz))) (BH h len-(l.getD 0).toNat) (Yk-(l.getD 0).toNat):=by cases h<;>rfl
theorem ZcN {lo hi:Option Int} {len:Nat} {p:Nat × Nat} (h:Wj lo hi len=some p):p.1=(lo.getD 0).toNat/\p.2=BH hi len:=by
 have ⟨_,_,_,c⟩:=My h
 rw [c]
 cases hi<;>simp [BH]
theorem OwnR.sub {α:Type} {R:TRep α} {F w} {xs:List α} {v:Value} {l h:Option Int} {p:Nat × Nat} (x:OwnR R F w xs v) (k:Wj l h xs.length=some p) :
  OwnR R F w ((xs.take p.2).drop p.1) (Vl l h R.sz v):=by
 have ⟨D,G,I,m⟩:=My k
 have ⟨f,d⟩:=ZcN k
 have A:p.1<=p.2:=by rw [m];simp;omega
 have g:p.2<=xs.length:=by rw [m];simp;omega
 have c:((xs.take p.2).drop p.1).length=p.2-p.1:=by simp;omega
 rcases x with ⟨rfl,rfl⟩ | ⟨b,off,Yk,arr,el,fz,rfl,K,y,q,r,z⟩
 ·simp at g
  refine .inl ⟨by simp,?_⟩
  have j:p.1=0:=by omega
  have C:p.2=0:=by omega
  simp only [List.length_nil] at d
  rw [Lg,<- f,<- d,j,C]
  rfl
 ·rw [Lg,<- f,<- d]
  by_cases u:Yk=p.1
  ·have j:(xs.take p.2).drop p.1=[]:=List.eq_nil_of_length_eq_zero (by rw [c];omega)
   rw [if_pos u]
   refine .inr ⟨b,off,Yk-p.1,arr,el,fz,by rw [c],by rw [c];omega,?_,q,r,by rw [j];exact Row.empty⟩
   have:Yk-p.1=0:=by omega
   rw [this,Nat.zero_mul]
   exact Nat.le_trans (Nat.le_add_right _ _) y
  ·rw [if_neg u]
   refine .inr ⟨b,off+p.1 * R.sz,Yk-p.1,arr,el,fz,by rw [c];simp [VR],by rw [c];omega,?_,q,r,z.sub p.1 p.2⟩
   have:p.1 * R.sz+(Yk-p.1) * R.sz=Yk * R.sz:=by rw [<- Nat.add_mul];congr 1;omega
   omega
theorem Zmx {l h:Option Int} {sz b:Nat} {v:Value} (c:YQ (Vl l h sz v)=some b):YQ v=some b:=by
 unfold Vl at c
 split at c
 ·rename_i a len Yk
  have d:∀ (a:Addr) n,(a.add n).block=a.block:=fun a n=>by unfold Addr.add;split<;>rfl
  cases a with
  | none=>split at c<;>cases c
  | some a =>
   split at c
   ·exact c
   ·simp only [Option.map_some,YQ,Option.some.injEq,d] at c ⊢;exact c
 ·exact c
section
variable {X:Ctx} {s:St} {ops:Array Oper} {todo:Act->World->Prop} {tt:List (Nat × TD)} {E:Env} {F:YD} {w:World} {a:Act}
theorem WPr.vw {α:Type} {R:TRep α} (htt:TTOk X.P tt) {i:Nat} {m:List Nat} {o:Oper} {t:TypeId} {A:TD} {x:Operand} {lo hi:Option Operand} {l h:Option (IntKind × Int)} {d k:Nat} {fr:Bool} {xs zs:List α}
    (C:lsl xs (l.map (·.2)) (h.map (·.2))=some zs) (ho:ops[i]? = some o) (hg:YJ ops s.L o=some true) (D:o.op=.slice t x lo hi none) (hd:o.dst=some d)
    (ht:Z3 tt t=some A) (hx:Yq s.L x=some (.c (.sl k))) (hM:Z3 s.M k=some (.own R xs fr)) (G:Wp s.L lo=some l) (I:Wp s.L hi=some h)
    (z:(Nat.blt d X.fn.ntmps && Nat.beq A.kd 6 && Nat.beq A.es R.sz)=true)
    (kk:WPr X ops m todo ⟨(d,.c (.sl s.nx))::s.L,s.M,(s.nx,.vw k (l.map (·.2)) (h.map (·.2)) R.sz)::s.V,s.nx+1⟩):WPr X ops (i::m) todo s:=by
  refine WPr.op ho hg (fun E F w a q=>?_) kk
  simp only [Zc] at z
  obtain ⟨⟨c1,c2⟩,K⟩:=z
  have K:=Zd K
  have ⟨e1,_⟩:=q.eval hx
  have ⟨el,hu,N⟩:=(htt.get ht).sliceOf c2
  have U:OwnR R F w xs (E.ρ k):=q.hM k _ hM
  unfold Kx.lsl at C
  rw [Zm] at C
  obtain ⟨p,O,rfl⟩:=C
  have ⟨q1,q2,q3,q4⟩:=My O
  have ⟨S,T⟩:=ZcN O
  have g:∃ b c,E.ρ k=.slice b xs.length c/\xs.length<=c:=by
    rcases U with ⟨rfl,r⟩ | ⟨b',off,Yk,arr,el,fz,r,z,_⟩
    · exact ⟨none,0,r,Zp _⟩
    · exact ⟨_,_,r,z⟩
  have ⟨b,c,r,g⟩:=g
  have u:(execOp a.eval o).run X.P w=.ok (.value (Vl (l.map (·.2)) (h.map (·.2)) R.sz (E.ρ k))) w:=by
    simp only [execOp,D,e1,Yj,Yd,r,MM q G,MM q I,Option.map_none]
    refine Y9 ?_
    rw [ZjZ hu (N w) g O,K,Lg,<- S,<- T]
  refine Wx u ?_
  have Y:E.Eqb s.nx (E.setρ s.nx (Vl (l.map (·.2)) (h.map (·.2)) R.sz (E.ρ k))):=E.eqb_setρ _ _ _ (Zp _)
  have Z:(E.setρ s.nx (Vl (l.map (·.2)) (h.map (·.2)) R.sz (E.ρ k))).ρ s.nx=Vl (l.map (·.2)) (h.map (·.2)) R.sz (E.ρ k):=by simp [Env.setρ]
  have y:=(q.wf.hM k _ hM).1
  have s1:=q.env Y (fun j=>by
    simp only [Env.setρ];split
    · rw [r];rfl
    · exact q.one j)
  have s2:=s1.addV (f:=.vw k (l.map (·.2)) (h.map (·.2)) R.sz) (by
    show _=Vl _ _ _ _
    rw [Z,(Y k y).1]) (Nat.lt_succ_of_lt y)
  have W:=s2.setL (d:=d) (v:=.c (.sl s.nx)) (Nat.lt_succ_self _) (YZ c1)
  simp only [Yj,Yd] at W
  rw [Z] at W
  rw [hd]
  exact ⟨_,F,W⟩
theorem ZkL {α:Type} {R:TRep α} {xs zs:List α} {l h:Option Int} {k K:Nat} {fr:Bool} (c:lsl xs l h=some zs) (hV:Z3 s.V K=some (.vw k l h R.sz)) (hM:Z3 s.M k=some (.own R xs fr)) (d:Sat X s E F w a) :
  OwnR R F w zs (E.ρ K):=by
 unfold Kx.lsl at c
 rw [Zm] at c
 obtain ⟨p,f,rfl⟩:=c
 have g:E.ρ K=Vl l h R.sz (E.ρ k):=d.hV K _ hV
 rw [g]
 exact OwnR.sub (d.hM k _ hM) f
theorem Ww {α:Type} {R:TRep α} {xs zs:List α} {l h:Option Int} {k K:Nat} {fr:Bool} (c:lsl xs l h=some zs) (hV:Z3 s.V K=some (.vw k l h R.sz)) (hM:Z3 s.M k=some (.own R xs fr)):Sh X s R zs (.sl K) :=
 fun _ _ _ _ d=>(Rd.of_own (ZkL c hV hM d)).src
theorem Sat.settle {α:Type} {R:TRep α} {xs zs:List α} {l h:Option Int} {k K:Nat} {fr:Bool} (g:lsl xs l h=some zs) (hV:Z3 s.V K=some (.vw k l h R.sz)) (hM:Z3 s.M k=some (.own R xs fr)) (j:Z3 s.M K=none)
  (d:Sat X s E F w a):Sat X ⟨s.L,(K,.own R zs fr)::(k,.gone)::s.M,s.V,s.nx⟩ E F w a:=by
 have q:E.ρ K=Vl l h R.sz (E.ρ k):=d.hV K _ hV
 have f:∀ b,(MO.own R zs fr).fp E K b->(MO.own R xs fr).fp E k b:=fun b c=>by
  have c:YQ (E.ρ K)=some b:=c
  rw [q] at c
  exact Zmx c
 exact d.moveM (m':=.own R zs fr) hM j (d.wf.hV K _ hV).1 (ZkL g hV hM d) trivial f (fun m b c=>d.fresh k _ hM m b (f b c))
def Vf {α:Type} (xs:List α) (l h:Option Int) (ys:List α):Option (List α × Int):=(Wj l h xs.length).map fun p =>
 (xs.take p.1++ys.take (min ys.length (p.2-p.1))++xs.drop (p.1+min ys.length (p.2-p.1)),((min ys.length (p.2-p.1):Nat):Int))
theorem ZmV {α:Type} {P:Program} {t t2 ty:TypeId} {td:TD} (ok:TD.Ok P t td) (hk:Nat.beq td.kd 6=true) {R:TRep α} (hR:td.es=R.sz) {F:YD} {w:World} {xs ys:List α} {v sv:Value} {l h:Option Int} {r:List α × Int}
  (ho:OwnR R F w xs v) (hs:Hv P R F w ys sv) (hz:Vf xs l h ys=some r) (hF:∀ b,YQ v=some b->¬ F b) :
  ∃ w',(Builtin.copy_ #[t,t2] ty #[Vl l h R.sz v,sv]).run P w=.ok (.int .i64 r.2) w'/\OwnR R F w' r.1 v/\w'.os=w.os/\w'.tape=w.tape/\Oq w w'/\w.heap.size<=w'.heap.size /\
   (∀ b,YQ v≠some b->w'.heap[b]? = w.heap[b]?):=by
 have ⟨i,hu,hi,hsz,_⟩:=ok.slc hk
 have d:(sizeOf td.el).run P w=.ok R.sz w:=by simp [sizeOf,typeInfo,hi,hsz,hR]
 unfold Vf at hz
 rw [Zm] at hz
 obtain ⟨p,hp,rfl⟩:=hz
 have ⟨q1,q2,q3,q4⟩:=My hp
 have ⟨T,K⟩:=ZcN hp
 have hle:p.1<=p.2:=by rw [q4];simp;omega
 have W:p.2<=xs.length:=by rw [q4];simp;omega
 have ⟨L,g,A,hfc,U⟩:=hs
 let n:=min ys.length (p.2-p.1)
 have z:n<=ys.length:=Nat.min_le_left _ _
 have hn2:n<=p.2-p.1:=Nat.min_le_right _ _
 have C:=hfc n w z rfl
 have D:Nat.min ys.length (p.2-p.1)=n:=rfl
 rcases ho with ⟨rfl,rfl⟩ | ⟨b,off,Yk,arr,el,fz,rfl,hc,hs,ht,hh,hr⟩
 ·simp at W
  have hn0:n=0:=by omega
  have hv:Vl l h R.sz (.slice none 0 0)=.slice none (p.2-p.1) (0-p.1):=by
   simp only [List.length_nil] at K
   rw [Lg,<- T,<- K]
   simp
  refine ⟨w,?_,.inl ⟨by simp [show min ys.length (p.2-p.1)=0 from hn0],rfl⟩,rfl,rfl,.m,Zp _,fun _ _=>rfl⟩
  rw [hv]
  simp [Builtin.copy_,Xm hu,A,d,D,C,goInt]
 ·have hcl:Vl l h R.sz (.slice (some ⟨b,off,none⟩) xs.length Yk)=.slice (some (if Yk=p.1 then ⟨b,off,none⟩ else ⟨b,off+p.1 * R.sz,none⟩)) (p.2-p.1) (Yk-p.1):=by
   rw [Lg,<- T,<- K]
   split<;>simp [VR]
  let G:=if Yk=p.1 then off else off+p.1 * R.sz
  have Y:(if Yk=p.1 then (⟨b,off,none⟩:Addr) else ⟨b,off+p.1 * R.sz,none⟩)=⟨b,G,none⟩:=by simp only [G];split<;>rfl
  have k:(L.take (n * R.sz)).length=n * R.sz:=by
   rw [List.length_take,g.1];exact Nat.min_eq_left (Nat.mul_le_mul_right _ z)
  have q:(p.1+n) * R.sz<=Yk * R.sz:=Nat.mul_le_mul_right _ (by omega)
  rw [Nat.add_mul] at q
  have Z:Yk=p.1->n=0:=fun e=>by omega
  have hoff:G+n * R.sz<=arr.size:=by
   simp only [G]
   split
   ·rename_i e;rw [Z e];omega
   ·omega
  have hst:=M5 (P:=P) b G el fz (L.take (n * R.sz)) 0 arr w hh ht (by rw [k];omega) (fun u hu=>U u (List.mem_of_mem_take hu))
  let c:=(arr.toList.take (G+0)++L.take (n * R.sz)++arr.toList.drop (G+0+(L.take (n * R.sz)).length)).toArray
  have x:c.size=arr.size:=by
   simp only [c,List.size_toArray,List.length_append,List.length_take,List.length_drop,Array.length_toList,g.1]
   have:min (n * R.sz) (ys.length * R.sz)=n * R.sz:=Nat.min_eq_left (Nat.mul_le_mul_right _ z)
   omega
  have hg:W4 F w F (w.setRow b c):=⟨fun _ h=>h,fun b' I=>setRow_other w b b' _ (fun e=>hF b rfl (e ▸ I))⟩
  have ⟨V,M,N,_⟩:=hr.cellsOf
  have hnew:RowL R F (w.setRow b c) (xs.take p.1++ys.take n++xs.drop (p.1+n)) (V.take (p.1 * R.sz)++L.take (n * R.sz)++V.drop ((p.1+n) * R.sz)) :=
   ((((M.take (by omega)).append (g.take z)).append (M.drop _)).mono hg)
  have y:(V.take (p.1 * R.sz)).length=p.1 * R.sz:=by
   rw [List.length_take,M.1];exact Nat.min_eq_left (Nat.mul_le_mul_right _ (by omega))
  have O:∀ (j:Nat) u,(V.take (p.1 * R.sz)++L.take (n * R.sz)++V.drop ((p.1+n) * R.sz))[j]? = some u->c[off+j]? = some u:=by
   intro j u f
   have hal:arr.toList.length=arr.size:=Array.length_toList
   simp only [c,List.getElem?_toArray,Nat.add_zero,k]
   by_cases hn0:n=0
   ·have e1:L.take (n * R.sz)=[]:=by rw [hn0];simp
    rw [e1] at f ⊢
    rw [hn0]
    simp only [List.append_nil,hn0,Nat.add_zero,List.take_append_drop,Nat.zero_mul] at f ⊢
    have:=N j u f
    simpa using this
   ·have hne:Yk≠p.1:=fun e=>hn0 (Z e)
    have ho':G=off+p.1 * R.sz:=if_neg hne
    rw [ho']
    rw [List.append_assoc] at f ⊢
    have S:(arr.toList.take (off+p.1 * R.sz)).length=off+p.1 * R.sz:=by rw [List.length_take,hal];omega
    by_cases hj1:j < p.1 * R.sz
    ·rw [Zn (by rw [y];exact hj1),List.getElem?_take,if_pos hj1] at f
     rw [Zn (by rw [S];omega),List.getElem?_take,if_pos (by omega)]
     have:=N j u f
     simpa using this
    ·rw [Zo (by rw [y];omega),y] at f
     rw [Zo (by rw [S];omega),S]
     have e2:off+j-(off+p.1 * R.sz)=j-p.1 * R.sz:=by omega
     rw [e2]
     by_cases hj2:j-p.1 * R.sz < n * R.sz
     ·rw [Zn (by rw [k];exact hj2)] at f ⊢
      exact f
     ·rw [Zo (by rw [k];omega),k] at f ⊢
      rw [List.getElem?_drop] at f ⊢
      have e3:(p.1+n) * R.sz+(j-p.1 * R.sz-n * R.sz)=j:=by rw [Nat.add_mul];omega
      rw [e3] at f
      have e4:off+p.1 * R.sz+n * R.sz+(j-p.1 * R.sz-n * R.sz)=off+j:=by omega
      rw [e4]
      have:=N j u f
      simpa using this
  refine ⟨w.setRow b c,?_,.inr ⟨b,off,Yk,c,el,fz,?_,?_,by rw [x];exact hs,by rw [x];exact ht,setRow_heap w b arr _ el fz hh,hnew.row O⟩,rfl,rfl,.m,by simp,fun b' I=>setRow_other w b b' _ (fun e=>I (by rw [e];rfl))⟩
  ·rw [hcl,Y]
   simp [Builtin.copy_,Xm hu,A,d,D,C,goInt]
   rw [hst]
   rfl
  ·congr 1
   simp;omega
  ·simp;omega
theorem WPr.cp {α:Type} {R:TRep α} (htt:TTOk X.P tt) {i:Nat} {f:List Nat} {o:Oper} {t t2:TypeId} {z:TD} {x y:Operand} {d k K:Nat} {fr:Bool} {m:SC} {xs ys:List α} {l h:Option Int} {r:List α × Int}
  (T:Vf xs l h ys=some r) (q:Sh X s R ys m) (U:ops[i]? = some o) (W:YJ ops s.L o=some true) (A:o.op=.call { callee:=.builtin .copy,args:=#[x,y],argTypes:=#[t,t2] }) (Y:o.dst=some d)
  (Z:Yq s.L x=some (.c (.sl K))) (hV:Z3 s.V K=some (.vw k l h R.sz)\/(K=k/\l=none/\h=none)) (C:Z3 s.M k=some (.own R xs fr)) (hy:Yq s.L y=some (.c m)) (ht:Z3 tt t=some z)
  (S:(Nat.blt d X.fn.ntmps && Nat.beq z.kd 6 && Nat.beq z.es R.sz)=true)
  (kk:WPr X ops f todo ⟨(d,.c (.i .i64 r.2))::s.L,(k,.own R r.1 fr)::s.M,s.V,s.nx⟩):WPr X ops (i::f) todo s:=by
 refine WPr.op U W (fun E F w a j=>?_) kk
 simp only [Zc] at S
 obtain ⟨⟨c1,c2⟩,c3⟩:=S
 have ⟨e1,_⟩:=j.eval Z
 have ⟨e2,_⟩:=j.eval hy
 have N:=j.mF k _ C
 have g:OwnR R F w xs (E.ρ k):=j.hM k _ C
 have O:E.ρ K=Vl l h R.sz (E.ρ k):=by
  rcases hV with h | ⟨rfl,rfl,rfl⟩
  ·exact j.hV K _ h
  ·have ⟨b,c,hv⟩:=ZgD g
   rw [hv]
   rw [Lg]
   simp only [BH,Option.getD_none,Int.toNat_zero,Nat.sub_zero,Nat.zero_mul]
   cases b with
   | none=>simp
   | some b =>
    have:b.add 0=b:=by unfold Addr.add;simp
    simp [this]
 have ⟨w',u,I,g1,g2,g3,g4,g5⟩:=ZmV (t2:=t2) (ty:=o.type) (htt.get ht) c2 (Zd c3) g (q E F w a j) T (fun b D=>(N b D).1)
 refine Wx (v:=.int .i64 r.2) (w':=w') (Sm A ?_) ?_
 ·simp only [List.map_toArray,List.map_cons,List.map_nil,e1,e2,Yj]
  have:Yd E (.sl K)=Vl l h R.sz (E.ρ k):=O
  rw [this]
  exact Y9 u
 ·have s1:=j.setM (m':=.own R r.1 fr) C g1 g2 g3 g4 (fun b _ G=>g5 b (fun e=>G e)) (fun b D=>D) I trivial (fun h=>h)
  have s2:=s1.setL (d:=d) (v:=.c (.i .i64 r.2)) trivial (YZ c1)
  rw [Y]
  exact ⟨E,F,s2⟩
theorem WPr.ext {i:Nat} {c:List Nat} {o:Oper} {f:FuncId} {args:Array Operand} {q:Array TypeId} {d:Nat} {g:List SV} {v:SV}
  (k:∀ (E:Env) (w:World),(callFunc f (g.map (Yj E)).toArray).run X.P w=.ok (.value (Yj E v)) w) (r:∀ n,v.kb n) (u:ops[i]? = some o) (x:YJ ops s.L o=some true)
  (l:o.op=.call { callee:=.value (.func f),args:=args,argTypes:=q }) (y:o.dst=some d) (z:Nat.blt d X.fn.ntmps=true) (h:Us s.L args.toList=some g)
  (A:WPr X ops c todo ⟨(d,v)::s.L,s.M,s.V,s.nx⟩):WPr X ops (i::c) todo s:=by
 refine WPr.val (fun E F w a C=>⟨?_,r _⟩) u x y z A
 have m:=(HE C h).1
 have j:args.map a.eval=(g.map (Yj E)).toArray:=by
  apply Array.ext'
  rw [Array.toList_map,m]
 unfold execOp
 simp only [l,resolve,Deferred.ofValue,Act.eval,invoke,Sem.run_bind,Sem.run_pure,Result.andThen_ok]
 have:=k E w
 rw [<- j] at this
 simpa using this
def byteOf (c:Int):UInt8:=c.toNat.toUInt8
def Zdm (m:ByteArray) (c:Int):Int:=firstIdx m (byteOf c)
def Bq (m:ByteArray) (c:Int):Int:=m.foldl (fun n x=>if x==byteOf c then n+1 else n) (((0:Nat):Int))
theorem ZnG {P:Program} {f:FuncId} {fn:Func} (g:P.funcs[f]? = some fn) (d:(fn.name == "runtime.NumGoroutine")=false) (h:fn.body.isNone=true) (j:Extern.findNext fn=none)
  (k:Extern.find fn=some Extern.BytealgIndexByte.indexByte) (m:ByteArray) (c:Int) (E:Env) (w:World) :
  (callFunc f (([.c (.s m),.c (.i .u8 c)]:List SV).map (Yj E)).toArray).run P w=.ok (.value (Yj E (.c (.i .i64 (Zdm m c))))) w:=by
 rw [run_callFunc_extern g d h j k]
 show ((Extern.BytealgIndexByte.indexByte #[.string m,.int .u8 c]).run P w).andThen _=_
 rw [run_indexByte_string];rfl
theorem ZnF {P:Program} {f:FuncId} {fn:Func} (g:P.funcs[f]? = some fn) (d:(fn.name == "runtime.NumGoroutine")=false) (h:fn.body.isNone=true) (j:Extern.findNext fn=none)
  (k:Extern.find fn=some Extern.BytealgCount.count) (m:ByteArray) (c:Int) (E:Env) (w:World) :
  (callFunc f (([.c (.s m),.c (.i .u8 c)]:List SV).map (Yj E)).toArray).run P w=.ok (.value (Yj E (.c (.i .i64 (Bq m c))))) w:=by
 rw [run_callFunc_extern g d h j k]
 show ((Extern.BytealgCount.count #[.string m,.int .u8 c]).run P w).andThen _=_
 have:(Extern.BytealgCount.count #[.string m,.int .u8 c]).run P w=.ok (.int .i64 (Bq m c)) w:=by
  change Sem.run P (do
   let b <- Extern.Bytes.bytesOf (.string m)
   let c' <- Extern.Bytes.asByte (.int .u8 c)
   pure (goInt (b.foldl (fun n x=>if x==c' then n+1 else n) (0:Nat)))) w=_
  simp only [Extern.Bytes.bytesOf,Extern.Bytes.asByte,Sem.run_bind,Sem.run_pure,Result.andThen,goInt]
  rfl
 rw [this];rfl
end
end
section
variable [LxP]
section
variable {X:Ctx} {s:St} {ops:Array Oper} {todo:Act->World->Prop} {E:Env} {F:YD} {w:World} {a:Act}
theorem Sat.setL0 (c:Sat X s E F w a) {d:Nat} {v v0:SV} (f:Z3 s.L d=some v0) (g:Yj E v=Yj E v0) (j:v.kb s.nx):Sat X ⟨(d,v)::s.L,s.M,s.V,s.nx⟩ E F w a:={ c with
 wf:=⟨fun k l h=>by
   rw [YC] at h
   split at h
   ·cases h;exact j
   ·exact c.wf.hL _ _ h,c.wf.hM,c.wf.hV⟩
 hL:=fun k l h=>by
  rw [YC] at h
  split at h
  ·rename_i e;cases h;subst e;rw [g];exact c.hL _ _ f
  ·exact c.hL _ _ h }
end
end
end Go.Kx
section
namespace Go.Kx
variable [LxP]
open Go.ChangeShapes Go.WideShapes
structure Bulk where
 f:{H:Type}->DataW H->Nat
 all:{H:Type}->List (DataW H)->Nat
 str:∀ {H:Type} (b:List UInt8),f (.lit (.string b):DataW H)=b.length+1
 slice:∀ {H:Type} (e s:List (DataW H)),f (.slice e s)=all e+all s+1
 agg:∀ {H:Type} (l:List (DataW H)),f (.agg l)=all l+1
 nil:∀ {H:Type},all ([]:List (DataW H))=0
 cons:∀ {H:Type} (d:DataW H) l,all (d::l)=f d+all l
 one:∀ {H:Type} (d:DataW H),1<=f d
def bd:Nat:=1048576
theorem Bulk.mem (B:Bulk) {H:Type} {d:DataW H}:∀ {l:List (DataW H)},d∈l->B.f d<=B.all l
 | x::l,h=>by
  rw [B.cons]
  rcases List.mem_cons.1 h with rfl | h
  ·omega
  ·have:=B.mem h;omega
theorem Bulk.len (B:Bulk) {H:Type}:∀ (l:List (DataW H)),l.length<=B.all l
 | []=>by simp
 | x::l=>by rw [B.cons,Zg];have:=B.len l;have:=B.one x;omega
abbrev UY (w:World):YD:=fun b=>b < w.heap.size
def Rdb (P:Program) (B:Bulk) (t:TypeId) {α:Type} (R:TRep α) (ok:α->Prop):Prop:=R.sz=P.cellsOf t /\
 ∀ {H:Type} (enc:TypeId × Value->H) (w:World) (fuel:Nat) (cs:List Value) (x:DataW H × List MemPlace),DataW.trod enc P w 0 (fun _=>true) true fuel t cs=some x->B.f x.1<=bd ->
  ∃ a,R.rep (UY w) w a cs/\ok a
section
variable {P:Program} {B:Bulk} {t:TypeId}
theorem Rdb.int {k:IntKind} (d:P.underlying t=some (.int k)) (f:P.cellsOf t=1):Rdb P B t (rI k) (fun n=>(Lit.int k n).wf=true) :=
 ⟨f.symm,fun enc w c cs x h _=>by obtain ⟨n,rfl,_,g⟩:=DataW.trod_int d h;exact ⟨n,rfl,g⟩⟩
theorem Rdb.bool (d:P.underlying t=some .bool) (f:P.cellsOf t=1):Rdb P B t rB (fun _=>True) :=
 ⟨f.symm,fun enc w c cs x h _=>by obtain ⟨n,rfl,_⟩:=DataW.trod_bool d h;exact ⟨n,rfl,trivial⟩⟩
theorem Rdb.str (d:P.underlying t=some .string) (f:P.cellsOf t=1):Rdb P B t rS (fun s=>s.size<=bd) :=
 ⟨f.symm,fun enc w c cs x h g=>by
  obtain ⟨n,rfl,rfl,_⟩:=DataW.trod_string d h
  refine ⟨n,rfl,?_⟩
  rw [B.str] at g
  have e:n.data.toList.length=n.size:=by rw [Array.length_toList];rfl
  omega⟩
theorem ZhW {α:Type} {Q:Nat->α->Prop}:∀ {n:Nat},(∀ i,i < n->∃ x,Q i x)->∃ xs:List α,xs.length=n/\∀ i x,xs[i]? = some x->Q i x
 | 0,_=>⟨[],rfl,by simp⟩
 | n+1,h=>by
  have ⟨xs,d,f⟩:=ZhW (n:=n) fun i hi=>h i (by omega)
  have ⟨y,g⟩:=h n (by omega)
  refine ⟨xs++[y],by simp [d],fun i x hi=>?_⟩
  rw [List.getElem?_append] at hi
  split at hi
  ·exact f i x hi
  ·rename_i j
   have c:=(List.getElem?_eq_some_iff.1 hi).1
   simp only [List.length_singleton] at c
   have e:i=n:=by omega
   subst e
   rw [d,Nat.sub_self] at hi
   simp only [List.getElem?_cons_zero,Option.some.injEq] at hi
   subst hi;exact g
theorem Rdb.slice {α:Type} {R:TRep α} {ok:α->Prop} {e:TypeId} (hu:P.underlying t=some (.slice e)) (k:P.cellsOf t=1) (I:Rdb P B e R ok) :
    Rdb P B t (XO R) (fun xs=>xs.length<=bd/\∀ x∈xs,ok x):=⟨k.symm,fun enc w Y cs x h Z=>by
  rcases DataW.trod_slice hu h with ⟨rfl,_⟩ | ⟨a,len,Yk,c,rest,n,rfl,rfl,rfl,_,hlc,_,O,hx,_⟩
  · exact ⟨[],⟨_,rfl,.inl ⟨rfl,_,_,rfl⟩⟩,by simp [bd],by simp⟩
  · simp only at Z
    rw [B.slice] at Z
    have C:=B.len (c.map (·.1))
    rw [List.length_map,O] at C
    have l:0 < P.cellsOf e:=by rw [<- I.1];exact R.pos
    have key:∀ i,i < len->∃ x,∃ cs y,w.cells? 0 (a.add (i * P.cellsOf e)) (P.cellsOf e)=some cs/\c[i]? = some y/\R.rep (UY w) w x cs/\ok x:=fun i hi=>by
      have h1:=hx i hi
      have f:i < c.length:=by omega
      rw [Za f,Option.bind_eq_some_iff] at h1
      have ⟨cs,h2,h3⟩:=h1
      have K:c[i].1∈c.map (·.1):=List.mem_map.2 ⟨_,List.getElem_mem f,rfl⟩
      have ⟨x,h4,h5⟩:=I.2 enc w n cs _ h3 (by have:=B.mem K;omega)
      exact ⟨x,cs,_,h2,Za f,h4,h5⟩
    have ⟨xs,hl,L⟩:=ZhW key
    have U:∀ x∈xs,ok x:=fun x K=>by
      have ⟨i,hi⟩:=List.mem_iff_getElem?.1 K
      have ⟨_,_,_,_,_,h⟩:=L i x hi
      exact h
    refine ⟨xs,⟨_,rfl,?_⟩,by omega,U⟩
    rcases Nat.eq_zero_or_pos len with S | S
    · subst S
      have:xs=[]:=List.eq_nil_of_length_eq_zero hl
      subst this
      exact .inl ⟨rfl,_,_,rfl⟩
    · -- the block
      have g:∀ i j cs,i < len->w.cells? 0 (a.add (i * P.cellsOf e)) (P.cellsOf e)=some cs->j < P.cellsOf e->w.cell? ((a.add (i * P.cellsOf e)).add j)=cs[j]? := fun i j cs _ k G=>by
        unfold World.cells? at k
        rw [if_pos (Nat.zero_le _)] at k
        have:=mapM_some_get k j j (by simp [G])
        exact this
      have D:∀ i cs,w.cells? 0 (a.add (i * P.cellsOf e)) (P.cellsOf e)=some cs->cs.length=P.cellsOf e:=fun i cs k=>by
        unfold World.cells? at k
        rw [if_pos (Nat.zero_le _)] at k
        simpa using mapM_some_length k
      obtain ⟨M,N⟩:∃ M,xs[0]? = some M:=⟨_,Za (by omega)⟩
      have ⟨r,y0,u,_,_,_⟩:=L 0 M N
      have d:=g 0 0 r S u l
      have m:(a.add (0 * P.cellsOf e)).add 0=a:=by unfold Addr.add;simp
      rw [m,Za (by rw [D 0 r u];exact l)] at d
      unfold World.cell? at d
      split at d
      · rename_i arr ty fz T
        cases q:a.spot with
        | some s=>rw [q] at d;simp at d
        | none =>
          have ha:a=⟨a.block,a.off,none⟩:=by cases a;simp at q;simp [q]
          have f:a.block < w.heap.size:=(Array.getElem?_eq_some_iff.1 T).1
          refine .inr ⟨a.block,a.off,Yk,arr,ty,fz,by rw [hl,<- ha],by omega,f,T,fun i x hi=>?_⟩
          have ⟨cs,y,z,_,A,_⟩:=L i x hi
          have V:i < len:=by have:=(List.getElem?_eq_some_iff.1 hi).1;omega
          refine ⟨cs,A,fun j v G=>?_⟩
          have W:j < P.cellsOf e:=by have:=(List.getElem?_eq_some_iff.1 G).1;rw [D i cs z] at this;exact this
          have:=g i j cs V z W
          rw [ha,VR,VR,MC T,G] at this
          rw [I.1]
          exact this
      · cases d⟩
def RdF (P:Program) (B:Bulk) (fs:List Field) (off:Nat) {β:Type} (R:TRep β) (ok:β->Prop):Prop :=
  ∀ {H:Type} (enc:TypeId × Value->H) (w:World) (n:Nat) (cs:List Value) (xs:List (DataW H × List MemPlace)),xs.length=fs.length ->
    (∀ (i:Nat) (f:Field),fs[i]? = some f->DataW.trod enc P w 0 (fun _=>true) true n f.type ((cs.drop f.offset).take (P.cellsOf f.type))=xs[i]?)->B.all (xs.map (·.1))<=bd ->
    ∃ y,R.rep (UY w) w y ((cs.drop off).take R.sz)/\ok y
theorem RdF.one {f:Field} {α:Type} {R:TRep α} {ok:α->Prop} (h:Rdb P B f.type R ok):RdF P B [f] f.offset R ok:=fun enc w n cs xs g j c=>by
 obtain ⟨x,rfl⟩:=List.length_eq_one_iff.1 g
 have d:=j 0 f rfl
 simp only [List.getElem?_cons_zero] at d
 simp only [List.map_cons,List.map_nil] at c
 rw [B.cons,B.nil] at c
 have ⟨a,k,l⟩:=h.2 enc w n _ x d (by omega)
 rw [h.1]
 exact ⟨a,k,l⟩
theorem RdF.cons {f:Field} {fs:List Field} {off:Nat} {α β:Type} {g:TRep α} {h:TRep β} {c:α->Prop} {d:β->Prop} (j:Rdb P B f.type g c) (u:RdF P B fs off h d) (v:off=f.offset+g.sz) :
  RdF P B (f::fs) f.offset (rP g h) (fun y=>c y.1/\d y.2):=fun enc w n cs xs k l m=>by
 cases xs with
 | nil=>cases k
 | cons x xs =>
  have r:=l 0 f rfl
  simp only [List.getElem?_cons_zero] at r
  simp only [List.map_cons] at m
  rw [B.cons] at m
  have ⟨a,q,C⟩:=j.2 enc w n _ x r (by omega)
  have ⟨b,D,G⟩:=u enc w n cs xs (by simpa using k) (fun i z A=>by have:=l (i+1) z (by simpa using A);simpa using this) (by omega)
  rw [<- j.1] at q
  refine ⟨(a,b),⟨_,_,?_,q,D⟩,C,G⟩
  rw [v,<- List.drop_drop]
  exact List.take_add
theorem Rdb.struct {α β:Type} {f:α->β} {g:β->α} {R:TRep β} {ok:β->Prop} {fs:List Field} (m:P.underlying t=some (.struct fs.toArray)) (d:P.cellsOf t=R.sz) (c:∀ y,f (g y)=y) (h:RdF P B fs 0 R ok) :
  Rdb P B t (rM f R) (fun x=>ok (f x)):=⟨d.symm,fun enc w j cs x q k=>by
 obtain ⟨xs,n,rfl,rfl,u,v,z⟩:=DataW.trod_struct m q
 simp only at k
 rw [B.agg] at k
 have ⟨y,l,A⟩:=h enc w n cs xs (by simpa using v) (fun i r hi=>z i r (by simpa using hi)) (by omega)
 rw [List.drop_zero,<- d,<- u,List.take_length] at l
 refine ⟨g y,?_,?_⟩
 ·show R.rep _ _ (f (g y)) cs
  rw [c];exact l
 ·show ok (f (g y));rw [c];exact A⟩
def RdA (P:Program) (B:Bulk) (e:TypeId) (m off:Nat) {β:Type} (R:TRep β) (ok:β->Prop):Prop :=
  ∀ {H:Type} (enc:TypeId × Value->H) (w:World) (n:Nat) (cs:List Value) (xs:List (DataW H × List MemPlace)),xs.length=m ->
    (∀ (i:Nat),i < m->DataW.trod enc P w 0 (fun _=>true) true n e ((cs.drop ((off+i) * P.cellsOf e)).take (P.cellsOf e))=xs[i]?)->B.all (xs.map (·.1))<=bd ->
    ∃ y,R.rep (UY w) w y ((cs.drop (off * P.cellsOf e)).take R.sz)/\ok y
theorem RdA.one {e off:Nat} {α:Type} {R:TRep α} {ok:α->Prop} (h:Rdb P B e R ok):RdA P B e 1 off R ok:=fun enc w n cs xs f g c=>by
 obtain ⟨x,rfl⟩:=List.length_eq_one_iff.1 f
 have d:=g 0 (by omega)
 simp only [List.getElem?_cons_zero,Nat.add_zero] at d
 simp only [List.map_cons,List.map_nil] at c
 rw [B.cons,B.nil] at c
 have ⟨a,j,k⟩:=h.2 enc w n _ x d (by omega)
 rw [h.1]
 exact ⟨a,j,k⟩
theorem RdA.cons {e off m:Nat} {α β:Type} {g:TRep α} {h:TRep β} {c:α->Prop} {d:β->Prop} (f:Rdb P B e g c) (u:RdA P B e m (off+1) h d):RdA P B e (m+1) off (rP g h) (fun y=>c y.1/\d y.2) :=
 fun enc w n cs xs j k l=>by
 cases xs with
 | nil=>cases j
 | cons x xs =>
  have r:=k 0 (by omega)
  simp only [List.getElem?_cons_zero,Nat.add_zero] at r
  simp only [List.map_cons] at l
  rw [B.cons] at l
  have ⟨a,q,v⟩:=f.2 enc w n _ x r (by omega)
  have ⟨b,z,A⟩:=u enc w n cs xs (by simpa using j) (fun i hi=>by have:=k (i+1) (by omega);rw [show off+(i+1)=off+1+i by omega] at this;simpa using this) (by omega)
  rw [<- f.1] at q
  refine ⟨(a,b),⟨_,_,?_,q,z⟩,v,A⟩
  rw [Nat.add_mul,Nat.one_mul,<- f.1,<- List.drop_drop]
  exact List.take_add
theorem Rdb.array {β:Type} {R:TRep β} {ok:β->Prop} {m e:Nat} (j:P.underlying t=some (.array m e)) (c:P.cellsOf t=R.sz) (h:RdA P B e m 0 R ok):Rdb P B t R ok:=⟨c.symm,fun enc w d cs x k f=>by
 obtain ⟨xs,n,rfl,rfl,l,q,r⟩:=DataW.trod_array j k
 simp only at f
 rw [B.agg] at f
 have ⟨y,g,u⟩:=h enc w n cs xs q (fun i hi=>by have:=r i hi;rw [Nat.zero_add];exact this) (by omega)
 rw [Nat.zero_mul,List.drop_zero,<- c,<- l,List.take_length] at g
 exact ⟨y,g,u⟩⟩
end
section
variable {P:Program} {H:Type} {enc:TypeId × Value->H}
theorem ZgN {w:World} {b t:Nat} {v:Value} (c:Wi P t=true) (h:Value.okWide P w .any b t v):∃ cs,v=.agg cs:=by
 unfold Wi at c
 unfold Value.okWide at h
 split at c
 ·rename_i d;rw [d] at h;have ⟨cs,h,_⟩:=h;exact ⟨cs,h⟩
 ·rename_i d;rw [d] at h;have ⟨cs,h,_⟩:=h;exact ⟨cs,h⟩
 ·cases c
theorem Zmk {w:World} {b t:Nat} {v:Value} (d:(match P.underlying t with | some (.int _) | some .bool | some .string | some (.slice _)=>true | _=>false)=true) (h:Value.okWide P w .any b t v):v.cells=#[v]:=by
 unfold Value.okWide at h
 split at d
 ·rename_i c;rw [c] at h;simp only [Cell.okWide,Cell.ok,c] at h;cases v<;>first | rfl | (simp at h)
 ·rename_i c;rw [c] at h;simp only [Cell.okWide,Cell.ok,c] at h;cases v<;>first | rfl | (simp at h)
 ·rename_i c;rw [c] at h;simp only [Cell.okWide,Cell.ok,c] at h;cases v<;>first | rfl | (simp at h)
 ·rename_i c;rw [c] at h;simp only [Cell.okWide,Cell.ok,c] at h;cases v<;>first | rfl | (simp at h)
 ·cases d
theorem ZkA (k:laidOutB P=true) {W l:World} {m:Nat->Bool}:∀ {j:List TypeId} {vs:List Value} {g:List (DataW H)} {f:List MemPlace},j.all (fun t=>P.readableRec t && decide (t < P.types.size))=true ->
  DataW.TrodAll enc P W 0 (fun _=>true) true j vs g f->(∀ p∈f,W.sameAt l p)->(∀ p∈f,m p.block=true)->DataW.TrodAll enc P l 0 m true j vs g f
 | [],vs,g,f,_,h,_,_=>by
  cases vs<;>cases g<;>simp only [DataW.TrodAll] at h ⊢<;>first | exact h | exact h.elim
 | t::j,vs,g,f,ht,h,hs,hp=>by
  obtain ⟨v,r,d,u,p,q,rfl,rfl,rfl,y,z⟩:=trodAll_cons h
  simp only [List.all_cons,Zc,decide_eq_true_eq] at ht
  exact trodAll_cons_mk (WideElems.Trod_stays k ht.1.1 ht.1.2 y (fun x c=>hs x (List.mem_append.2 (.inl c))) fun x c=>hp x (List.mem_append.2 (.inl c)))
   (ZkA k ht.2 z (fun x c=>hs x (List.mem_append.2 (.inr c))) fun x c=>hp x (List.mem_append.2 (.inr c)))
theorem ZoU {f:Func} {s:ChangeSpec} {g fresh h u:Bool} {W A:World} {args:Array Value} {C:List (DataW H)} {d:List MemPlace} {tb:TypeId} (U:laidOutB P=true)
  (K:f.params.toList.all (fun t=>P.readableRec t && decide (t < P.types.size))=true) (v:s.vars=[]) (O:f.resultTypes=#[tb]) (I:P.underlying tb=some .bool)
  (L:DataW.Whole enc P f.params.toList s.vars g W args.toList C [] d) (y:s.fn H (C++[])={ results:=[.lit (.bool true)],args:=C }) (D:Ext (UY W) W A) :
  s.post enc P f g fresh h u W args (.bool true) A:=by
 have z:=L.lt
 have j:∀ p∈d,W.sameAt A p:=fun p m=>by
  cases p with
  | cell b off =>
   have:=D.block b (z _ m)
   show A.cell? ⟨b,off,none⟩=W.cell? ⟨b,off,none⟩
   unfold World.cell?;simp only [this]
  | map b=>exact D.block b (z _ m)
 have k:∀ p∈d,(fun b=>decide (b < W.heap.size)) p.block=true:=fun p m=>by simpa using z p m
 obtain ⟨p,q,V,hV,rfl,S,T⟩:=id L
 rw [v] at hV
 have hq:q=[]:=hV
 subst hq
 rw [List.append_nil] at j k S T
 have r:∀ (b:Nat) (G:Nat->Bool) (R:Bool),DataW.TrodAll enc P A b G R f.resultTypes.toList ((Value.bool true).resultList f.resultTypes.size) [.lit (.bool true)] []:=fun b G R=>by
  rw [O];exact trodAll_cons_mk (RowKit.shut_bool I true) trodAll_mk0
 have l:∀ G:Nat->Bool,(∀ x∈p,G x.block=true)->DataW.TrodAll enc P A 0 G true f.params.toList args.toList C p:=fun G M=>ZkA U K V j M
 refine ⟨C,[],p++[],[],p,[],L,?_,?_,?_,?_,fun _=>⟨?_,[.lit (.bool true)]++C,[],([]++p)++[],⟨[]++p,[],trodAll_append (l _ (fun _ _=>rfl)) (r _ _ _),by rw [v];rfl,rfl,?_,?_⟩,?_⟩⟩
 ·rw [y];exact r _ _ _
 ·rw [y];exact l _ k
 ·rw [y,v];rfl
 ·refine ⟨D.os,D.output.out,fun i hi=>?_⟩
  rw [D.block i hi]
  cases hh:W.heap[i]? with
  | none=>trivial
  | some o =>
   cases o with
   | cells c ty fr=>exact ⟨rfl,rfl,rfl,fun _ _=>rfl⟩
   | map es N=>exact .inr ⟨rfl,rfl⟩
   | _=>rfl
 ·exact RowKit.ok_one O rfl (RowKit.okWide_bool_mk I true)
 ·intro b off m
  simp only [List.nil_append,List.append_nil] at m
  have:=S b off m
  have hb:=D.block b (of_decide_eq_true (k _ m))
  unfold World.frozen? at this ⊢
  rw [hb];exact this
 ·intro Y
  simpa using T Y
 ·intro x Z _
  simpa using Z
structure Opened (F:YD) (w:World) (n:Nat) (fs:List (Nat × VF)) (az:List (List SC × List Value)) (E:Env):Prop where
 one:∀ k,(E.ρ k).oneCell'=true
 facts:∀ p∈fs,p.1 < n/\p.2.plain=true/\p.2.ok E F w (E.ρ p.1)
 args:∀ q∈az,q.1.map (Yd E)=q.2/\∀ c∈q.1,SC.kb n c
theorem Opened.start (F:YD) (w:World):Opened F w 0 [] [] E00:=⟨fun _=>rfl,by simp,by simp⟩
theorem Zqu {E E':Env} {F:YD} {w:World} {v:Value}:∀ {f:VF},f.plain=true->f.ok E F w v->f.ok E' F w v
 | .sl _ _,_,h=>h
 | .fn _,_,h=>h
 | .pl _,h,_ | .el _ _,h,_ | .vw _ _ _ _,h,_=>by cases h
theorem Opened.step {F:YD} {w:World} {n:Nat} {fs:List (Nat × VF)} {l:List (List SC × List Value)} {E:Env} (h:Opened F w n fs l E) {α:Type} {R:TRep α} (O:YU R) {x:α} {vs:List Value} (r:R.rep F w x vs) :
  ∃ E',Opened F w (n+O.nk) (fs++O.facts n x) (l++[(O.cells n x,vs)]) E':=by
 have ⟨E',m,_,_,v,y,z,A⟩:=O.ok r n E h.one
 refine ⟨E',v,fun p f=>?_,fun q g=>?_⟩
 ·rcases List.mem_append.1 f with f | f
  ·have ⟨j,d,k⟩:=h.facts p f
   exact ⟨by omega,d,by rw [(m p.1 j).1];exact Zqu d k⟩
  ·have ⟨_,j,d,k⟩:=z p f
   exact ⟨j,d,k⟩
 ·rcases List.mem_append.1 g with g | g
  ·have ⟨j,d⟩:=h.args q g
   exact ⟨by rw [Q1 m d];exact j,fun c u=>(d c u).mono (Nat.le_add_right _ _)⟩
  ·rw [List.mem_singleton.1 g]
   exact ⟨y.symm,A⟩
theorem Opened.V {F:YD} {w:World} {n:Nat} {fs c:List (Nat × VF)} {d:List (List SC × List Value)} {E:Env} (h:Opened F w n fs d E) (hV:c=fs):∀ k x,Z3 c k=some x->x.ok E F w (E.ρ k) :=
 fun k x f=>(h.facts (k,x) (hV ▸ Y2 f)).2.2
def MQ:Nat->DataW Unit->List Value
 | 0,_=>[]
 | _+1,.lit l=>[l.value]
 | n+1,.agg l=>l.flatMap (MQ n)
 | _+1,_=>[]
end
end Go.Kx
end
