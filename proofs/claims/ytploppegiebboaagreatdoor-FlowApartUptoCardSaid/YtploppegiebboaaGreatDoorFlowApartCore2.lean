/- Aids for the walks, part 2: a symbolic state of the machine, and that each step of the machine keeps it. -/
import Derived.Laws.Append
import Derived.Deep.Quiet
import Derived.Laws.StructEq
import Derived.ChangeKeysEq
import Derived.Orders
import Derived.Laws.BytesString
import Derived.Laws.IdiomStrings
import Derived.Laws.Externs
import Derived.WalkKit
import Derived.ProofKit
import Derived.OpenShut
import Derived.JoinedCond
import Derived.Deep.DeepHandedRow
import Derived.Test.YtploppegiebboaaGreatDoorFlowApartCore1
set_option linter.all false
open Go renaming World→lQ,Value→lR,TypeId→lS,execOp→lT,Program→lU,Operand→lV,Oper→lW,IntKind→lY,Act→lZ,setRow_other→l5,run_loadCells_list→l6
open Go.Result renaming andThen_ok→aD
open List renaming getElem?_eq_some_iff→aE,all_eq_true→aH,map_cons→aI,getElem?_map→aK,length_take→aL,mem_map→aM,length_map→aN,length_nil→aP,replicate→aQ,mem_append→aS,append_assoc→aU,getElem?_cons_zero→aX,length_append→ae,getElem?_take→aj,eq_nil_of_length_eq_zero→ar,map_nil→au,map_congr_left→bK,getElem?_drop→bO,map_toArray→bT,size_toArray→bW,length_drop→bg,append_nil→bh,getElem_mem→b9,mem_range→cB,take_append_drop→cE,map_map→cG,getElem?_append→cJ,range→cO,any_eq_true→cU,range'→cV,getElem?_toArray→cW,ext_getElem?→cw,getElem?_eq_none→dR,take_length→dZ,length_pos_iff→fV,map_take→fW,eq_nil_iff_forall_not_mem→gQ,getElem?_range→jz,map_eq_nil_iff→j7
open Nat renaming beq→aF,blt→aO,mul_le_mul_right→aT,ble→aY,lt_succ_self→ab,ble_eq_true_of_le→ai,zero_add→aw,lt_or_ge→ay,add_mul→bD,le_add_right→bR,le_trans→bV,lt_irrefl→bj,add_zero→bu,le_succ→cD,min_eq_left→cS,not_lt→cv,zero_mul→eN,zero_le→eP,mul_one→fh,ne_of_lt→gw,testBit→kW
open Go.Sem renaming run_bind→aG,run_pure→aJ
open Option.some renaming injEq→aR
open Array renaming getElem?_eq_some_iff→aW,length_toList→aq,toList_map→dY,ext'→eC,range→fg,size_append→fw,getElem?_push→gv
open ByteArray renaming empty→ao
open Option renaming isSome_iff_exists→bC,map_some→bb,map_none→ez,toList_some→kK
open Go.IntKind renaming i64→bG,signed→eV,bits→fS,wrap→fx
open List.cons renaming injEq→bH
open Go.Builtin renaming firstCells→bQ,zeroCells→bZ,append_→di,lenOf→eA,copy_→gW
open Bool renaming or_eq_true→b7,false_eq_true→cM,and_eq_false_iff→eH,not_eq_true'→fF
open Go.Instr renaming sureAddr→cx,storeAt→dz,sliceBounds→eO,loadAt→ej,sliceAt→fC,sliceBound→gP
open Go.Value renaming int→dP,bool→eh
open Go.Op renaming equal→dp,equalIn→eQ,intBits→kJ
open Go.Region renaming binds→du,ready→jV
open BitVec renaming ofInt→ep
open Go.Deferred renaming ofValue→fR
open Go.Extern.BytealgCount renaming count→fU
open Go.DataW renaming TrodAll→fX,trod→iK
open Go.Extern.BytealgIndexByte renaming indexByte→fq
open Iff renaming rfl→fv
open Go.Extern renaming findNext→gd,find→ju
open Go.World renaming cells?→jX
open Go.Extern.Bytes renaming bytesOf→jv,asByte→kA
section
namespace Go.Kx
variable [kv]
variable {α:Type}
def kl(R:k6 α)(F:YJ)(w:lQ)(xs:List α)(ns:List lR):Prop:=
 ns.length=xs.length*R.sz/\∀(i:Nat) (x:α),xs[i]?=some x->∃vs,R.rep F w x vs/\∀(j:Nat) (v:lR),vs[j]?=some v->ns[i*R.sz+j]?=some v
def Rd(P:lU)(R:k6 α)(F:YJ)(w:lQ)(xs:List α)(v:lR):Prop:=
 ∃b c ns,v=.slice b xs.length c/\kl R F w xs ns/\(∀m w',m<=xs.length->w'.heap=w.heap->(bQ R.sz m v).run P w'=.ok (ns.take (m*R.sz)).toArray w')/\∀u∈ns,u.oneCell'=true
variable {arr:Array lR}{off:Nat}{xs:List α}
theorem Row.cellsOf{R:k6 α}{F w}(h:Row R F w xs arr off) :
  ∃k:List lR,kl R F w xs k/\(∀(j:Nat) v,k[j]?=some v->arr[off+j]?=some v)/\∀u∈k,u.oneCell'=true:=by
 induction xs generalizing off with
 |nil=>exact⟨[],⟨by simp,by simp⟩,by simp,by simp⟩
 |cons x xs K=>
  obtain⟨z,m,A⟩:=h 0 x rfl;have l:=R.len m;obtain⟨k,⟨C,D⟩,G,I⟩:=K (off:=off+R.sz) (fun i y g=>by have⟨q,d,f⟩:=h (i+1) y (by simpa using g);refine⟨q,d,fun j v c=>?_⟩;have:=f j v c;rw[show off+R.sz+i*R.sz+j=off+(i+1)*R.sz+j by rw[bD];omega];exact this)
  refine⟨z++k,⟨by rw[ae,l,C,Zf,bD];omega,fun i y g=>?_⟩,fun j v c=>?_,fun u d=>?_⟩
  ·cases i with
   |zero=>
    simp only[aX,aR]at g;subst g;refine⟨z,m,fun j v c=>?_⟩;rw[eN,aw,Zo (aE.1 c).1];exact c
   |succ i=>
    have⟨q,d,f⟩:=D i y (by simpa using g);refine⟨q,d,fun j v c=>?_⟩;have:=f j v c;rw[Zp (by rw[l,bD];omega),l,show (i+1)*R.sz+j-R.sz=i*R.sz+j by rw[bD];omega];exact this
  ·rw[cJ]at c;split at c
   ·have:=A j v c;rw[eN,bu]at this;exact this
   ·rename_i r;have:=G _ v c;rw[l]at this r;rw[show off+R.sz+(j-R.sz)=off+j by omega]at this;exact this
  ·rcases aS.1 d with d|d
   ·exact R.one m u d
   ·exact I u d
variable {P:lU}{ty:lS}
theorem Rd.of_row{R:k6 α}{F w}{b cap:Nat}{fz:Nat×Nat}(g:w.heap[b]?=some (.cells arr ty fz))(h:Row R F w xs arr off) :
  Rd P R F w xs (.slice (some ⟨b,off,none⟩) xs.length cap):=by
 have⟨d,f,q,r⟩:=h.cellsOf;refine⟨_,_,d,rfl,f,fun m w' k l=>?_,r⟩;simp only[bQ];have u:(d.take (m*R.sz)).length=m*R.sz:=by rw[aL,f.1];exact cS (aT _ k)
 have:=l6 (P:=P) w' ⟨b,off,none⟩ (d.take (m*R.sz)) fun j v c=>by
  rw[Ww,RI (by rw[l];exact g)];rw[aj]at c;split at c
  ·exact q j v c
  ·cases c
 rw[u]at this;exact this
theorem Rd.of_nil{R:k6 α}{F w}:Rd P R F w ([]:List α) (.slice none 0 0):=
 ⟨_,_,[],rfl,⟨by simp,by simp⟩,fun m w' _ _=>by simp[bQ],by simp⟩
variable {v:lR}
theorem Rd.of_sl{R:k6 α}{F w}(h:SlR R F w xs v):Rd P R F w xs v:=by
 rcases h with⟨rfl,a,c,rfl⟩|⟨b,off,cap,arr,ty,fz,rfl,_,_,f,g⟩
 ·refine⟨a,c,[],rfl,⟨by simp,by simp⟩,fun m w' d _=>?_,by simp⟩;have:m=0:=by simpa using d
  subst this;cases a with
  |none=>simp[bQ]
  |some a=>
   simp only[bQ,eN,List.take_zero];exact l6 w' a [] (by simp)
 ·exact .of_row f g
theorem Rd.of_own{R:k6 α}{F w}(h:kh R F w xs v):Rd P R F w xs v:=by
 rcases h with⟨rfl,rfl⟩|⟨b,off,cap,arr,ty,fz,rfl,_,_,_,c,d⟩
 ·exact .of_nil
 ·exact .of_row c d
def LG(P:lU)(R:k6 α)(F:YJ)(w:lQ)(xs:List α)(v:lR):Prop:=
 ∃ns,kl R F w xs ns/\(∀w',(eA v).run P w'=.ok xs.length w')/\(∀m w',m<=xs.length->w'.heap=w.heap->(bQ R.sz m v).run P w'=.ok (ns.take (m*R.sz)).toArray w')/\∀u∈ns,u.oneCell'=true
theorem Rd.src{R:k6 α}{F w}(h:Rd P R F w xs v):LG P R F w xs v:=by obtain⟨b,c,d,rfl,f,g,j⟩:=h;exact⟨d,f,fun w'=>by simp[eA],g,j⟩
variable {ys:List α}
theorem kl.append{R:k6 α}{F w}{m q:List lR}(d:kl R F w xs m)(r:kl R F w ys q):kl R F w (xs++ys) (m++q):=by
 refine⟨by rw[ae,ae,d.1,r.1,bD],fun i x f=>?_⟩;rw[cJ]at f;split at f
 ·rename_i u;have⟨h,k,l⟩:=d.2 i x f;refine⟨h,k,fun j v g=>?_⟩;have:=l j v g;rw[Zo (aE.1 this).1];exact this
 ·rename_i c;have⟨h,k,l⟩:=r.2 _ x f;refine⟨h,k,fun j v g=>?_⟩;have:=l j v g;have c:=cv.1 c;have y:xs.length*R.sz<=i*R.sz:=aT _ c;rw[Zp (by rw[d.1];omega),d.1];rw[Nat.sub_mul]at this;rw[show i*R.sz+j-xs.length*R.sz=i*R.sz-xs.length*R.sz+j by omega];exact this
theorem kl.row{R:k6 α}{F w}{c:List lR}(h:kl R F w xs c)(d:∀(j:Nat) v,c[j]?=some v->arr[off+j]?=some v):Row R F w xs arr off:=
 fun i x f=>let ⟨vs,hr,hv⟩:=h.2 i x f;⟨vs,hr,fun j v g=>by rw[Nat.add_assoc];exact d _ v (hv j v g)⟩
theorem kl.mono{R:k6 α}{F w F' w'}{c:List lR}(g:X3 F w F' w')(h:kl R F w xs c):kl R F' w' xs c:=
 ⟨h.1,fun i x d=>let ⟨vs,hr,hv⟩:=h.2 i x d;⟨vs,R.mono g hr,hv⟩⟩
def lim:Nat:=4294967296
def Y8(xs ys:List α):Option (List α):=bif aY (xs.length+ys.length) lim then some (xs++ys) else none
theorem Zh2{zs:List α}(h:Y8 xs ys=some zs):zs=xs++ys/\xs.length+ys.length<=lim:=by
 unfold Y8 at h;cases c:aY (xs.length+ys.length) lim with
 |false=>rw[c]at h;cases h
 |true=>rw[c]at h;cases h;exact⟨rfl,Ze c⟩
theorem Zgx(n:Nat):TZ (0,0) n:=fun j _=>by simp
def OwnQ(Q:Nat->lS->Prop)(R:k6 α)(F:YJ)(w:lQ)(xs:List α)(v:lR):Prop:=
 (xs=[]/\v=.slice none 0 0)\/∃(b off cap:Nat) (arr:Array lR) (el:lS) (fz:Nat×Nat),Q off el/\v=.slice (some ⟨b,off,none⟩) xs.length cap/\xs.length<=cap /\
  off+cap*R.sz<=arr.size/\TZ fz arr.size/\w.heap[b]?=some (.cells arr el fz)/\Row R F w xs arr off
variable {F:YJ}{w:lQ}
theorem OwnQ.own{Q:Nat->lS->Prop}{R:k6 α}(h:OwnQ Q R F w xs v):kh R F w xs v:=by
 rcases h with h|⟨b,off,cap,arr,el,fz,_,h⟩
 ·exact .inl h
 ·exact .inr ⟨b,off,cap,arr,el,fz,h⟩
theorem kh.q{R:k6 α}(h:kh R F w xs v):OwnQ (fun _ _=>True) R F w xs v:=by
 rcases h with h|⟨b,off,cap,arr,el,fz,h⟩
 ·exact .inl h
 ·exact .inr ⟨b,off,cap,arr,el,fz,trivial,h⟩
theorem ZlN(Q:Nat->lS->Prop){t t2:lS}{y:TD}(hQ:Q 0 y.el)(d:P.underlying t2=some .string\/∃e2,P.underlying t2=some (.slice e2))(ok:TD.Ok P t y)(hk:aF y.kd 6=true){R:k6 α}(hR:y.es=R.sz){Z:lR}
  (ho:OwnQ Q R F w xs v) (hs:LG P R F w ys Z) (hF:∀b,YV v=some b->¬ F b) (hFs:∀b,F b->b<w.heap.size) (hbs:∀b,YV v=some b->b<w.heap.size)
  (L:xs.length+ys.length<=lim) (heb:y.eb<=32768) :
  ∃Y w',(di #[t,t2] ty #[v,Z]).run P w=.ok Y w'/\OwnQ Q R F w' (xs++ys) Y/\w'.os=w.os/\w'.tape=w.tape/\Oq w w'/\w.heap.size<=w'.heap.size /\
   (∀b,b<w.heap.size->YV v≠some b->w'.heap[b]?=w.heap[b]?)/\(∀b,YV Y=some b->(YV v=some b\/w.heap.size<=b)/\b<w'.heap.size):=by
 have⟨i,hu,hi,hsz,hby,hne,z,hz,hzs⟩:=ok.slc hk;have⟨r,f,C,hfc0,hone⟩:=hs;have T:∀w',w'.heap=w.heap->(bQ R.sz ys.length Z).run P w'=.ok r.toArray w':=fun w' hw=>by
  have:=hfc0 ys.length w' (Zq _) hw
  rwa [<-f.1,dZ]at this
 have D:i.size=R.sz:=hsz.trans hR;have g:∀w',(sizeOf y.el).run P w'=.ok R.sz w':=fun w'=>by simp[sizeOf,typeInfo,hi,D]
 unfold lim at L;have q:(xs.length+ys.length)*y.eb<=140737488355328:=bV (Nat.mul_le_mul L heb) (by decide);have h63:¬ ((9223372036854775807:Int)<((xs.length+ys.length:Nat):Int)):=by omega
 -- the parts of a slice that has not room enough
 have N:∀(base:Option Addr) (cap:Nat) (x:List lR),v=.slice base xs.length cap->kl R F w xs x->(∀w',w'.heap=w.heap->(bQ R.sz xs.length v).run P w'=.ok x.toArray w')->cap<xs.length+ys.length ->
   ∃Y w',(di #[t,t2] ty #[v,Z]).run P w=.ok Y w'/\OwnQ Q R F w' (xs++ys) Y/\w'.os=w.os/\w'.tape=w.tape/\Oq w w'/\w.heap.size<=w'.heap.size /\
   (∀b,b<w.heap.size->YV v≠some b->w'.heap[b]?=w.heap[b]?)/\(∀b,YV Y=some b->(YV v=some b\/w.heap.size<=b)/\b<w'.heap.size):=by
  intro base cap x hv k hfo M;subst hv
  let K:=(Question.appendCap (xs.length+ys.length) cap y.el).cut (w.tape w.drawn (.appendCap (xs.length+ys.length) cap y.el))
  have hnc:xs.length+ys.length<=K:=bR _ _
  let arr:Array lR:=x.toArray++r.toArray++bZ z.cells (K-(xs.length+ys.length))
  let w':lQ:=w.drew.alloc (.cells arr y.el)
  have U:¬ (xs.length+ys.length<=cap):=by omega
  have hfit:¬ (281474976710656<Builtin.nextslicecap (xs.length+ys.length) cap*i.bytes):=by have:=growslice_fits M (by rw[<-hby]at q;exact q);omega
  have h1:=hfo w.drew rfl;have h2:=T w.drew rfl;have G:(di #[t,t2] ty #[.slice base xs.length cap,Z]).run P w=.ok (.slice (some ⟨w.heap.size,0,none⟩) (xs.length+ys.length) K) w':=by
   have h63':¬ (9223372036854775807<((xs.length:Int)+(ys.length:Int))):=by omega
   rcases d with d|⟨_,d⟩<;>simp[di,Xl hu,Xl d,g,typeInfo,zeroValue,hi,hz,C,U,h63',hfit,Question.forced,h1,h2,newRow] <;>
   simp[w',arr,K,Array.append_assoc]
  have harr:∀(j:Nat) u,(x++r)[j]?=some u->arr[0+j]?=some u:=fun j u A=>by have I:j<(x++r).length:=(aE.1 A).1;rw[aw];show (x.toArray++r.toArray++_:Array lR)[j]?=some u;rw[Array.getElem?_append_left (by simpa using I)];simpa using A
  have hg:X3 F w F w':=⟨fun _ h=>h,fun b O=>by show (w.heap.push _)[b]?=w.heap[b]?;rw[gv];rw[mE (gw (hFs b O))]⟩
  refine⟨_,w',G,.inr ⟨w.heap.size,0,K,arr,y.el,(0,0),hQ,by rw[ae],by rw[ae];exact hnc,?_,Zgx _,heap_alloc_new w.drew _,((k.append f).mono hg).row harr⟩,rfl,rfl,.m,by simp[w'],?_,?_⟩
  ·show 0+K*R.sz<=(x.toArray++r.toArray++bZ z.cells (K-(xs.length+ys.length))).size;have hzc:(bZ z.cells (K-(xs.length+ys.length))).size=(K-(xs.length+ys.length))*R.sz:=by simp[bZ,hzs,D]
   rw[fw,fw,hzc,bW,bW,k.1,f.1,<-bD,<-bD,aw];exact aT _ (by omega)
  ·intro b O _;show (w.heap.push _)[b]?=w.heap[b]?;rw[gv];rw[mE (gw O)]
  ·intro b O;cases O;exact⟨.inr (Zq _),by simp[w']⟩
 rcases ho with⟨rfl,rfl⟩|⟨b,off,cap,arr,el,fz,hq,rfl,M,hsza,hth,hh,hr⟩
 ·by_cases h0:ys.length=0
  ·have hy:ys=[]:=ar h0;subst hy;have hn0:r=[]:=ar (by simpa using f.1);subst hn0;refine⟨.slice none 0 0,w,?_,.inl ⟨rfl,rfl⟩,rfl,rfl,.m,Zq _,fun _ _ _=>rfl,fun b O=>by cases O⟩;have:=T w rfl;simp only[aP]at this;rcases d with d|⟨_,d⟩<;>simp[di,Xl hu,Xl d,g,C,this]
  ·exact N none 0 [] rfl ⟨by simp,by simp⟩ (fun w' _=>by simp[bQ]) (by simp only[aP];omega)
 ·have⟨x,k,hmc,_⟩:=hr.cellsOf;by_cases l:xs.length+ys.length<=cap
  ·have hmul:(xs.length+ys.length)*R.sz<=cap*R.sz:=aT _ l;rw[bD]at hmul;have V:=f.1;have hst:=Qb (P:=P) b (off+xs.length*R.sz) el fz r 0 arr w hh hth (by rw[V];omega) hone;have hbt:b<w.heap.size:=hbs b rfl
   let c:=(arr.toList.take (off+xs.length*R.sz+0)++r++arr.toList.drop (off+xs.length*R.sz+0+r.length)).toArray
   have G:(di #[t,t2] ty #[.slice (some ⟨b,off,none⟩) xs.length cap,Z]).run P w=.ok (.slice (some ⟨b,off,none⟩) (xs.length+ys.length) cap) (w.setRow b c):=by
    have h2:=T w rfl;rcases d with d|⟨_,d⟩<;>simp[di,Xl hu,Xl d,g,C,l,h2,Ww] <;>
    (rw[hst];rfl)
   have hold:∀(j:Nat) u,(x++r)[j]?=some u->c[off+j]?=some u:=by
    intro j u A;show ((arr.toList.take (off+xs.length*R.sz+0)++r++arr.toList.drop (off+xs.length*R.sz+0+r.length)).toArray)[off+j]?=some u;simp only[bu,cW,aU];have W:(arr.toList.take (off+xs.length*R.sz)).length=off+xs.length*R.sz:=by have hal:arr.toList.length=arr.size:=aq;rw[aL,hal];omega
    rw[cJ]at A;split at A
    ·rename_i I;rw[k.1]at I;have hj':j<xs.length*R.sz:=I;rw[Zo (by rw[W];omega),aj,mD (by omega)];have:=hmc j u A;simpa using this
    ·rename_i hge;rw[k.1]at hge A;rw[Zp (by rw[W];omega),W,Zo (by have:=(aE.1 A).1;omega),
      show off+j-(off+xs.length*R.sz)=j-xs.length*R.sz by omega]
     exact A
   have hg:X3 F w F (w.setRow b c):=⟨fun _ h=>h,fun b' S=>l5 w b b' _ (fun e=>hF b rfl (e▸S))⟩
   refine⟨_,w.setRow b c,G,.inr ⟨b,off,cap,c,el,fz,hq,by rw[ae],by rw[ae];exact l,?_,?_,setRow_heap w b arr _ el fz hh,((k.append f).mono hg).row hold⟩,rfl,rfl,.m,by simp,?_,?_⟩
   ·have:c.size=arr.size:=by simp only[c,bW,ae,aL,bg,aq,V];omega
    rw[this];exact hsza
   ·have:c.size=arr.size:=by simp only[c,bW,ae,aL,bg,aq,V];omega
    rw[this];exact hth
   ·intro b' _ hne;exact l5 w b b' _ (fun e=>hne (by rw[e];rfl))
   ·intro b' S;cases S;exact⟨.inl rfl,by simpa using hbt⟩
  ·exact N (some ⟨b,off,none⟩) cap x rfl k (fun w' hw=>by simp only[bQ];rw[<-k.1];exact l6 w' _ x fun j u A=>by rw[Ww,RI (by rw[hw];exact hh)];exact hmc j u A) (by omega)
theorem ZlM{t t2:lS}{f:TD}(g:P.underlying t2=some .string\/∃C,P.underlying t2=some (.slice C))(ok:TD.Ok P t f)(m:aF f.kd 6=true){R:k6 α}(r:f.es=R.sz){l:lR}
  (u:kh R F w xs v) (x:LG P R F w ys l) (hF:∀b,YV v=some b->¬ F b) (h:∀b,F b->b<w.heap.size) (j:∀b,YV v=some b->b<w.heap.size)
  (c:xs.length+ys.length<=lim) (k:f.eb<=32768) :
  ∃d w',(di #[t,t2] ty #[v,l]).run P w=.ok d w'/\kh R F w' (xs++ys) d/\w'.os=w.os/\w'.tape=w.tape/\Oq w w'/\w.heap.size<=w'.heap.size /\
   (∀b,b<w.heap.size->YV v≠some b->w'.heap[b]?=w.heap[b]?)/\(∀b,YV d=some b->(YV v=some b\/w.heap.size<=b)/\b<w'.heap.size):=by have⟨d,w',y,z,A⟩:=ZlN (fun _ _=>True) (ty:=ty) trivial g ok m r u.q x hF h j c k;exact⟨d,w',y,z.own,A⟩
end Go.Kx
end
section
namespace Go.Kx
variable [kv]
section
variable {X:lB}{s:St}{E:lC}{F:YJ}{w:lQ}{a:lZ}
theorem ky.addM'{m:MO}(c:ky X s E F w a)(A:m.ok E F w s.nx)(C:m.kb (s.nx+1))
  (d:∀b,m.fp E s.nx b->¬ F b/\¬ X.Z b/\b<w.heap.size/\∀k m',Yg s.M k=some m'->¬ m'.fp E k b) (q:m.isFresh=true->∀b,m.fp E s.nx b->X.n0<=b) :
  ky X ⟨s.L,(s.nx,m)::s.M,s.V,s.nx+1⟩ E F w a where
 wf:=⟨(c.wf.grow (cD _)).hL,fun k m' h=>by
   rw[YF]at h;split at h
   ·rename_i e;cases h;subst e;exact⟨ab _,C⟩
   ·exact (c.wf.grow (cD _)).hM k m' h,(c.wf.grow (cD _)).hV⟩
 nk:=Nat.le_succ_of_le c.nk
 defers:=c.defers
 size:=c.size
 hL:=c.hL
 hV:=c.hV
 hM:=fun k m' h=>by
  rw[YF]at h;split at h
  ·rename_i e;cases h;subst e;exact A
  ·exact c.hM k m' h
 dis:=fun k v x y j g l b f=>by
  rw[YF]at j g;split at j
  ·rename_i D;cases j;subst D;split at g
   ·rename_i u;exact absurd u l
   ·exact (d b f).2.2.2 v y g
  ·split at g
   ·rename_i u;cases g;subst u;exact fun r=>(d b r).2.2.2 k x j f
   ·exact c.dis k v x y j g l b f
 mF:=fun k m' h b f=>by
  rw[YF]at h;split at h
  ·rename_i e;cases h;subst e;exact⟨(d b f).1,(d b f).2.1,(d b f).2.2.1⟩
  ·exact c.mF k m' h b f
 fresh:=fun k m' h z b f=>by
  rw[YF]at h;split at h
  ·rename_i e;cases h;subst e;exact q z b f
  ·exact c.fresh k m' h z b f
 hF:=c.hF
 hF0:=c.hF0
 hF1:=c.hF1
 hn0:=c.hn0
 hZ:=c.hZ
 ext:=c.ext
 link:=c.link
 one:=c.one
variable {α:Type}{xs:List α}
theorem ky.freeze{R:k6 α}{k:Nat}(c:ky X s E F w a)(q:Yg s.M k=some (.own R xs true)) :
  ky X ⟨s.L,(k,.gone)::s.M,(k,.sl R xs)::s.V,s.nx⟩ E (fun b=>F b\/YV (E.ρ k)=some b) w a:=by
 have A:=c.wf.hM k _ q;have x:X3 F w (fun b=>F b\/YV (E.ρ k)=some b) w:=⟨fun _ h=>.inl h,fun _ _=>rfl⟩
 have y:=c.mF k _ q;exact {
  wf:=⟨c.wf.hL,fun j m h=>by
   rw[YF]at h;split at h
   ·rename_i e;cases h;subst e;exact⟨A.1,trivial⟩
   ·exact c.wf.hM j m h,fun j f h=>by
   rw[YF]at h;split at h
   ·rename_i e;cases h;subst e;exact⟨A.1,trivial⟩
   ·exact c.wf.hV j f h⟩
  nk:=c.nk
  defers:=c.defers
  size:=c.size
  hL:=c.hL
  hV:=fun j f h=>by
   rw[YF]at h;split at h
   ·rename_i e;cases h;subst e;have r:=c.hM k _ q;simp only[MO.ok]at r;rcases r with r|⟨b,off,cap,arr,ty,fz,z,D,_,_,G,I⟩
    ·exact .inl ⟨r.1,_,_,r.2⟩
    ·exact .inr ⟨b,off,cap,arr,ty,fz,z,D,.inr (by rw[z];rfl),G,I.mono x⟩
   ·exact (c.hV j f h).mono x
  hM:=fun j m h=>by
   rw[YF]at h;split at h
   ·cases h;trivial
   ·exact (c.hM j m h).mono x fun _ _=>rfl
  dis:=fun j C m m' h u g b d=>by
   rw[YF]at h u;split at h
   ·cases h;exact d.elim
   ·split at u
    ·cases u;exact fun l=>l.elim
    ·exact c.dis j C m m' h u g b d
  mF:=fun j m h b d=>by
   rw[YF]at h;split at h
   ·cases h;exact d.elim
   ·rename_i g;have:=c.mF j m h b d;refine⟨?_,this.2⟩;rintro (hF|l)
    ·exact this.1 hF
    ·exact c.dis k j _ m q h g b l d
  fresh:=fun j m h v b d=>by
   rw[YF]at h;split at h
   ·cases h;exact d.elim
   ·exact c.fresh j m h v b d
  hF:=fun b d=>by
   rcases d with d|d
   ·exact c.hF b d
   ·exact (y b d).2.2
  hF0:=fun b d=>.inl (c.hF0 b d)
  hF1:=fun b d=>by
   rcases d with d|d
   ·exact c.hF1 b d
   ·exact .inr ⟨c.fresh k _ q rfl b d,(c.mF k _ q b d).2.1⟩
  hn0:=c.hn0
  hZ:=c.hZ
  ext:=c.ext
  link:=c.link
  one:=c.one }
theorem ZhL{R:k6 α}{F w}{v:lR}(h:kh R F w xs v):v.oneCell'=true:=by rcases h with⟨_,rfl⟩|⟨_,_,_,_,_,_,rfl,_⟩<;>rfl
theorem ky.newOwn{R:k6 α}{v:lR}{fr:Bool}(f:ky X s E F w a)(m:kh R F w xs v)
  (g:∀b,YV v=some b->¬ F b/\¬ X.Z b/\b<w.heap.size/\∀k m',Yg s.M k=some m'->¬ m'.fp E k b) (h:fr=true->∀b,YV v=some b->X.n0<=b) :
  ∃E',E'.ρ s.nx=v/\ky X ⟨s.L,(s.nx,.own R xs fr)::s.M,s.V,s.nx+1⟩ E' F w a:=by
 have r:E.Eqb s.nx (E.setρ s.nx v):=E.eqb_setρ _ _ _ (Zq _);have d:(E.setρ s.nx v).ρ s.nx=v:=by simp[lC.setρ]
 have A:=f.env r (fun j=>by
  simp only[lC.setρ];split
  ·exact ZhL m
  ·exact f.one j)
 refine⟨_,d,A.addM' ?_ trivial ?_ ?_⟩
 ·show kh R F w xs ((E.setρ s.nx v).ρ s.nx);rw[d];exact m
 ·intro b c;have c:YV ((E.setρ s.nx v).ρ s.nx)=some b:=c;rw[d]at c;have⟨u,x,y,z⟩:=g b c;exact⟨u,x,y,fun k m' q l=>z k m' q ((MO.fp_eqb r (f.wf.hM k m' q).1).1 l)⟩
 ·intro l b c;have c:YV ((E.setρ s.nx v).ρ s.nx)=some b:=c;rw[d]at c;exact h l b c
end
section
variable {X:lB}{s:St}{tt:List (Nat×TD)}{ops:Array lW}{lL:lZ->lQ->Prop}
variable {α:Type}
def Ur(X:lB)(s:St)(R:k6 α)(ys:List α)(c:SC):Prop:=∀E F w a,ky X s E F w a->LG X.P R F w ys (Yn E c)
theorem Zuy{R:k6 α}:Ur X s R ([]:List α) .nil:=fun _ _ _ _ _=>Rd.of_nil.src
variable {k:Nat}{ys:List α}
theorem Zux{R:k6 α}(h:Yg s.V k=some (.sl R ys)):Ur X s R ys (.sl k):=fun _ _ _ _ c=>(Rd.of_sl (c.hV k _ h)).src
theorem Zmi{R:k6 α}{fr:Bool}(h:Yg s.M k=some (.own R ys fr)):Ur X s R ys (.sl k):=fun _ _ _ _ c=>(Rd.of_own (c.hM k _ h)).src
variable {t:lS}
theorem ZfA{P:lU}{d:TD}(h:TD.Ok P t d)(c:(aF d.kd 6 || aF d.kd 2)=true):P.underlying t=some .string\/∃e,P.underlying t=some (.slice e):=by
 rw[b7]at c;rcases c with c|c
 ·have⟨e,f,_⟩:=h.sliceOf c;exact .inr ⟨e,f⟩
 ·exact .inl (h.str c)
theorem kg.app{R:k6 α}(lO:kf X.P tt){i:Nat}{lK:List Nat}{o:lW}{t2:lS}{I q:TD}{x y:lV}{d:Nat}{fr:Bool}{A:SC}{xs zs:List α}
  (N:Y8 xs ys=some zs) (C:Ur X s R ys A) (K:ops[i]?=some o) (hg:Y3 ops s.L o=some true) (O:o.op=.call { callee:=.builtin .append,args:=#[x,y],argTypes:=#[t,t2] }) (hd:o.dst=some d)
  (hx:Yr s.L x=some (.c (.sl k))) (D:Yg s.M k=some (.own R xs fr)) (hy:Yr s.L y=some (.c A)) (ht:Yg tt t=some I) (S:Yg tt t2=some q)
  (Z:(aO d X.fn.ntmps && aF I.kd 6 && (aF q.kd 6 || aF q.kd 2) && aF I.es R.sz && aY I.eb 32768)=true)
  (kk:kg X ops lK lL ⟨(d,.c (.sl s.nx))::s.L,(s.nx,.own R zs fr)::(k,.gone)::s.M,s.V,s.nx+1⟩):kg X ops (i::lK) lL s:=by
 refine kg.op K hg (fun E F w a f=>?_) kk;simp only[Zc]at Z;obtain⟨⟨⟨⟨c1,c2⟩,T⟩,c3⟩,c4⟩:=Z;obtain⟨rfl,hl⟩:=Zh2 N;have⟨e1,_⟩:=f.eval hx;have⟨e2,_⟩:=f.eval hy;have K:=f.hM k _ D;simp only[MO.ok]at K;have z:=f.mF k _ D;have W:=ZfA (lO.get S) T;have⟨v',w',G,U,g1,g2,g3,g4,g5,g6⟩:=ZlM (ty:=o.type) W (lO.get ht) c2 (Zd c3) K (C E F w a f) (fun b l=>(z b l).1) f.hF (fun b l=>(z b l).2.2) hl (Ze c4);refine XD (v:=v') (w':=w') (Vu O ?_) ?_
 ·simp only[bT,aI,au,e1,e2,Yt,Yn];exact Xe G
 ·have s1:=f.setM (m':=.gone) D g1 g2 g3 g4 (fun b l r=>g5 b l (fun e=>r e)) (fun _ h=>h.elim) trivial trivial (fun h=>by cases h);have⟨E',hv,s2⟩:=s1.newOwn (fr:=fr) U (fun b l=>by
    have⟨g,h2⟩:=g6 b l;rcases g with g|g
    ·have:=z b g;refine⟨this.1,this.2.1,h2,fun j m' m u=>?_⟩;simp only[YF]at m;split at m
     ·cases m;exact u.elim
     ·rename_i r;exact f.dis k j _ m' D m r b g u
    ·refine⟨fun hF=>absurd (f.hF b hF) (cv.2 g),fun N=>absurd (Zh (f.hZ b N) f.ext.size) (cv.2 g),h2,fun j m' m u=>?_⟩;simp only[YF]at m;split at m
     ·cases m;exact u.elim
     ·exact absurd (f.mF j m' m b u).2.2 (cv.2 g))
   (fun u b l=>by
    rcases (g6 b l).1 with g|g
    ·exact f.fresh k _ D u b g
    ·exact bV f.hn0 (bV f.ext.size g))
  have Y:=s2.setL (d:=d) (v:=.c (.sl s.nx)) (ab _) (Y9 c1);simp only[Yt,Yn]at Y;rw[show E'.ρ s.nx=v' from hv]at Y;rw[hd];exact⟨E',F,Y⟩
theorem kg.appN(R:k6 α)(lO:kf X.P tt){i:Nat}{lK:List Nat}{o:lW}{t2:lS}{r k:TD}{x y:lV}{d:Nat}{l:SC}{zs:List α}
  (u:Y8 [] ys=some zs) (m:Ur X s R ys l) (S:ops[i]?=some o) (T:Y3 ops s.L o=some true) (z:o.op=.call { callee:=.builtin .append,args:=#[x,y],argTypes:=#[t,t2] }) (U:o.dst=some d)
  (W:Yr s.L x=some (.c .nil)) (Y:Yr s.L y=some (.c l)) (Z:Yg tt t=some r) (A:Yg tt t2=some k)
  (K:(aO d X.fn.ntmps && aF r.kd 6 && (aF k.kd 6 || aF k.kd 2) && aF r.es R.sz && aY r.eb 32768)=true)
  (kk:kg X ops lK lL ⟨(d,.c (.sl s.nx))::s.L,(s.nx,.own R zs true)::s.M,s.V,s.nx+1⟩):kg X ops (i::lK) lL s:=by
 refine kg.op S T (fun E F w a f=>?_) kk;simp only[Zc]at K;obtain⟨⟨⟨⟨c1,c2⟩,C⟩,c3⟩,c4⟩:=K;obtain⟨rfl,hl⟩:=Zh2 u;have⟨e1,_⟩:=f.eval W;have⟨e2,_⟩:=f.eval Y;have G:=ZfA (lO.get A) C;have⟨N,w',q,D,g1,g2,g3,g4,g5,O⟩:=ZlM (ty:=o.type) G (lO.get Z) c2 (Zd c3) (R:=R) (F:=F) (xs:=[]) (v:=.slice none 0 0) (.inl ⟨rfl,rfl⟩) (m E F w a f) (fun b h=>by cases h) f.hF (fun b h=>by cases h) hl (Ze c4);refine XD (v:=N) (w':=w') (Vu z ?_) ?_
 ·simp only[bT,aI,au,e1,e2,Yt,Yn];exact Xe q
 ·have s1:=f.world g1 g2 g3 g4 (fun b h=>g5 b h (fun e=>by cases e));have⟨E',hv,s2⟩:=s1.newOwn (fr:=true) D (fun b h=>by
    have⟨g,h2⟩:=O b h;rcases g with g|g
    ·cases g
    ·exact⟨fun hF=>absurd (f.hF b hF) (cv.2 g),fun u=>absurd (Zh (f.hZ b u) f.ext.size) (cv.2 g),h2,fun j m' hj hf=>absurd (f.mF j m' hj b hf).2.2 (cv.2 g)⟩)
   (fun _ b h=>by
    rcases (O b h).1 with g|g
    ·cases g
    ·exact bV f.hn0 (bV f.ext.size g))
  have I:=s2.setL (d:=d) (v:=.c (.sl s.nx)) (ab _) (Y9 c1);simp only[Yt,Yn]at I;rw[show E'.ρ s.nx=N from hv]at I;rw[U];exact⟨E',F,I⟩
end
end Go.Kx
end
namespace Go.Kx
section
variable [kv]
variable {α:Type}
def QO{R:k6 α}(O:ki R)(V:Nat->Option VF):List α->List SC->Prop
 | [],cs=>cs=[]
 |x::xs,cs=>O.chk V x (cs.take R.sz)/\QO O V xs (cs.drop R.sz)
variable {w:lQ}
theorem LV{R:k6 α}(O:ki R){V:Nat->Option VF}{E:lC}{F:YJ}(hV:∀k f,V k=some f->f.ok E F w (E.ρ k)) :
  ∀ {xs:List α} {cs:List SC},QO O V xs cs->kl R F w xs (cs.map (Yn E))
 | [],cs,h=>by
  have h:cs=[]:=h;subst h;exact⟨by simp,by simp⟩
 |x::xs,cs,h=>by
  have⟨l,m⟩:=h;have d:=O.cok l E F w hV;have q:=LV O hV m;have r:((cs.take R.sz).map (Yn E)).length=R.sz:=R.len d;have:kl R F w [x] ((cs.take R.sz).map (Yn E)):=by
   refine⟨by rw[r];simp,fun i y c=>?_⟩;cases i with
   |zero=>
    simp only[aX,aR]at c;subst c;exact⟨_,d,fun j v g=>by simpa using g⟩
   |succ i=>simp at c
  have:=this.append q;rw[<-List.map_append,cE]at this;exact this
def Ve(z:List SC)(n:Nat):List SC:=(cO n).map fun i=>z.getD (i%z.length) .nil
section
variable {X:lB}{s:St}{tt:List (Nat×TD)}{ops:Array lW}{lL:lZ->lQ->Prop}
variable {d:Nat}{α:Type}{xs:List α}
theorem ky.newRow{R:k6 α}{E:lC}{F:YJ}{w:lQ}{a:lZ}(f:ky X s E F w a){arr:Array lR}{ty:lS}{cap:Nat}(x:∀w',X3 F w F w'->Row R F w' xs arr 0)(y:xs.length<=cap)
  (q:cap*R.sz<=arr.size) (z:d<X.fn.ntmps) {w2:lQ} (k:w2.heap=w.heap.push (.cells arr ty)) (A:w2.os=w.os) (C:w2.tape=w.tape) (D:Oq w w2) :
  ∃E' U,ky X ⟨(d,.c (.sl s.nx))::s.L,(s.nx,.own R xs true)::s.M,s.V,s.nx+1⟩ E' U w2 (a.put (some d) (.slice (some ⟨w.heap.size,0,none⟩) xs.length cap)):=by
 have g:∀b,b<w.heap.size->w2.heap[b]?=w.heap[b]?:= fun b l=>by rw[k,gv,mE (gw l)]
 have m:w2.heap[w.heap.size]?=some (.cells arr ty):=by rw[k];simp
 have r:w2.heap.size=w.heap.size+1:=by rw[k];simp
 have S:=f.world A C D (by omega) g;have T:X3 F w F w2:=⟨fun _ h=>h,fun b l=>g b (f.hF b l)⟩
 have⟨E',N,O⟩:=S.newOwn (R:=R) (xs:=xs) (v:=.slice (some ⟨w.heap.size,0,none⟩) xs.length cap) (fr:=true)
  (.inr ⟨w.heap.size,0,cap,arr,ty,(0,0),rfl,y,by rw[aw];exact q,Zgx _,m,x w2 T⟩)
  (fun b l=>by cases l;exact⟨fun hF=>absurd (f.hF _ hF) (bj _),fun G=>absurd (Zh (f.hZ _ G) f.ext.size) (bj _),(show w.heap.size<w2.heap.size by omega),fun j m' I K=>absurd (f.mF j m' I _ K).2.2 (bj _)⟩)
  (fun _ b l=>by cases l;exact bV f.hn0 f.ext.size)
 have u:=O.setL (d:=d) (v:=.c (.sl s.nx)) (ab _) z;simp only[Yt,Yn]at u;rw[show E'.ρ s.nx=_ from N]at u;exact⟨E',F,u⟩
theorem Zea{E:lC}{z:lR}{zs:List SC}(g:z.cells=(zs.map (Yn E)).toArray)(n:Nat)(j:n=0\/zs≠[]) :
  ((fg n).map (fun i=>z.cells[i%z.cells.size]!)).toList=(Ve zs n).map (Yn E):=by
 apply cw;intro i;simp only[Ve,dY,Array.toList_range,aK,cG];by_cases hi:i<n
 ·have d:zs≠[]:=by
   rcases j with h|h
   ·omega
   ·exact h
  have c:0<zs.length:=fV.2 d;have f:i%zs.length<zs.length:=Nat.mod_lt _ c;simp only[jz hi,bb,g,bW,aN,Function.comp];rw[getElem!_pos _ _ (by simpa using f)];simp[List.getD,Za f]
 ·simp[dR (show (cO n).length<=i by simp;omega)]
variable {i:Nat}{o:lW}{lK:List Nat}
theorem kg.bs{R:k6 α}(O:ki R)(lO:kf X.P tt)(xs:List α){t len:Nat}{q A:TD}{l:Array (Nat×lV)}{cs:List SC}
  (ho:ops[i]?=some o) (hg:Y3 ops s.L o=some true) (Y:o.op=.buildSlice t len l) (hd:o.dst=some d) (ht:Yg tt t=some q) (u:Yg tt q.el=some A)
  (hf:WZ (WC q.es len) s.L l.toList (Ve A.z (len*q.es))=some cs) (hk:QO O (Yg s.V) xs cs)
  (hc:(aO d X.fn.ntmps && aF q.kd 6 && aF q.es R.sz && aF xs.length len && aY (len*q.es) 16777216 && !A.z.isEmpty)=true)
  (k:kg X ops lK lL ⟨(d,.c (.sl s.nx))::s.L,(s.nx,.own R xs true)::s.M,s.V,s.nx+1⟩):kg X ops (i::lK) lL s:=by
 refine kg.op ho hg (fun E F w a Z=>?_) k;simp only[Zc]at hc;obtain⟨⟨⟨⟨⟨c1,c2⟩,c3⟩,W⟩,c5⟩,c6⟩:=hc;have c3:=Zd c3;have W:=Zd W;have c5:=Ze c5;have⟨ie,hu,K,N,_,_⟩:=(lO.get ht).slc c2;have hz:(sizeOf q.el).run X.P w=.ok q.es w:=by simp[sizeOf,typeInfo,K,N]
 have⟨z,hzr,hzc⟩:=HI w (lO.get u);have hzl:A.z.length=q.es:=by have h1:=(lO.get u).2.2.2;have⟨i',z',S,hs',_⟩:=(lO.get u).info;rw[K]at S;cases S;rw[h1,<-hs',N]
 have D:A.z≠[]:=by intro h;rw[h]at c6;simp at c6
 have⟨r,I,C,hkb⟩:=Dn Z (WC q.es len) (fun i=>some (i*q.es,q.es)) (fun i o sz g hi=>by
   have:=Za5 _ _ _ _ hi;simp only[Zr]at this;rw[this.1,this.2.1]) l.toList (Ve A.z (len*q.es)) cs
   ((fg (len*q.es)).map fun i=>z.cells[i%z.cells.size]!) hf (by intro y hy;simp only[Ve,aM]at hy;obtain⟨j,_,rfl⟩:=hy;have hm:j%A.z.length<A.z.length:=Nat.mod_lt _ (fV.2 D);simp only[List.getD,Za hm,Option.getD_some];exact Dt (lO.get u) _ (b9 hm)) (Zea (hzc E) _ (.inr D))
 have G:=LV O (E:=E) (F:=F) (w:=w) (fun k f h=>Z.hV k f h) hk;have T:(lT a.eval o).run X.P w=.ok (.value (.slice (some ⟨w.heap.size,0,none⟩) len len)) (w.alloc (.cells r q.el)):=by
  simp only[lT,Y];refine Xe ?_;have U:(l.map fun (i,x)=>(i,a.eval x)).toList=l.toList.map fun (i,x)=>(i,a.eval x):=by simp
  have hne:¬ (2 ^ 24<len*q.es):=by omega
  simp only[Instr.buildSlice,aG,Xl hu,aD,hz,U];by_cases h0:len*q.es=0
  ·have key:∀f:Nat->lR,(fg (len*q.es)).map f=#[]:=by intro f;rw[h0];simp
   rw[key]at I;have hgt:¬ ((0:Nat)>2 ^ 24):=by omega
   rw[h0]at key ⊢;simp only[hgt,mC,aG,mA,aJ,aD,newRow];rw[key];simp only[I,aJ,aG,run_newObj,aD];rfl
  ·simp[h0,hne,hzr,I,newRow]
 refine XD T ?_;have hx:=Z.newRow (R:=R) (xs:=xs) (arr:=r) (ty:=q.el) (cap:=len) (fun w' g=>(G.mono g).row (off:=0) (fun j v hj=>by
   rw[aw,<-Array.getElem?_toList,C];exact hj)) (by omega) (by rw[<-aq,C,G.1,W];exact Zq _) (d:=d) (Y9 c1) (w2:=w.alloc (.cells r q.el)) rfl rfl rfl .m
 rw[W]at hx;rw[hd];exact hx
variable {fr:Bool}{n:Int}{t:lS}{x:lV}{e:α}
theorem kg.ixo{R:k6 α}(lO:kf X.P tt){u:TD}{C:lV}{k:Nat}{ik:lY}
  (hi:idx xs n=some e) (O:ops[i]?=some o) (S:Y3 ops s.L o=some true) (y:o.op=.indexAddr t x C) (T:o.dst=some d)
  (U:Yr s.L x=some (.c (.sl k))) (hM:Yg s.M k=some (.own R xs fr)) (W:Yr s.L C=some (.c (.i ik n))) (Y:Yg tt t=some u)
  (D:(aO d X.fn.ntmps && aF u.kd 6 && aF u.es R.sz)=true)
  (k:kg X ops lK lL ⟨(d,.c (.px s.nx 0))::s.L,s.M,(s.nx,.el k (n.toNat*R.sz))::s.V,s.nx+1⟩):kg X ops (i::lK) lL s:=by
 refine kg.op O S (fun E F w a g=>?_) k;rename_i r;simp only[Zc]at D;obtain⟨⟨Z,c2⟩,z⟩:=D;have z:=Zd z;have⟨h0,h1,A⟩:=VD hi;have⟨el,hu,hz⟩:=(lO.get Y).sliceOf c2;have h:=g.hM r _ hM;simp only[MO.ok]at h;rcases h with⟨rfl,_⟩|⟨b,off,cap,arr,ty,fz,G,I,_,_,hh,hr⟩
 ·simp at A
 have⟨e1,_⟩:=g.eval U;have⟨e3,_⟩:=g.eval W;have l:(lT a.eval o).run X.P w=.ok (.value (.pointer (some ⟨b,off+n.toNat*R.sz,none⟩))) w:=by simp only[lT,y,e1,e3,Yt,Yn,G];refine Xe ?_;rw[<-z];exact ZlO w hu (hz w) h0 h1
 refine XD l ?_;have K:E.Eqb s.nx (E.setρ s.nx (.pointer (some ⟨b,off+n.toNat*R.sz,none⟩))):=E.eqb_setρ _ _ _ (Zq _);have m:(E.setρ s.nx (.pointer (some ⟨b,off+n.toNat*R.sz,none⟩))).ρ s.nx=.pointer (some ⟨b,off+n.toNat*R.sz,none⟩):=by simp[lC.setρ]
 have s1:=g.env K (fun j=>by
  simp only[lC.setρ];split
  ·rfl
  ·exact g.one j)
 have q:=(g.wf.hM r _ hM).1;have s2:=s1.addV (f:=.el r (n.toNat*R.sz)) (by show _=WW _ _/\_;rw[m,(K r q).1,G];exact⟨rfl,_,_,rfl⟩) (Nat.lt_succ_of_lt q)
 have N:=s2.setL (d:=d) (v:=.c (.px s.nx 0)) (ab _) (Y9 Z);simp only[Yt,Yn,m,WW,bu]at N;rw[T];exact⟨_,F,N⟩
theorem kg.ldo{R:k6 α}(O:ki R)(lO:kf X.P tt){A:TD}{k q off:Nat}{v:SV}
  (hi:idx xs n=some e) (G:ops[i]?=some o) (I:Y3 ops s.L o=some true) (u:o.op=.load t x) (K:o.dst=some d)
  (N:Yr s.L x=some (.c (.px q off))) (hV:Yg s.V q=some (.el k (n.toNat*R.sz))) (hM:Yg s.M k=some (.own R xs fr)) (S:Yg tt t=some A)
  (C:Uf A off (O.cells s.nx e)=some v) (T:aO d X.fn.ntmps=true)
  (k:kg X ops lK lL ⟨(d,v)::s.L,s.M,O.facts s.nx e++s.V,s.nx+O.nk⟩):kg X ops (i::lK) lL s:=by
 refine kg.op G I (fun E F w a g=>?_) k;rename_i k0;have⟨_,_,h⟩:=VD hi;have m:=g.hM k0 _ hM;simp only[MO.ok]at m;rcases m with⟨rfl,_⟩|⟨b,o',cap,arr,ty,fz,hv,D,_,_,hh,hr⟩
 ·simp at h
 have⟨vs,l,y⟩:=hr n.toNat e h;have⟨E2,a1,_,_,a3,a4,a5,Y⟩:=O.ok l s.nx E g.one;have⟨Z,_⟩:=g.hV q _ hV;have hqn:=(g.wf.hV q _ hV).1;have f:∀(j:Nat) c,(O.cells s.nx e)[j]?=some c->arr[o'+n.toNat*R.sz+j]?=some (Yn E2 c):=fun j c U=>y j _ (by rw[a4,aK,U];rfl);have z:=DP (E:=E2) (base:=o'+n.toNat*R.sz) (lO.get S) hh (cs:=O.cells s.nx e) f C;have⟨e1,_⟩:=g.eval N;have r:(lT a.eval o).run X.P w=.ok (.value (Yt E2 v)) w:=by
  have:(ej t (a.eval x)).run X.P w=.ok (Yt E2 v) w:=by rw[e1];simp only[ej,Yt,Yn,Z,hv,WW,cx,aG,aJ,aD,z]
  simp only[lT,u];exact Xe this
 refine XD r ?_;have s1:=g.env a1 a3;have s2:=s1.addF (fs:=O.facts s.nx e) (n:=O.nk) (fun p W=>a5 p W);have s3:=s2.setL (d:=d) (v:=v) (ZfI C Y) (Y9 T);rw[K];exact⟨E2,F,s3⟩
def YE(xs:List α)(n:Int)(e:α):List α:=xs.set n.toNat e
theorem kg.sto{R:k6 α}(O:ki R)(lO:kf X.P tt){td:TD}{y:lV}{k q off:Nat}{v:SV}{ps:List SC}(Z:α)
  (hi:idx xs n=some e) (ho:ops[i]?=some o) (hg:Y3 ops s.L o=some true) (hop:o.op=.store t x y) (hd:o.dst=none)
  (hx:Yr s.L x=some (.c (.px q off))) (hV:Yg s.V q=some (.el k (n.toNat*R.sz))) (hM:Yg s.M k=some (.own R xs fr)) (ht:Yg tt t=some td)
  (hy:Yr s.L y=some v) (hp:WI v=some ps)
  (hk:O.chk (Yg s.V) Z ((O.cells s.nx e).take off++ps++(O.cells s.nx e).drop (off+ps.length)))
  (hc:(aF ps.length td.sz && aY (off+ps.length) R.sz && (aF ps.length R.sz || aF O.nk 0))=true)
  (k:kg X ops lK lL ⟨s.L,(k,.own R (YE xs n Z) fr)::s.M,s.V,s.nx⟩):kg X ops (i::lK) lL s:=by
 refine kg.op ho hg (fun E F w a C=>?_) k;rename_i k0;simp only[Zc,b7]at hc;obtain⟨⟨c1,c2⟩,c3⟩:=hc;have c1:=Zd c1;have c2:=Ze c2;have⟨_,_,S⟩:=VD hi;have hsl:=C.hM k0 _ hM;simp only[MO.ok]at hsl;rcases hsl with⟨rfl,_⟩|⟨b,o',cap,arr,ty,fz,hv,hcap,hsza,hth,hh,hr⟩
 ·simp at S
 have⟨vs,I,hvs⟩:=hr n.toNat e S;have⟨E2,a1,_,a2,a3,a4,a5,a6⟩:=O.ok I s.nx E C.one;have⟨hq,_⟩:=C.hV q _ hV;have⟨e1,_⟩:=C.eval hx;have⟨e2,ek⟩:=C.eval hy;have⟨ec,ekk⟩:=HR (s:=s) C.one hp ek;have hvl:=R.len I;have hcl:(O.cells s.nx e).length=R.sz:=by rw[<-hvl,a4,aN]
 have hin:n.toNat<xs.length:=(aE.1 S).1;have hroom:o'+n.toNat*R.sz+R.sz<=arr.size:=by have:(n.toNat+1)*R.sz<=cap*R.sz:=aT _ (by omega);rw[bD]at this;omega
 have z:(ps.map (Yn E)).length=ps.length:=aN ..;have hst:=Qb (P:=X.P) b (o'+n.toNat*R.sz+off) ty fz (ps.map (Yn E)) 0 arr w hh hth (by rw[z];omega)
  (by intro u hu;obtain⟨c,hc',rfl⟩:=aM.1 hu;exact QQ C.one (ekk c hc'))
 let d:=(arr.toList.take (o'+n.toNat*R.sz+off+0)++ps.map (Yn E)++arr.toList.drop (o'+n.toNat*R.sz+off+0+(ps.map (Yn E)).length)).toArray
 have hrun:(lT a.eval o).run X.P w=.ok .skip (w.setRow b d):=by
  have hsv:(dz t (a.eval x) (a.eval y)).run X.P w=.ok () (w.setRow b d):=by
   rw[e1,e2];have hsz:(Yt E v).cells.size=td.sz:=by rw[ec];simp[c1]
   have hp:Yt E (.c (.px q off))=.pointer (some ⟨b,o'+n.toNat*R.sz+off,none⟩):=by show WW (E.ρ q) off=_;rw[hq,hv];rfl
   rw[hp];simp only[dz,cx,aG,aJ,aD,storeVar,DQ w (lO.get ht),hsz,ne_eq,lu,mC];have:(Yt E v).cells.toList=ps.map (Yn E):=by rw[ec]
   rw[this];exact hst
  simp only[lT,hop,aG,hsv,aD,aJ]
 refine HW hrun ?_;have hmf:=C.mF k0 _ hM;have hbF:¬ F b:=(hmf b (by show YV (E.ρ k0)=some b;rw[hv];rfl)).1;have hg:X3 F w F (w.setRow b d):=⟨fun _ h=>h,fun b' hb'=>l5 w b b' _ (fun h=>hbF (h▸hb'))⟩
 have K:d.size=arr.size:=by have T:arr.toList.length=arr.size:=aq;simp only[d,bW,ae,aL,bg,T,z];omega
 -- what the cells are now
 have N:∀j,d[j]?=if o'+n.toNat*R.sz+off<=j/\j<o'+n.toNat*R.sz+off+ps.length then (ps.map (Yn E))[j-(o'+n.toNat*R.sz+off)]? else arr[j]?:= by
  intro j;have T:arr.toList.length=arr.size:=aq;have U:(arr.toList.take (o'+n.toNat*R.sz+off)).length=o'+n.toNat*R.sz+off:=by rw[aL,T];omega
  show ((arr.toList.take (o'+n.toNat*R.sz+off+0)++ps.map (Yn E)++arr.toList.drop (o'+n.toNat*R.sz+off+0+(ps.map (Yn E)).length)).toArray)[j]?=_;simp only[bu,cW,aU,z];by_cases c:j<o'+n.toNat*R.sz+off
  ·rw[Zo (by rw[U];exact c),aj,mD c,mE (by omega)];simp
  ·rw[Zp (by rw[U];omega),U];by_cases c':j<o'+n.toNat*R.sz+off+ps.length
   ·rw[Zo (by rw[z];omega),mD ⟨by omega,c'⟩]
   ·rw[Zp (by rw[z];omega),z,bO,mE (by omega)];rw[show o'+n.toNat*R.sz+off+ps.length+(j-(o'+n.toNat*R.sz+off)-ps.length)=j by omega];simp
 have hEc:∀(j:Nat) (c:SC),(O.cells s.nx e)[j]?=some c->(j<off\/off+ps.length<=j)->Yn E c=Yn E2 c:=by
  intro j c l hout;rcases c3 with h|h
  ·have:=Zd h;have hjl:=(aE.1 l).1;omega
  ·have h:=Zd h;have hk':=a6 c (Zb l);rw[h,bu]at hk';exact (LZ a1 hk').symm
 have A:R.rep F (w.setRow b d) Z (((O.cells s.nx e).take off++ps++(O.cells s.nx e).drop (off+ps.length)).map (Yn E)):=
  R.mono hg (O.cok hk E F w (fun k f h=>C.hV k f h))
 have hrow:Row R F (w.setRow b d) (YE xs n Z) d o':=by
  intro i' x' r;unfold YE at r;rw[List.getElem?_set]at r;split at r
  ·rename_i hii;try rw[mD hin]at r
   cases r;refine⟨_,A,fun j u l=>?_⟩;rw[N,<-hii];rw[aK]at l;have g:((O.cells s.nx e).take off).length=off:=by rw[aL,hcl];omega
   by_cases c:off<=j/\j<off+ps.length
   ·rw[mD ⟨by omega,by omega⟩,show o'+n.toNat*R.sz+j-(o'+n.toNat*R.sz+off)=j-off by omega,aK];rw[aU,Zp (by rw[g];exact c.1),g,Zo (by omega)]at l;exact l
   ·rw[mE (by omega)];have W:∃D,(O.cells s.nx e)[j]?=some D/\u=Yn E D:=by
     rcases ay j off with G|hge
     ·rw[aU,Zo (by rw[g];exact G),aj,mD G]at l;rw[Zn]at l;have⟨D,Y,h2⟩:=l;exact⟨D,Y,h2.symm⟩
     ·rw[aU,Zp (by rw[g];exact hge),g,Zp (by omega),bO,
       show off+ps.length+(j-off-ps.length)=j by omega,Zn]at l
      have⟨D,Y,h2⟩:=l;exact⟨D,Y,h2.symm⟩
    have⟨D,Y,h2⟩:=W;have:=hvs j (Yn E2 D) (by rw[a4,aK,Y];rfl);rw[h2,hEc j D Y (by omega)];exact this
  ·rename_i hne;have⟨us,hu,huv⟩:=hr i' x' r;refine⟨us,R.mono hg hu,fun j u l=>?_⟩;have hjl:j<R.sz:=by rw[<-R.len hu];exact (aE.1 l).1
   rw[N,mE]
   ·exact huv j u l
   ·rintro⟨g1,g2⟩;rcases ay i' n.toNat with G|hge
    ·have:(i'+1)*R.sz<=n.toNat*R.sz:=aT _ G;rw[bD]at this;omega
    ·have:(n.toNat+1)*R.sz<=i'*R.sz:=aT _ (by omega);rw[bD]at this;omega
 refine⟨E,F,?_⟩;rw[hd];refine C.setM (m':=.own R (YE xs n Z) fr) hM rfl rfl .m (by simp) (fun b' _ hne=>l5 w b b' _ (fun h=>hne (by subst h;show YV (E.ρ k0)=some b';rw[hv];rfl))) (fun _ h=>h) ?_ trivial (fun h=>h);refine .inr ⟨b,o',cap,d,ty,fz,?_,?_,by rw[K];exact hsza,by rw[K];exact hth,setRow_heap w b arr _ ty fz hh,hrow⟩
 ·rw[hv];simp[YE]
 ·simpa[YE]using hcap
end
abbrev Yh(n:Int):Int:=bG.wrap n
abbrev wk(k:lY)(n:Int):Int:=k.wrap n
abbrev str(l:List UInt8):be:=⟨⟨l⟩⟩
abbrev ZaQ{α:Type}(_:Nat):Option α:=none
theorem U6{c:Bool}{x y:Option α}{r:α}(h:(bif c then x else y)=some r):(c=false/\y=some r)\/(c=true/\x=some r):=(oc h).symm
section
variable {X:lB}{s:St}{ops:Array lW}{lL:lZ->lQ->Prop}
end
section
variable {X:lB}{s:St}{ops:Array lW}{lL:lZ->lQ->Prop}{tt:List (Nat×TD)}
end
def XO(op:BinOp)(k:lY)(m n:Int):Option Int:=match op with
 | .quo=>bif n==0 then none else some (k.wrap (m.tdiv n))
 | .rem=>bif n==0 then none else some (m.tmod n)
 | .shl=>bif decide (n<0) then none else some (k.wrap (m*2 ^ (min n.toNat k.bits)))
 | .shr=>bif decide (n<0) then none else some (m.fdiv (2 ^ (min n.toNat k.bits)))
 | .and=>some (k.wrap ((ep k.bits m &&& ep k.bits n).toNat:Int))
 | .or=>some (k.wrap ((ep k.bits m ||| ep k.bits n).toNat:Int))
 | .xor=>some (k.wrap ((ep k.bits m ^^^ ep k.bits n).toNat:Int))
 | .andNot=>some (k.wrap ((ep k.bits m &&& ~~~ ep k.bits n).toNat:Int))
 |_=>none
def Zbl:BinOp->Bool
 | .shl | .shr=>true
 |_=>false
variable {P:lU}{t:lS}
theorem Zof{op:BinOp}{x y:lV}{k d:lY}{m n z:Int}(h:XO op k m n=some z)(f:(Zbl op || decide (k=d))=true) :
  (do eqGuard op t x y (.int k m) (.int d n);binOp op t (.int k m) (.int d n):Sem lR).run P w=.ok (.int k z) w:=by
 cases op<;>simp only[XO]at h<;>(try (cases h;done));all_goals simp only[Zbl,Bool.false_or,Bool.true_or,l8]at f
 all_goals try subst f
 ·cases c:(n==0) with
  |true=>rw[c]at h;cases h
  |false=>
   rw[c]at h;cases h;have:¬ n=0:=by simpa using c
   simp[eqGuard,binOp,Op.intDiv,this]
 ·cases c:(n==0) with
  |true=>rw[c]at h;cases h
  |false=>
   rw[c]at h;cases h;have:¬ n=0:=by simpa using c
   simp[eqGuard,binOp,Op.intDiv,this]
 ·cases h;simp[eqGuard,binOp,kJ]
 ·cases h;simp[eqGuard,binOp,kJ]
 ·cases h;simp[eqGuard,binOp,kJ]
 ·cases c:(decide (n<0)) with
  |true=>rw[c]at h;cases h
  |false=>
   rw[c]at h;cases h;have:¬ n<0:=by simpa using c
   simp[eqGuard,binOp,Op.shift,this]
 ·cases c:(decide (n<0)) with
  |true=>rw[c]at h;cases h
  |false=>
   rw[c]at h;cases h;have:¬ n<0:=by simpa using c
   simp[eqGuard,binOp,Op.shift,this]
 ·cases h;simp[eqGuard,binOp,kJ]
def XM(s:be)(n:Int):Option Int:=bif decide (0<=n) then s[n.toNat]?.map (fun b=>(b.toNat:Int)) else none
def Xy(x y:be):Option be:=bif decide (((x.size+y.size:Nat):Int)>bG.max) then none else some (x++y)
section
variable {X:lB}{s:St}{ops:Array lW}{lL:lZ->lQ->Prop}{tt:List (Nat×TD)}
variable {d i:Nat}{o:lW}{lK:List Nat}{t:lS}{x y:lV}
theorem kg.bin{l:lS}{op:BinOp}{k j:lY}{m n z:Int}
  (q:XO op k m n=some z) (r:ops[i]?=some o) (u:Y3 ops s.L o=some true) (g:o.op=.binOp op t x y l) (A:o.dst=some d)
  (C:Yr s.L x=some (.c (.i k m))) (D:Yr s.L y=some (.c (.i j n))) (G:(Zbl op || decide (k=j))=true) (I:aO d X.fn.ntmps=true)
  (K:kg X ops lK lL ⟨(d,.c (.i k z))::s.L,s.M,s.V,s.nx⟩):kg X ops (i::lK) lL s:=by
 refine kg.op r u (fun E F w a h=>?_) K;have⟨N,_⟩:=h.eval C;have⟨O,_⟩:=h.eval D;have f:(lT a.eval o).run X.P w=.ok (.value (.int k z)) w:=by simp only[lT,g,N,O,Yt,Yn];exact Xe (Zof q G)
 refine XD f ⟨E,F,?_⟩;rw[A];exact h.setL (v:=.c (.i k z)) trivial (Y9 I)
theorem kg.cat{l:lS}{m n z:be}
  (f:Xy m n=some z) (q:ops[i]?=some o) (r:Y3 ops s.L o=some true) (h:o.op=.binOp .add t x y l) (u:o.dst=some d)
  (A:Yr s.L x=some (.c (.s m))) (C:Yr s.L y=some (.c (.s n))) (D:aO d X.fn.ntmps=true)
  (G:kg X ops lK lL ⟨(d,.c (.s z))::s.L,s.M,s.V,s.nx⟩):kg X ops (i::lK) lL s:=by
 refine kg.op q r (fun E F w a j=>?_) G;have⟨I,_⟩:=j.eval A;have⟨K,_⟩:=j.eval C;have g:(lT a.eval o).run X.P w=.ok (.value (.string z)) w:=by
  simp only[lT,h,I,K,Yt,Yn];refine Xe ?_;unfold Xy at f;cases k:decide (((m.size+n.size:Nat):Int)>bG.max) with
  |true=>rw[k]at f;cases f
  |false=>
   rw[k]at f;cases f;have:¬ ((m.size+n.size:Nat):Int)>bG.max:=by simpa using k
   simp only[eqGuard,binOp,Op.stringOp,this,mC,aG,aJ];rfl
 refine XD g ⟨E,F,?_⟩;rw[u];exact j.setL (v:=.c (.s z)) trivial (Y9 D)
theorem kg.sx(lO:kf X.P tt){q:TD}{ik:lY}{m:be}{n z:Int}
  (f:XM m n=some z) (u:ops[i]?=some o) (A:Y3 ops s.L o=some true) (j:o.op=.index t x y) (C:o.dst=some d)
  (D:Yg tt t=some q) (g:aF q.kd 2=true)
  (G:Yr s.L x=some (.c (.s m))) (I:Yr s.L y=some (.c (.i ik n))) (K:aO d X.fn.ntmps=true)
  (N:kg X ops lK lL ⟨(d,.c (.i .u8 z))::s.L,s.M,s.V,s.nx⟩):kg X ops (i::lK) lL s:=by
 refine kg.op u A (fun E F w a k=>?_) N;have⟨O,_⟩:=k.eval G;have⟨R,_⟩:=k.eval I;have T:X.P.underlying t=some .string:=by have r:=(lO.get D).2.1;have g:=Zd g;unfold U2 at r;split at r<;>simp_all
 have h:(lT a.eval o).run X.P w=.ok (.value (.int .u8 z)) w:=by
  simp only[lT,j,O,R,Yt,Yn];refine Xe ?_;unfold XM at f;cases l:decide (0<=n) with
  |false=>rw[l]at f;cases f
  |true=>
   rw[l]at f;simp only[l9,Zn]at f;obtain⟨b,S,rfl⟩:=f;have U:0<=n:=by simpa using l
   simp only[Instr.index,asIntOf,aG,aJ,aD,Xl T,U,mA,S]
 refine XD h ⟨E,F,?_⟩;rw[C];exact k.setL (v:=.c (.i .u8 z)) trivial (Y9 K)
end
variable {X:lB}
theorem WP.condCT{s:St}{k:List Item}{x y:Code}(h:WP X (.code x::k) s):WP X (.code (.cond (.const (.bool true)) x y)::k) s:=fun E F w a c=>
 ku.head (fun _ _ _ _ _=>.one (stepR_cond (t:=true) rfl)) (h E F w a c)
theorem WP.condCF{s:St}{k:List Item}{x y:Code}(h:WP X (.code y::k) s):WP X (.code (.cond (.const (.bool false)) x y)::k) s:=fun E F w a c=>
 ku.head (fun _ _ _ _ _=>.one (stepR_cond (t:=false) rfl)) (h E F w a c)
def WK(lo hi:Option Int)(len:Nat):Option (Nat×Nat):=
 bif decide (0<=lo.getD 0) && decide (lo.getD 0<=hi.getD len) && decide (hi.getD len<=(len:Int)) then some ((lo.getD 0).toNat,(hi.getD len).toNat) else none
variable {p:Nat×Nat}
theorem PK{lo hi:Option Int}{len:Nat}(h:WK lo hi len=some p):0<=lo.getD 0/\lo.getD 0<=hi.getD len/\hi.getD len<=(len:Int)/\p=((lo.getD 0).toNat,(hi.getD len).toNat):=by
 unfold WK at h;cases c:(decide (0<=lo.getD 0) && decide (lo.getD 0<=hi.getD len) && decide (hi.getD len<=(len:Int))) with
 |false=>rw[c]at h;cases h
 |true=>
  rw[c]at h;cases h;simp only[Zc,l8]at c;exact⟨c.1.1,c.1.2,c.2,rfl⟩
def ssl(s:be)(lo hi:Option Int):Option be:=(WK lo hi s.size).map fun p=>s.extract p.1 p.2
def lsl(xs:List α)(lo hi:Option Int):Option (List α):=(WK lo hi xs.length).map fun p=>(xs.take p.2).drop p.1
def Wu(L:List (Nat×SV)):Option lV->Option (Option (lY×Int))
 |none=>some none
 |some x=>match Yr L x with
  |some (.c (.i k n))=>some (some (k,n))
  |_=>none
theorem Hd{s:St}{E F w a}(c:ky X s E F w a){x:Option lV}{r:Option (lY×Int)}(h:Wu s.L x=some r):x.map a.eval=r.map fun p=>.int p.1 p.2:=by
 cases x with
 |none=>cases h;rfl
 |some x=>
  simp only[Wu]at h;split at h
  ·rename_i k n f;cases h;have⟨d,_⟩:=c.eval f;simp[d,Yt,Yn]
  ·cases h
theorem Zgd{is:Bool}{len cap:Nat}{lo hi:Option (lY×Int)}(l:len<=cap)(h:WK (lo.map (·.2)) (hi.map (·.2)) len=some p) :
    (eO is len cap (lo.map fun p=>.int p.1 p.2) (hi.map fun p=>.int p.1 p.2) none).run P w=.ok (p.1,p.2,cap) w:=by
  obtain⟨c,d,f,rfl⟩:=PK h;cases lo with
  |none=>
    cases hi with
    |none=>simp[eO]
    |some q=>
      simp at c d f;have:q.2<=(cap:Int):=by omega
      simp[eO,gP,asIntOf,d,this]
  |some r=>
    cases hi with
    |none=>
      simp at c d f;simp[eO,gP,asIntOf,c,d]
    |some q=>
      simp at c d f;have g:q.2<=(cap:Int):=by omega
      have j:0<=q.2:=by omega
      have m:r.2<=(q.2.toNat:Int):=by omega
      have k:r.2<=max q.2 0:=by omega
      simp[eO,gP,asIntOf,g,j,c,k]
theorem Zge{el:lS}{es:Nat}{b:Option Addr}{len cap:Nat}{lo hi:Option (lY×Int)}(c:P.underlying t=some (.slice el))(d:(sizeOf el).run P w=.ok es w)
    (f:len<=cap) (h:WK (lo.map (·.2)) (hi.map (·.2)) len=some p) :
    (fC t (.slice b len cap) (lo.map fun p=>.int p.1 p.2) (hi.map fun p=>.int p.1 p.2) none).run P w =
      .ok (.slice (if cap=p.1 then b else b.map (·.add (p.1*es))) (p.2-p.1) (cap-p.1)) w:=by simp only[fC,aG,Xl c,aD,Instr.slice,Zgd f h,d,aJ]
theorem Zt1{s:be}{lo hi:Option (lY×Int)}(c:P.underlying t=some .string)(h:WK (lo.map (·.2)) (hi.map (·.2)) s.size=some p) :
    (fC t (.string s) (lo.map fun p=>.int p.1 p.2) (hi.map fun p=>.int p.1 p.2) none).run P w=.ok (.string (s.extract p.1 p.2)) w:=by simp only[fC,aG,Xl c,aD,Instr.slice,Option.isSome_none,cM,mC,Zgd (Zq _) h,aJ]
variable {xs:List α}
theorem Row.sub{R:k6 α}{F w}{arr:Array lR}{off:Nat}(h:Row R F w xs arr off)(l m:Nat):Row R F w ((xs.take m).drop l) arr (off+l*R.sz):=by
 intro i x c;rw[bO,aj]at c;split at c
 ·have⟨f,g,k⟩:=h (l+i) x c;refine⟨f,g,fun j v d=>?_⟩;have:=k j v d;rw[show off+l*R.sz+i*R.sz+j=off+(l+i)*R.sz+j by rw[bD];omega];exact this
 ·cases c
theorem Row.empty{R:k6 α}{F w}{arr:Array lR}{off:Nat}:Row R F w ([]:List α) arr off:=fun i x c=>by simp at c
section
variable {X:lB}{s:St}{ops:Array lW}{lL:lZ->lQ->Prop}{tt:List (Nat×TD)}
theorem kg.ssl(lO:kf X.P tt){i:Nat}{lK:List Nat}{o:lW}{t:lS}{y:TD}{x:lV}{lo hi:Option lV}{l h:Option (lY×Int)}{d:Nat}{m z:be}
    (k:ssl m (l.map (·.2)) (h.map (·.2))=some z) (C:ops[i]?=some o) (D:Y3 ops s.L o=some true) (q:o.op=.slice t x lo hi none) (G:o.dst=some d)
    (I:Yg tt t=some y) (f:aF y.kd 2=true) (K:Yr s.L x=some (.c (.s m))) (r:Wu s.L lo=some l) (u:Wu s.L hi=some h) (N:aO d X.fn.ntmps=true)
    (O:kg X ops lK lL ⟨(d,.c (.s z))::s.L,s.M,s.V,s.nx⟩):kg X ops (i::lK) lL s:=by
  refine kg.op C D (fun E F w a j=>?_) O;have⟨R,_⟩:=j.eval K;have T:X.P.underlying t=some .string:=by have A:=(lO.get I).2.1;have f:=Zd f;unfold U2 at A;split at A<;>simp_all
  unfold Kx.ssl at k;rw[Zn]at k;obtain⟨p,S,rfl⟩:=k;have g:(lT a.eval o).run X.P w=.ok (.value (.string (m.extract p.1 p.2))) w:=by simp only[lT,q,R,Yt,Yn,Hd j r,Hd j u];exact Xe (Zt1 T S)
  refine XD g ⟨E,F,?_⟩;rw[G];exact j.setL (v:=.c (.s (m.extract p.1 p.2))) trivial (Y9 N)
theorem SlR.sub{α:Type}{R:k6 α}{F w}{xs:List α}{b:Option Addr}{c:Nat}{p:Nat×Nat}(h:SlR R F w xs (.slice b xs.length c))(q:p.1<=p.2)(g:p.2<=xs.length) :
    SlR R F w ((xs.take p.2).drop p.1) (.slice (if c=p.1 then b else b.map (·.add (p.1*R.sz))) (p.2-p.1) (c-p.1)):=by
  have d:((xs.take p.2).drop p.1).length=p.2-p.1:=by simp;omega
  rcases h with⟨rfl,f⟩|⟨j,off,cap,arr,el,fz,f,r,hF,k,l⟩
  · cases f;simp at g;refine .inl ⟨by simp,?_⟩;have:p.1=0:=by omega
    simp[this,g]
  · cases f;split
    · rename_i u;have m:(xs.take p.2).drop p.1=[]:=ar (by rw[d];omega);refine .inr ⟨j,off,c-p.1,arr,el,fz,by rw[d],by rw[d];omega,hF,k,by rw[m];exact Row.empty⟩
    · refine .inr ⟨j,off+p.1*R.sz,c-p.1,arr,el,fz,by rw[d];simp[Ww],by rw[d];omega,hF,k,l.sub p.1 p.2⟩
theorem kg.isl{α:Type}{R:k6 α}(lO:kf X.P tt){i:Nat}{lK:List Nat}{o:lW}{t:lS}{A:TD}{x:lV}{lo hi:Option lV}{l h:Option (lY×Int)}{d k:Nat}{xs zs:List α}
    (C:lsl xs (l.map (·.2)) (h.map (·.2))=some zs) (Y:ops[i]?=some o) (Z:Y3 ops s.L o=some true) (D:o.op=.slice t x lo hi none) (hd:o.dst=some d)
    (ht:Yg tt t=some A) (hx:Yr s.L x=some (.c (.sl k))) (hV:Yg s.V k=some (.sl R xs)) (G:Wu s.L lo=some l) (I:Wu s.L hi=some h)
    (z:(aO d X.fn.ntmps && aF A.kd 6 && aF A.es R.sz)=true)
    (kk:kg X ops lK lL ⟨(d,.c (.sl s.nx))::s.L,s.M,(s.nx,.sl R zs)::s.V,s.nx+1⟩):kg X ops (i::lK) lL s:=by
  refine kg.op Y Z (fun E F w a m=>?_) kk;simp only[Zc]at z;obtain⟨⟨c1,c2⟩,K⟩:=z;have K:=Zd K;have⟨e1,_⟩:=m.eval hx;have⟨el,hu,N⟩:=(lO.get ht).sliceOf c2;have g:SlR R F w xs (E.ρ k):=m.hV k _ hV;have⟨b,c,q⟩:=Zet g;rw[q]at g;unfold Kx.lsl at C;rw[Zn]at C;obtain⟨p,T,rfl⟩:=C;have⟨q1,q2,q3,U⟩:=PK T;have r:xs.length<=c:=by
    rcases g with⟨rfl,q⟩|⟨b',off,cap,arr,el,fz,q,z,_⟩
    · simp
    · cases q;exact z
  have u:(lT a.eval o).run X.P w=.ok (.value (.slice (if c=p.1 then b else b.map (·.add (p.1*R.sz))) (p.2-p.1) (c-p.1))) w:=by simp only[lT,D,e1,Yt,Yn,q,Hd m G,Hd m I];rw[<-K];exact Xe (Zge hu (N w) r T)
  have y:=g.sub (p:=p) (by rw[U];simp;omega) (by rw[U];simp;omega);refine XD u ?_;have O:E.Eqb s.nx (E.setρ s.nx (.slice (if c=p.1 then b else b.map (·.add (p.1*R.sz))) (p.2-p.1) (c-p.1))):=E.eqb_setρ _ _ _ (Zq _);have s1:=m.env O (fun j=>by
    simp only[lC.setρ];split
    · rfl
    · exact m.one j)
  have W:(E.setρ s.nx (.slice (if c=p.1 then b else b.map (·.add (p.1*R.sz))) (p.2-p.1) (c-p.1))).ρ s.nx=.slice (if c=p.1 then b else b.map (·.add (p.1*R.sz))) (p.2-p.1) (c-p.1):=by simp[lC.setρ]
  have s2:=s1.addV (f:=.sl R ((xs.take p.2).drop p.1)) (by show SlR _ _ _ _ _;rw[W];exact y) trivial
  have S:=s2.setL (d:=d) (v:=.c (.sl s.nx)) (ab _) (Y9 c1);simp only[Yt,Yn]at S;rw[W]at S;rw[hd];exact⟨_,F,S⟩
end
section
variable {X:lB}{s s':St}{ops:Array lW}{lL:List Item}{tt:List (Nat×TD)}
end
section
variable {X:lB}{s:St}{ops:Array lW}{lL:List Item}{tt:List (Nat×TD)}
end
def Za8(P:lU)(g:lS->List SC->List SC->Option Bool):List Field->List SC->List SC->Option Bool
 | [],_,_=>some true
 |f::fs,cs,ds=>bif f.name == "_" then none else match P.info? f.type with
  |some i=>match g f.type ((cs.drop f.offset).take i.size) ((ds.drop f.offset).take i.size) with
   |some a=>match Za8 P g fs cs ds with
    |some b=>some (a && b)
    |none=>none
   |none=>none
  |none=>none
def Za7(g:lS->List SC->List SC->Option Bool)(el sz:Nat):List Nat->List SC->List SC->Option Bool
 | [],_,_=>some true
 |j::js,cs,ds=>match g el ((cs.drop (j*sz)).take sz) ((ds.drop (j*sz)).take sz) with
  |some a=>match Za7 g el sz js cs ds with
   |some b=>some (a && b)
   |none=>none
  |none=>none
def VU(P:lU):Nat->lS->List SC->List SC->Option Bool
 |0,_,_,_=>none
 |d+1,t,cs,ds=>match P.underlying t with
  |some (.int _)=>match cs,ds with
   | [.i k m],[.i k' n]=>bif decide (k=k') then some (m==n) else none
   |_,_=>none
  |some .bool=>match cs,ds with
   | [.b a],[.b b]=>some (a==b)
   |_,_=>none
  |some .string=>match cs,ds with
   | [.s a],[.s b]=>some (a.toList==b.toList)
   |_,_=>none
  |some (.struct fs)=>bif P.stoodInHeld t then none else Za8 P (VU P d) fs.toList cs ds
  |some (.array n el)=>match P.info? el with
   |some i=>bif i.size==P.cellsOf el then Za7 (VU P d) el (P.cellsOf el) (cO n) cs ds else none
   |none=>none
  |_=>none
def VA(P:lU)(t:lS)(E:lC)(cs:List SC):lR:=bif Wh P t then .agg (cs.map (Yn E)).toArray else match cs with
 | [c]=>Yn E c
 |_=>undef
theorem ZjX(E:lC)(cs:List SC)(o n:Nat):((cs.map (Yn E)).toArray).extract o (o+n)=(((cs.drop o).take n).map (Yn E)).toArray:=by simp[List.map_drop,fW]
variable {cs:List SC}{n:Nat}
theorem ZuO{o:Nat}{c:SC}(h:(cs.drop o).take n=[c]):cs[o]?=some c:=by
 have:((cs.drop o).take n)[0]?=some c:=by rw[h];rfl
 rw[aj]at this;split at this
 ·simpa using this
 ·cases this
variable {d:Nat}
theorem ZbF{E:lC}{i:TypeInfo}{es:List SC}{o:Nat}{b:Bool}(hi:P.info? t=some i)
  (h:VU P d t ((cs.drop o).take i.size) es=some b\/VU P d t es ((cs.drop o).take i.size)=some b) :
  (part t (cs.map (Yn E)).toArray o).run P w=.ok (VA P t E ((cs.drop o).take i.size)) w:=by
 have g:∀c,(cs.drop o).take i.size=[c]->Wh P t=false->∀u,P.underlying t=some u->(match u with | .struct _ | .array _ _=>False|_=>True) ->
   (part t (cs.map (Yn E)).toArray o).run P w=.ok (VA P t E ((cs.drop o).take i.size)) w:=by
  intro c l v u f x;have q:=ZuO l;have j:(isAgg t).run P w=.ok false w:=by simp only[isAgg,aG,Xl f,aD];cases u<;>first|rfl|exact x.elim
  simp only[part,aG,j,aD,cM,mC];have:(cs.map (Yn E)).toArray[o]?=some (Yn E c):=by simp[q]
  rw[this,l];simp only[VA,v,lf,aJ]
 cases d with
 |zero=>rcases h with h|h<;>cases h
 |succ d=>
  unfold VU at h;split at h
  ·rename_i k f;rcases h with h|h<;>(split at h)<;>first|(rename_i l m;exact g _ (by first|exact l|exact m) (by simp[Wh,f]) _ f trivial)|cases h
  ·rename_i f;rcases h with h|h<;>(split at h)<;>first|(rename_i l m;exact g _ (by first|exact l|exact m) (by simp[Wh,f]) _ f trivial)|cases h
  ·rename_i f;rcases h with h|h<;>(split at h)<;>first|(rename_i l m;exact g _ (by first|exact l|exact m) (by simp[Wh,f]) _ f trivial)|cases h
  ·rename_i fs f;have j:(isAgg t).run P w=.ok true w:=by simp only[isAgg,aG,Xl f,aD];rfl
   have r:(sizeOf t).run P w=.ok i.size w:=by simp[sizeOf,typeInfo,hi]
   simp only[part,aG,j,aD,mA,r,aJ];rw[ZjX];simp[VA,Wh,f]
  ·rename_i n el f;have j:(isAgg t).run P w=.ok true w:=by simp only[isAgg,aG,Xl f,aD];rfl
   have r:(sizeOf t).run P w=.ok i.size w:=by simp[sizeOf,typeInfo,hi]
   simp only[part,aG,j,aD,mA,r,aJ];rw[ZjX];simp[VA,Wh,f]
  ·rcases h with h|h<;>cases h
theorem ZjV{E:lC}{el:lS}{i:TypeInfo}(hi:P.info? el=some i)(f:i.size=P.cellsOf el)
  (l:∀t cs ds b,VU P d t cs ds=some b->(eQ (n+d) t (VA P t E cs) (VA P t E ds)).run P w=.ok b w) :
  ∀(g:List Nat) {cs ds:List SC} {b:Bool},Za7 (VU P d) el (P.cellsOf el) g cs ds=some b->(Op.eqItems (n+d) el (P.cellsOf el) (cs.map (Yn E)).toArray (ds.map (Yn E)).toArray g).run P w=.ok b w
 | [],cs,ds,b,h=>by cases h;simp[Op.eqItems]
 |j::g,cs,ds,b,h=>by
  unfold Za7 at h;split at h
  ·rename_i a u;split at h
   ·rename_i v k;cases h;have c:=u;rw[<-f]at c;have m:=ZbF (w:=w) (E:=E) hi (cs:=cs) (o:=j*i.size) (.inl c);have q:=ZbF (w:=w) (E:=E) hi (cs:=ds) (o:=j*i.size) (.inr c);have r:=l _ _ _ _ c;rw[f]at m q r;simp only[Op.eqItems,aG,m,q,r,aD];cases a
    ·simp
    ·simp only[Zg,cM,mC,Bool.true_and];exact ZjV hi f l g k
   ·cases h
  ·cases h
theorem ZjW{E:lC}(l:∀t cs ds b,VU P d t cs ds=some b->(eQ (n+d) t (VA P t E cs) (VA P t E ds)).run P w=.ok b w) :
  ∀(fs:List Field) {cs ds:List SC} {b:Bool},Za8 P (VU P d) fs cs ds=some b->(Op.eqFields (n+d) (cs.map (Yn E)).toArray (ds.map (Yn E)).toArray fs).run P w=.ok b w
 | [],cs,ds,b,h=>by cases h;simp[Op.eqFields]
 |f::fs,cs,ds,b,h=>by
  unfold Za8 at h;cases k:f.name == "_" with
  |true=>rw[k]at h;cases h
  |false=>
   rw[k]at h;simp only[lf]at h;split at h
   ·rename_i i hi;split at h
    ·rename_i a c;split at h
     ·rename_i u g;cases h;have j:f.name ≠ "_":=by simpa using k
      unfold Op.eqFields;have m:=ZbF (w:=w) (E:=E) (cs:=cs) (o:=f.offset) (t:=f.type) hi (.inl c);have q:=ZbF (w:=w) (E:=E) (cs:=ds) (o:=f.offset) (t:=f.type) hi (.inr c);have r:=l _ _ _ _ c;simp only[ne_eq,j,not_false_eq_true,mA,aG,m,q,r,aD];cases a
      ·simp
      ·simp only[Zg,cM,mC,Bool.true_and];exact ZjW l fs g
     ·cases h
    ·cases h
   ·cases h
theorem Zff{E:lC}:∀(d:Nat) {t:lS} {cs ds:List SC} {b:Bool},VU P d t cs ds=some b->(eQ (n+d) t (VA P t E cs) (VA P t E ds)).run P w=.ok b w
 |0,_,_,_,_,h=>by cases h
 |d+1,t,cs,ds,b,h=>by
  unfold VU at h;split at h
  ·rename_i k c;split at h
   ·rename_i j m r v;cases q:decide (j=r) with
    |false=>rw[q]at h;cases h
    |true=>
     rw[q]at h;cases h;have:j=r:=by simpa using q
     subst this;simp only[VA,Wh,c,lf,Yn];exact run_equalIn_int w (n+d) t j k m v c
   ·cases h
  ·rename_i c;split at h
   ·cases h;simp only[VA,Wh,c,lf,Yn];exact run_equalIn_bool w (n+d) t _ _ c
   ·cases h
  ·rename_i c;split at h
   ·cases h;simp only[VA,Wh,c,lf,Yn];exact run_equalIn_string w (n+d) t _ _ c
   ·cases h
  ·rename_i fs c;cases f:P.stoodInHeld t with
   |true=>rw[f]at h;cases h
   |false=>
    rw[f]at h;simp only[lf]at h;have u:P.fieldsOf t=fs:=by simp[Program.fieldsOf,c]
    have g:=run_equalIn_struct w (n+d) t (cs.map (Yn E)).toArray (ds.map (Yn E)).toArray (by rw[u];exact c) f;rw[u]at g;have l:Wh P t=true:=by simp[Wh,c]
    simp only[VA,l,l9];rw[show n+(d+1)=n+d+1 from rfl,g];exact ZjW (fun t cs ds b h=>Zff d h) _ h
  ·rename_i m el c;split at h
   ·rename_i i hi;cases f:i.size==P.cellsOf el with
    |false=>rw[f]at h;cases h
    |true=>
     rw[f]at h;simp only[l9]at h;have g:=run_equalIn_array w (n+d) (cs.map (Yn E)).toArray (ds.map (Yn E)).toArray c hi;have l:Wh P t=true:=by simp[Wh,c]
     simp only[VA,l,l9];rw[show n+(d+1)=n+d+1 from rfl,g];exact ZjV hi (by simpa using f) (fun t cs ds b h=>Zff d h) _ h
   ·cases h
  ·cases h
theorem ZpK{ds:List SC}{b:Bool}(c:Wh P t=true)(h:VU P 20 t cs ds=some b)(E:lC)(w:lQ) :
  (dp t (.agg (cs.map (Yn E)).toArray) (.agg (ds.map (Yn E)).toArray)).run P w=.ok b w:=by have:=Zff (w:=w) (E:=E) (n:=9980) 20 h;simpa[VA,c,dp,Op.maxDepth]using this
def Vj(z:α)(l c:Int):Option (List α):=bif decide (0<=l) && decide (l<=c) && decide (c<=4294967296) then some (aQ l.toNat z) else none
section
variable {X:lB}{s:St}{ops:Array lW}{lL:lZ->lQ->Prop}{tt:List (Nat×TD)}
theorem Tf{n:Int}(c:0<=n)(d:n<=4294967296):bG.wrap n=n:=by simp[fx,eV,fS];omega
theorem Znk{α:Type}{R:k6 α}{z:α}{E:lC}{F:YJ}{w:lQ}{zs:List SC}(l:kl R F w [z] (zs.map (Yn E)))(n:Nat){arr:Array lR}
  (d:arr.toList=(Ve zs (n*R.sz)).map (Yn E)) (m:Nat) (G:m<=n):Row R F w (aQ m z) arr 0:=by
 have f:zs.length=R.sz:=by have:=l.1;simpa using this
 intro i x h;rw[List.getElem?_replicate]at h;split at h
 ·rename_i hi;cases h;obtain⟨y,A,C⟩:=l.2 0 z rfl;refine⟨y,A,fun j v u=>?_⟩;have r:=C j v u;rw[eN,aw,aK,Zn]at r;obtain⟨c,q,rfl⟩:=r;have D:j<zs.length:=(aE.1 q).1;rw[<-Array.getElem?_toList,d,aw,aK,Zn];refine⟨c,?_,rfl⟩;unfold Ve;have k:i*R.sz+j<n*R.sz:=by have:(i+1)*R.sz<=n*R.sz:=aT _ (by omega);rw[bD]at this;omega
  rw[aK,jz k];simp only[bb,aR];have g:(i*R.sz+j)%zs.length=j:=by rw[f,Nat.mul_comm,Nat.mul_add_mod];exact Nat.mod_eq_of_lt (by omega)
  rw[g,List.getD,q];rfl
 ·cases h
theorem kg.mk{α:Type}{R:k6 α}(O:ki R)(lO:kf X.P tt)(z:α){i:Nat}{lK:List Nat}{o:lW}{t:lS}{j u:TD}{x y:lV}{d:Nat}{k k':lY}{l c:Int}{xs:List α}
    (v:Vj z l c=some xs) (ho:ops[i]?=some o) (hg:Y3 ops s.L o=some true) (hop:o.op=.makeSlice t x y) (hd:o.dst=some d) (ht:Yg tt t=some j) (q:Yg tt j.el=some u)
    (S:Yr s.L x=some (.c (.i k l))) (hy:Yr s.L y=some (.c (.i k' c))) (hk:QO O (Yg s.V) [z] u.z)
    (hc:(aO d X.fn.ntmps && aF j.kd 6 && aF j.es R.sz && aY j.eb 32768 && !u.z.isEmpty)=true)
    (kk:kg X ops lK lL ⟨(d,.c (.sl s.nx))::s.L,(s.nx,.own R xs true)::s.M,s.V,s.nx+1⟩):kg X ops (i::lK) lL s:=by
  refine kg.op ho hg (fun E F w a T=>?_) kk;simp only[Zc]at hc;obtain⟨⟨⟨⟨c1,c2⟩,U⟩,c4⟩,c5⟩:=hc;have U:=Zd U;have c4:=Ze c4;have⟨e1,_⟩:=T.eval S;have⟨e2,_⟩:=T.eval hy;unfold Vj at v;cases Y:(decide (0<=l) && decide (l<=c) && decide (c<=4294967296)) with
  |false=>rw[Y]at v;cases v
  |true=>
    rw[Y]at v;cases v;simp only[Zc,l8]at Y;obtain⟨⟨q0,q1⟩,q2⟩:=Y;have⟨ie,hu,r,A,heb,_⟩:=(lO.get ht).slc c2;have hz:(sizeOf j.el).run X.P w=.ok j.es w:=by simp[sizeOf,typeInfo,r,A]
    have⟨W,hzr,hzc⟩:=HI w (lO.get q);have hzl:u.z.length=j.es:=by have h1:=(lO.get q).2.2.2;have⟨i',z',C,hs',_⟩:=(lO.get q).info;rw[r]at C;cases C;rw[h1,<-hs',A]
    have D:u.z≠[]:=by intro h;rw[h]at c5;simp at c5
    have hcc:(c.toNat:Int)=c:=Int.toNat_of_nonneg (by omega);have G:(lT a.eval o).run X.P w=.ok (.value (.slice (some ⟨w.heap.size,0,none⟩) l.toNat c.toNat)) (w.alloc (.cells ((fg (c.toNat*j.es)).map (W.cells[· % W.cells.size]!)) j.el)):=by
      simp only[lT,hop,e1,e2,Yt,Yn];refine Xe ?_;have w1:bG.wrap l=l:=Tf q0 (by omega);have w2:bG.wrap c=c:=Tf (by omega) q2;have hmul:(j.eb:Int)*c<=32768*4294967296:=Int.mul_le_mul (by omega) q2 (by omega) (by omega);have n1:¬ c<0:=by omega
      have n2:¬ l<0:=by omega
      have n3:¬ c<l:=by omega
      have n4:¬ (2:Int) ^ 48<(j.eb:Int)*c:=by omega
      have n5:¬ roomBytes<c.toNat*j.eb:=by
        have:((c.toNat*j.eb:Nat):Int)=c*j.eb:=by rw[Int.natCast_mul,hcc]
        have h3:c*(j.eb:Int)=j.eb*c:=Int.mul_comm _ _;show ¬ 2 ^ 47<c.toNat*j.eb;omega
      have hti:(typeInfo j.el).run X.P w=.ok ie w:=by simp[typeInfo,r]
      simp only[Instr.makeSlice,aG,Xl hu,aD,asInt,asIntOf,aJ,hti,heb,w1,w2];simp only[n1,n2,n3,n4,decide_false,Bool.or_false,Bool.or_self,gt_iff_lt,cM,mC,askRoom,n5,aJ,aG,aD,hz];by_cases Z:c.toNat*j.es=0
      · have key:∀f:Nat->lR,(fg (c.toNat*j.es)).map f=#[]:=by intro f;rw[Z];simp
        simp only[Z,mA,aJ,aD];rw[Z]at key;rw[key];simp[newRow];congr 2;apply Array.ext<;>simp
      · simp[Z,hzr,newRow]
    refine XD G ?_;have I:=LV O (E:=E) (F:=F) (w:=w) (fun k f h=>T.hV k f h) hk;have K:=Zea (hzc E) (c.toNat*j.es) (.inr D);have N:l.toNat<=c.toNat:=by omega
    have S:=T.newRow (R:=R) (xs:=aQ l.toNat z) (arr:=(fg (c.toNat*j.es)).map (W.cells[· % W.cells.size]!)) (ty:=j.el) (cap:=c.toNat)
      (fun w' g=>Znk (I.mono g) c.toNat (by rw[<-U];exact K) l.toNat N) (by simpa using N) (by simp[U]) (d:=d) (Y9 c1) (w2:=w.alloc _) rfl rfl rfl .m
    rw[List.length_replicate]at S;rw[hd];exact S
end
section keys
def SC.kp(p:Nat->Bool):SC->Bool
 | .sl k | .bp k _ | .px k _ | .sp k _ _ _=>p k
 | .cl _ fs ks=>fs.all p && ks.all p
 |_=>true
def SV.kp(p:Nat->Bool):SV->Bool
 | .c x=>x.kp p
 | .a cs=>cs.all (SC.kp p)
 | .t vs=>vs.all fun v=>match v with | .inl x=>SC.kp p x | .inr cs=>cs.all (SC.kp p)
 | .u=>true
def VF.kp(p:Nat->Bool):VF->Bool
 | .pl cs=>cs.all (SC.kp p)
 | .el k _ | .vw k _ _ _=>p k
 |_=>true
def MO.kp(p:Nat->Bool):MO->Bool
 | .box cs _=>cs.all (SC.kp p)
 |_=>true
def lC.Eqp(p:Nat->Bool)(E E':lC):Prop:=∀k,p k=true->E'.ρ k=E.ρ k/\E'.β k=E.β k
variable {p:Nat->Bool}{E E':lC}
theorem Zjb(h:E.Eqp p E'){c:List Nat}(d:c.all p=true):WX E' c=WX E c:=by unfold WX;rw[bK fun k f=>by rw[(h k (aH.1 d k f)).2]]
theorem ZaS(h:E.Eqp p E'):∀ {x:SC},x.kp p=true->Yn E' x=Yn E x
 | .sl k,hx=>(h k hx).1
 | .bp k o,hx=>by simp[Yn,(h k hx).2]
 | .px k o,hx=>by simp[Yn,(h k hx).1]
 | .sp k _ _ _,hx=>by simp only[Yn,(h k hx).1,(h k hx).2]
 | .cl f fs ks,hx=>by
  simp only[SC.kp,Zc]at hx;simp only[Yn,Zjb h hx.1,Zjb h hx.2]
 | .i _ _,_ | .b _,_ | .s _,_ | .v _,_ | .nil,_=>rfl
theorem ZeY(h:E.Eqp p E'){cs:List SC}(c:cs.all (SC.kp p)=true):cs.map (Yn E')=cs.map (Yn E):=
 bK fun x d=>ZaS h (aH.1 c x d)
theorem Zpc(h:E.Eqp p E'):∀ {x:SV},x.kp p=true->Yt E' x=Yt E x
 | .c _,hx=>ZaS h hx
 | .a cs,hx=>by simp only[Yt,ZeY h hx]
 | .t vs,hx=>by
  simp only[Yt];have:vs.map (Sh E')=vs.map (Sh E):=bK fun v f=>by
   have d:=aH.1 hx v f;cases v with
   |inl x=>exact ZaS h d
   |inr cs=>simp only[Sh,ZeY h d]
  rw[this]
 | .u,_=>rfl
theorem VF.ok.eqp(h:E.Eqp p E'){F w v}:∀ {f:VF},f.kp p=true->f.ok E F w v->f.ok E' F w v
 | .sl _ _,_,hf=>hf
 | .pl cs,hk,⟨b,off,arr,ty,fz,hv,hF,hh,hx⟩=>⟨b,off,arr,ty,fz,hv,hF,hh,fun j x c=>by
   rw[ZaS h (aH.1 hk x (Zb c))];exact hx j x c⟩
 | .el k j,hk,hf=>by show _=WW (E'.ρ k) j/\_;rw[(h k hk).1];exact hf
 | .vw k l h' sz,hk,hf=>by show _=XN l h' sz (E'.ρ k);rw[(h k hk).1];exact hf
 | .fn _,_,hf=>hf
theorem MO.ok.eqp(h:E.Eqp p E'){F w}{k:Nat}(c:p k=true):∀ {m:MO},m.kp p=true->m.ok E F w k->m.ok E' F w k
 | .box cs t,hm,h'=>by
  show w.heap[E'.β k]?=_;rw[(h k c).2,ZeY h hm];exact h'
 | .own _ _ _,_,h'=>by show kh _ _ _ _ (E'.ρ k);rw[(h k c).1];exact h'
 | .abs _,_,h'=>h'
 | .buf _ _,_,h'=>by show kq _ _ _ (E'.ρ k);rw[(h k c).1];exact h'
 | .av A,_,h'=>by show A.ok _ _ (E'.ρ k);rw[(h k c).1];exact h'
 | .gone,_,_=>trivial
theorem MO.fp_eqp(h:E.Eqp p E'){k:Nat}(c:p k=true):∀ {m:MO} {b:Nat},m.fp E' k b↔m.fp E k b
 | .box _ _,b=>by simp only[MO.fp];rw[(h k c).2]
 | .own _ _ _,b=>by simp only[MO.fp];rw[(h k c).1]
 | .abs _,_=>fv
 | .buf _ _,b=>by simp only[MO.fp];rw[(h k c).1]
 | .av _,b=>by simp only[MO.fp];rw[(h k c).1]
 | .gone,_=>fv
variable {n:Nat}
theorem SC.kp_of_kb(h:∀k,k<n->p k=true):∀ {x:SC},x.kb n->x.kp p=true
 | .sl k,hx | .bp k _,hx | .px k _,hx | .sp k _ _ _,hx=>h k hx
 | .cl f fs ks,hx=>by simp only[SC.kp,Zc,aH];exact⟨fun k c=>h k (hx.1 k c),fun k c=>h k (hx.2 k c)⟩
 | .i _ _,_ | .b _,_ | .s _,_ | .v _,_ | .nil,_=>rfl
theorem SV.kp_of_kb(h:∀k,k<n->p k=true):∀ {x:SV},x.kb n->x.kp p=true
 | .c _,hx=>SC.kp_of_kb h hx
 | .a cs,hx=>aH.2 fun x d=>SC.kp_of_kb h (hx x d)
 | .t vs,hx=>aH.2 fun v d=>by
  have:=hx v d;cases v with
  |inl x=>exact SC.kp_of_kb h this
  |inr cs=>exact aH.2 fun x d=>SC.kp_of_kb h (this x d)
 | .u,_=>rfl
theorem VF.kp_of_kb(h:∀k,k<n->p k=true):∀ {x:VF},x.kb n->x.kp p=true
 | .pl cs,hx=>aH.2 fun x c=>SC.kp_of_kb h (hx x c)
 | .el k _,hx | .vw k _ _ _,hx=>h k hx
 | .sl _ _,_ | .fn _,_=>rfl
theorem MO.kp_of_kb(h:∀k,k<n->p k=true):∀ {x:MO},x.kb n->x.kp p=true
 | .box cs _,hx=>aH.2 fun x c=>SC.kp_of_kb h (hx x c)
 | .own _ _ _,_ | .abs _,_ | .buf _ _,_ | .av _,_ | .gone,_=>rfl
theorem SC.kp_mono{q:Nat->Bool}(h:∀k,p k=true->q k=true):∀ {x:SC},x.kp p=true->x.kp q=true
 | .sl k,hx | .bp k _,hx | .px k _,hx | .sp k _ _ _,hx=>h k hx
 | .cl f fs ks,hx=>by
  simp only[SC.kp,Zc,aH]at hx ⊢;exact⟨fun k c=>h k (hx.1 k c),fun k c=>h k (hx.2 k c)⟩
 | .i _ _,_ | .b _,_ | .s _,_ | .v _,_ | .nil,_=>rfl
theorem SCs.kp_mono{q:Nat->Bool}(h:∀k,p k=true->q k=true){cs:List SC}(c:cs.all (SC.kp p)=true):cs.all (SC.kp q)=true:=
 aH.2 fun x d=>SC.kp_mono h (aH.1 c x d)
theorem SV.kp_mono{q:Nat->Bool}(h:∀k,p k=true->q k=true):∀ {x:SV},x.kp p=true->x.kp q=true
 | .c _,hx=>SC.kp_mono h hx
 | .a cs,hx=>SCs.kp_mono h hx
 | .t vs,hx=>aH.2 fun v d=>by
  have:=aH.1 hx v d;cases v with
  |inl x=>exact SC.kp_mono h this
  |inr cs=>exact SCs.kp_mono h this
 | .u,_=>rfl
theorem VF.kp_mono{q:Nat->Bool}(h:∀k,p k=true->q k=true):∀ {x:VF},x.kp p=true->x.kp q=true
 | .pl cs,hx=>SCs.kp_mono h hx
 | .el k _,hx | .vw k _ _ _,hx=>h k hx
 | .sl _ _,_ | .fn _,_=>rfl
theorem MO.kp_mono{q:Nat->Bool}(h:∀k,p k=true->q k=true):∀ {x:MO},x.kp p=true->x.kp q=true
 | .box cs _,hx=>SCs.kp_mono h hx
 | .own _ _ _,_ | .abs _,_ | .buf _ _,_ | .av _,_ | .gone,_=>rfl
end keys
structure Ent:Type 1 where
 L:List (Nat×SV)
 V:List (Nat×VF)
 W:List (Nat×MO)
 R:List (Nat×MO)
 k0:Nat
 dL:List (Nat×SV)
 dV:List (Nat×VF)
 dM:List (Nat×MO)
 k1:Nat
@[reducible] def Ent.s (e:Ent):St:=⟨e.L,e.W++e.R,e.V,e.k0⟩
@[reducible] def Ent.s' (e:Ent):St:=⟨e.dL,e.dM++e.R,e.dV,e.k1⟩
@[reducible] def lB.var (X:lB) (nk:Nat) (E0:lC) (F0:YJ) (w0:lQ) (n0:Nat) (Z:YJ):lB:={ X with nk:=nk,E0:=E0,F0:=F0,w0:=w0,n0:=n0,Z:=Z }
theorem Oper.wp_put{o:lW}{a:lZ}{K:lZ->lQ->Prop}{Q:Exit->lZ->lQ->Prop}(h:o.wp P a w K Q) :
  o.wp P a w (fun j w'=>K j w'/\((∃v,j=a.put o.dst v)\/∃d,j.defers=d::a.defers)) Q:=by
 unfold Oper.wp at *;generalize (lT a.eval o).run P w=r at *;cases r with
 |ok n w'=>
  cases n<;>simp only[Oper.upon]at h ⊢
  case value u=>exact⟨h,.inl ⟨u,rfl⟩⟩
  case skip=>exact⟨h,.inl ⟨undef,rfl⟩⟩
  case defer d=>exact⟨h,.inr ⟨d,by rw[Zf5]⟩⟩
  case enter f args=>
   refine Calls.mono h fun e k g=>?_
   cases e with
   |returned u=>exact⟨g,.inl ⟨u,rfl⟩⟩
   |panicked c=>exact g
   |outgrown=>exact g
  case row row args=>exact Rows.mono h fun u k g=>⟨g,.inl ⟨u,rfl⟩⟩
 |halt x w'=>
  cases x<;>simp only[Oper.upon]at h ⊢
  case panic u=>exact h
section
variable {X:lB}{s:St}{E:lC}{F:YJ}{w:lQ}{a:lZ}{o:lW}{e:Ent}
theorem Zth{a:lZ}{x:Option Tmp}{u:lR}{d:Nat}(h:x≠some d):(a.put x u).tmps[d]?=a.tmps[d]?:= by
 cases x with
 |none=>rfl
 |some c=>have:c≠d:=fun e=>h (by rw[e]);simp[Act.put,this]
theorem Zpi{d:Nat}(c:e.dL.map (·.1)=o.dst.toList)(h:Yg e.dL d=none):o.dst≠some d:=fun f=>by rw[f]at c;simp only[kK]at c;have⟨q,g,j⟩:=aM.1 (show d∈e.dL.map (·.1) by rw[c];simp);exact Zbq h q.2 (by rw[<-j];exact g)
theorem LS.frame(c:ky X s E F w a)(hd:e.dL.map (·.1)=o.dst.toList)
    (st:∀nk E0 F0 w0 n0 Z E F w a,ky (X.var nk E0 F0 w0 n0 Z) e.s E F w a->o.wp X.P a w (fun a' w'=>∃E' Y,ky (X.var nk E0 F0 w0 n0 Z) e.s' E' Y w' a') (fun _ _ _=>False))
    (wf:e.s.Wf) (nL:∀d v,Yg e.L d=some v->Yg s.L d=some v) (nV:∀k f,Yg e.V k=some f->Yg s.V k=some f)
    (N:∀k m,Yg (e.W++e.R) k=some m->Yg s.M k=some m) (hW:∀k,Yg e.dM k=none->Yg e.W k=none)
    (hk0:X.nk<=e.k0) (hk:e.k0<=e.k1) (G:e.k1<=s.nx) {p:Nat->Bool} (hp:∀k,p k=true->¬ (e.k0<=k/\k<e.k1))
    (pL:∀d v,Yg s.L d=some v->v.kp p=true) (pM:∀k m,Yg s.M k=some m->p k=true/\m.kp p=true) (pV:∀k f,Yg s.V k=some f->p k=true/\f.kp p=true) :
    o.wp X.P a w (fun a' w'=>∃E' Y,ky X ⟨e.dL++s.L,e.dM++s.M,e.dV++s.V,s.nx⟩ E' Y w' a') (fun _ _ _=>False):=by
  let Z':YJ:=fun b=>X.Z b\/F b\/∃k m,Yg s.M k=some m/\Yg (e.W++e.R) k=none/\m.fp E k b
  have h1:ky (X.var e.k0 E F w X.n0 Z') e.s E F w a:={
    wf:=wf
    nk:=Zq _
    defers:=c.defers
    size:=c.size
    hL:=fun d v h=>c.hL d v (nL d v h)
    hV:=fun k f h=>c.hV k f (nV k f h)
    hM:=fun k m h=>c.hM k m (N k m h)
    dis:=fun k r m m' h q=>c.dis k r m m' (N k m h) (N r m' q)
    mF:=fun k m h b l=>by
      have K:=c.mF k m (N k m h) b l;refine⟨K.1,?_,K.2.2⟩;rintro (z|z|⟨r,m',D,h4,h5⟩)
      · exact K.2.1 z
      · exact K.1 z
      · refine c.dis k r m m' (N k m h) D (fun hkk=>?_) b l h5;subst hkk;have hh:Yg (e.W++e.R) k=some m:=h;rw[h4]at hh;cases hh
    fresh:=fun k m h=>c.fresh k m (N k m h)
    hF:=c.hF
    hF0:=fun _ h=>h
    hF1:=fun _ h=>.inl h
    hn0:=bV c.hn0 c.ext.size
    hZ:=fun b z=>by
      rcases z with z|z|⟨r,m',D,h4,h5⟩
      · exact Zh (c.hZ b z) c.ext.size
      · exact c.hF b z
      · exact (c.mF r m' D b h5).2.2
    ext:=Ext.refl _ _
    link:=lC.Eqb.refl _ _
    one:=c.one }
  refine Oper.wp_mono (fun a' w' hq=>?_) (Oper.wp_put (st _ _ _ _ _ _ E F w a h1));obtain⟨⟨E',Y,j⟩,hput⟩:=hq;have O:∃v,a'=a.put o.dst v:=by
    rcases hput with h|⟨d,h⟩
    · exact h
    · rw[j.defers,c.defers]at h;exact absurd (mG List.length h) (by simp)
  obtain⟨u,rfl⟩:=O
  let E2:lC:=⟨fun k=>if e.k0<=k/\k<e.k1 then E'.ρ k else E.ρ k,fun k=>if e.k0<=k/\k<e.k1 then E'.β k else E.β k⟩
  have q1:E.Eqp p E2:=fun k hk=>by have:=hp k hk;simp only[E2,mE this,and_self]
  have S:E.Eqb e.k0 E':=j.link;have q2:E'.Eqb e.k1 E2:=fun k hk=>by
    by_cases hc:e.k0<=k/\k<e.k1
    · simp only[E2,mD hc,and_self]
    · have:=S k (by omega);simp only[E2,mE hc,this,and_self]
  have A:Ext Z' w w':=j.ext;have g:X3 F w Y w':=⟨j.hF0,fun b l=>A.block b (.inr (.inl l))⟩
  have T:∀k m,Yg (e.dM++s.M) k=some m->Yg (e.dM++e.R) k=some m\/(Yg s.M k=some m/\Yg (e.W++e.R) k=none):=fun k m h=>by
    rw[Wi]at h ⊢;cases hd:Yg e.dM k with
    |some x=>rw[hd]at h;exact .inl h
    |none=>
      rw[hd]at h;simp only[]at h ⊢;have hw:=hW k hd;cases hr:Yg e.R k with
      |some y=>
        have:=N k y (by rw[Wi,hw];exact hr);rw[h]at this;exact .inl this.symm
      |none=>exact .inr ⟨h,by rw[Wi,hw];exact hr⟩
  have fA:∀k m,Yg (e.dM++e.R) k=some m->∀b,m.fp E2 k b->m.fp E' k b:=fun k m h b l=>(MO.fp_eqb q2 (j.wf.hM k m h).1).1 l;have U:∀k m,Yg s.M k=some m->∀b,m.fp E2 k b->m.fp E k b:=fun k m h b l=>(MO.fp_eqp q1 (pM k m h).1).1 l;refine⟨E2,Y,?_⟩;exact {
    wf:=⟨fun d v h=>by
        rw[Wi]at h;split at h
        · rename_i x C;cases h;exact (j.wf.hL d _ C).mono G
        · exact c.wf.hL d v h,fun k m h=>by
        rcases T k m h with h|⟨h,_⟩
        · exact⟨Zh (j.wf.hM k m h).1 G,(j.wf.hM k m h).2.mono G⟩
        · exact c.wf.hM k m h,fun k f h=>by
        rw[Wi]at h;split at h
        · rename_i x C;cases h;exact⟨Zh (j.wf.hV k _ C).1 G,(j.wf.hV k _ C).2.mono G⟩
        · exact c.wf.hV k f h⟩
    nk:=c.nk
    defers:=j.defers
    size:=j.size
    hL:=fun d v h=>by
      rw[Wi]at h;split at h
      · rename_i x C;cases h;rw[Dh q2 (j.wf.hL d _ C)];exact j.hL d _ C
      · rename_i C;rw[Zth (Zpi hd C),Zpc q1 (pL d v h)];exact c.hL d v h
    hV:=fun k f h=>by
      rw[Wi]at h;split at h
      · rename_i x C;cases h;have:=(j.hV k _ C).eqb q2 (j.wf.hV k _ C).2;rw[(q2 k (j.wf.hV k _ C).1).1];exact this
      · have:=((c.hV k f h).mono g).eqp q1 (pV k f h).2;rw[(q1 k (pV k f h).1).1];exact this
    hM:=fun k m h=>by
      rcases T k m h with h|⟨h,q⟩
      · exact (j.hM k m h).eqb q2 (j.wf.hM k m h).1 (j.wf.hM k m h).2
      · exact ((c.hM k m h).mono g fun b l=>A.block b (.inr (.inr ⟨k,m,h,q,l⟩))).eqp q1 (pM k m h).1 (pM k m h).2
    dis:=fun k r m m' h q hne b l I=>by
      rcases T k m h with h|⟨h,g1⟩
      · rcases T r m' q with q|⟨q,g2⟩
        · exact j.dis k r m m' h q hne b (fA k m h b l) (fA r m' q b I)
        · exact (j.mF k m h b (fA k m h b l)).2.1 (.inr (.inr ⟨r,m',q,g2,U r m' q b I⟩))
      · rcases T r m' q with q|⟨q,g2⟩
        · exact (j.mF r m' q b (fA r m' q b I)).2.1 (.inr (.inr ⟨k,m,h,g1,U k m h b l⟩))
        · exact c.dis k r m m' h q hne b (U k m h b l) (U r m' q b I)
    mF:=fun k m h b l=>by
      rcases T k m h with h|⟨h,g1⟩
      · have:=j.mF k m h b (fA k m h b l);exact⟨this.1,fun z=>this.2.1 (.inl z),this.2.2⟩
      · have K:=c.mF k m h b (U k m h b l);refine⟨fun hF'=>?_,K.2.1,Zh K.2.2 A.size⟩;rcases j.hF1 b hF' with D|D
        · exact K.1 D
        · exact D.2 (.inr (.inr ⟨k,m,h,g1,U k m h b l⟩))
    fresh:=fun k m h hf b l=>by
      rcases T k m h with h|⟨h,g1⟩
      · exact j.fresh k m h hf b (fA k m h b l)
      · exact c.fresh k m h hf b (U k m h b l)
    hF:=j.hF
    hF0:=fun b l=>j.hF0 b (c.hF0 b l)
    hF1:=fun b l=>by
      rcases j.hF1 b l with D|D
      · exact c.hF1 b D
      · exact .inr ⟨D.1,fun z=>D.2 (.inl z)⟩
    hn0:=c.hn0
    hZ:=c.hZ
    ext:=c.ext.trans (A.mono fun _ z=>.inl z)
    link:=c.link.trans fun k hk=>by
      have:¬ (e.k0<=k/\k<e.k1):=by omega
      simp only[E2,mE this,and_self]
    one:=fun k=>by
      simp only[E2];split
      · exact j.one k
      · exact c.one k }
theorem LS.skipped(g:ky X s E F w a)(c:e.dL.map (·.1)=o.dst.toList)(l:∀d v,(d,v)∈e.dL->v=.u/\d<X.fn.ntmps)(m:e.dM=[])(x:e.dV=[]) :
    ky X ⟨e.dL++s.L,e.dM++s.M,e.dV++s.V,s.nx⟩ E F w (a.put o.dst undef):=by
  rw[m,x];cases j:o.dst with
  |none=>
    rw[j]at c;simp only[Option.toList_none,j7]at c;rw[c];exact g
  |some d=>
    rw[j]at c;simp only[kK]at c;obtain⟨q,h⟩:∃q,e.dL=[q]:=by
      cases k:e.dL with
      |nil=>rw[k]at c;cases c
      |cons q r=>rw[k]at c;simp only[aI,bH,j7]at c;exact⟨q,by rw[c.2]⟩
    have⟨y,v⟩:=q;obtain⟨rfl,f⟩:=l y v (by rw[h];simp);rw[h]at c ⊢;simp only[aI,au,bH,and_true]at c;subst c;exact g.setL (v:=.u) trivial f
end
def LS(X:lB)(ops:Array lW)(i:Nat)(e:Ent):Prop:=∃o,ops[i]?=some o/\e.dL.map (·.1)=o.dst.toList /\
  ((Y3 ops e.L o=some true/\∀nk E0 F0 w0 n0 Z E F w a,ky (X.var nk E0 F0 w0 n0 Z) e.s E F w a ->
      o.wp X.P a w (fun a' w'=>∃E' F',ky (X.var nk E0 F0 w0 n0 Z) e.s' E' F' w' a') (fun _ _ _=>False)) \/
   (Y3 ops e.L o=some false/\(∀d v,(d,v)∈e.dL->v=.u/\d<X.fn.ntmps)/\e.dM=[]/\e.dV=[]))
section
variable {α:Type _}{dl:Nat->List (Nat×α)}{dn dn':Nat->Bool}{b:List (Nat×α)}
def WE(dl:Nat->List (Nat×α))(dn:Nat->Bool)(b:List (Nat×α)):Nat->List (Nat×α)
 |0=>b
 |j+1=>bif dn j then dl j++WE dl dn b j else WE dl dn b j
theorem Q1{k:Nat}:∀ {n:Nat},(∀j,j<n->(Yg (dl j) k).isSome=true->dn j=dn' j)->Yg (WE dl dn b n) k=Yg (WE dl dn' b n) k
 |0,_=>rfl
 |n+1,h=>by
  have d:=Q1 (n:=n) fun j g=>h j (by omega);have f:=h n (by omega);simp only[WE];cases c:Yg (dl n) k with
  |some v=>
   rw[f (by rw[c];rfl)];cases dn' n
   ·exact d
   ·simp only[l9,Wi,c]
  |none=>
   cases dn n<;>cases dn' n<;>simp only[l9,lf,Wi,c,d]
theorem Zbp{i k:Nat}:∀ {n:Nat},i<n->dn i=false->(∀j,j≠i->dn' j=dn j)->dn' i=true ->
  ((Yg (dl i) k).isSome=true->∀j,i<j->j<n->(Yg (dl j) k).isSome=true->dn j=false)->Yg (WE dl dn' b n) k=Yg (dl i++WE dl dn b n) k
 |0,hi,_,_,_,_=>absurd hi (Nat.not_lt_zero _)
 |n+1,hi,h0,hne,h1,hlater=>by
  by_cases c:i=n
  ·subst c;have q:Yg (WE dl dn' b i) k=Yg (WE dl dn b i) k:=Q1 fun j g _=>hne j (by omega);simp only[WE,h0,h1,l9,lf,Wi,q]
  ·have h:=Zbp (k:=k) (n:=n) (by omega) h0 hne h1 fun l j g m=>hlater l j g (by omega);have r:=hne n (fun e=>c e.symm);simp only[WE,r];cases d:dn n with
   |false=>simp only[lf];exact h
   |true=>
    simp only[l9,Wi,h];cases x:Yg (dl n) k with
    |none=>rfl
    |some v=>
     cases f:Yg (dl i) k with
     |none=>rfl
     |some u=>
      have:=hlater (by rw[f];rfl) n (by omega) (by omega) (by rw[x];rfl);rw[d]at this;cases this
theorem Dz{k:Nat}{v:α}:∀ {n:Nat},Yg (WE dl dn b n) k=some v->Yg b k=some v\/∃j,j<n/\dn j=true/\Yg (dl j) k=some v
 |0,h=>.inl h
 |n+1,h=>by
  simp only[WE]at h;cases c:dn n with
  |false=>
   rw[c]at h;rcases Dz (n:=n) h with h|⟨j,g,d,f⟩
   ·exact .inl h
   ·exact .inr ⟨j,by omega,d,f⟩
  |true=>
   rw[c]at h;simp only[l9,Wi]at h;split at h
   ·rename_i x l;cases h;exact .inr ⟨n,by omega,c,l⟩
   ·rcases Dz (n:=n) h with h|⟨j,g,d,f⟩
    ·exact .inl h
    ·exact .inr ⟨j,by omega,d,f⟩
end
def Wr(anc:List Nat)(i j:Nat):Bool:=kW (anc.getD i 0) j
def QD(anc:List Nat):List Edge->Nat
 | []=>0
 |e::r=>bif du .any e then Nat.lor (Nat.lor (2 ^ e.on) (anc.getD e.on 0)) (QD anc r) else QD anc r
theorem Zex{anc:List Nat}{j:Nat}:∀ {l:List Edge},kW (QD anc l) j=true->∃e∈l,du .any e=true/\(j=e.on\/Wr anc e.on j=true)
 | [],h=>by simp[QD]at h
 |e::r,h=>by
  unfold QD at h;cases d:du .any e with
  |false=>
   rw[d]at h;have⟨x,f,g⟩:=Zex (l:=r) h;exact⟨x,Zi _ f,g⟩
  |true=>
   rw[d]at h;simp only[l9]at h;have c:kW ((2 ^ e.on ||| anc.getD e.on 0) ||| QD anc r) j=true:=h;rw[Nat.testBit_or,Nat.testBit_or,b7,b7]at c;rcases c with (c|c)|c
   ·exact⟨e,Zj,d,.inl (by rw[Nat.testBit_two_pow]at c;simpa using (lj c).symm)⟩
   ·exact⟨e,Zj,d,.inr c⟩
   ·have⟨x,f,g⟩:=Zex (l:=r) c;exact⟨x,Zi _ f,g⟩
def UG{α:Type _}(k:Nat)(l:List (Nat×α)):Bool:=l.any fun q=>aF q.1 k
def VZ{α:Type _}{β:Type _}(l:List (Nat×α))(r:List (Nat×β)):Bool:=l.any fun q=>UG q.1 r
variable {k:Nat}
theorem ZrS{α:Type _}{l:List (Nat×α)}(h:(Yg l k).isSome=true):UG k l=true:=by have⟨v,c⟩:=bC.1 h;exact cU.2 ⟨_,Xk c,by simp⟩
theorem ZrH{α:Type _}{l:List (Nat×α)}(h:UG k l=true):(Yg l k).isSome=true:=by
 cases f:Yg l k with
 |some _=>rfl
 |none=>
  have⟨q,c,d⟩:=cU.1 h;obtain rfl:=Zd d;exact absurd c (Zbq f q.2)
theorem Mk{α:Type _}{β:Type _}{l:List (Nat×α)}{r:List (Nat×β)}(h:(Yg l k).isSome=true)(g:(Yg r k).isSome=true):VZ l r=true:=by have⟨v,c⟩:=bC.1 h;exact cU.2 ⟨_,Xk c,ZrS g⟩
def Ent.sh(e f:Ent):Bool:=VZ e.L f.dL || VZ e.dL f.dL || VZ e.V f.dV || VZ e.dV f.dV || VZ e.W f.dM || VZ e.R f.dM || VZ e.dM f.dM
def ZjT:Ent:=⟨[],[],[],[],0,[],[],[],0⟩
section chk
variable (ops:Array lW)(lN:List Ent)(anc:List Nat)(XH nx:Nat)
def Xc(i:Nat):Ent:=lN.getD i ZjT
def Q7(i k:Nat):Bool:=aO k XH || (cO lN.length).any fun j=>(aF j i || Wr anc i j) && aY (Xc lN j).k0 k && aO k (Xc lN j).k1
def ZeK(i j:Nat):Bool:=aF i j || ((!((Xc lN i).sh (Xc lN j)) || Wr anc i j || Wr anc j i) && (aY (Xc lN i).k1 (Xc lN j).k0 || aY (Xc lN j).k1 (Xc lN i).k0))
def ZaG(i:Nat):Bool:=
  let e:=Xc lN i
  let p:=Q7 lN anc XH i
  Qj e.L (e.W++e.R) e.V e.k0 && aY XH e.k0 && aY e.k0 e.k1 && aY e.k1 nx && e.W.all (fun q=>UG q.1 e.dM) &&
    e.dL.all (fun q=>q.2.kp p) && e.dM.all (fun q=>p q.1 && q.2.kp p) && e.dV.all (fun q=>p q.1 && q.2.kp p) &&
    (match ops[i]? with
     |some o=>aF (anc.getD i 0) (QD anc o.after.toList) && o.after.toList.all (fun d=> !du .any d || aO d.on i)
     |none=>false)
def LU:Bool:=aF ops.size lN.length && aY XH nx && (cO lN.length).all fun i=>ZaG ops lN anc XH nx i && (cO lN.length).all fun j=>ZeK lN anc i j
def Hq(s:St):List (List (Option SV)×List (Option VF)×List (Option MO)):=(cO lN.length).map fun i=>
  let e:=Xc lN i
  (e.L.map fun q=>Yg (WE (fun j=>(Xc lN j).dL) (Wr anc i) s.L lN.length) q.1,
   e.V.map fun q=>Yg (WE (fun j=>(Xc lN j).dV) (Wr anc i) s.V lN.length) q.1,
   (e.W++e.R).map fun q=>Yg (WE (fun j=>(Xc lN j).dM) (Wr anc i) s.M lN.length) q.1)
def HV:List (List (Option SV)×List (Option VF)×List (Option MO)):=(cO lN.length).map fun i=>
 let e:=Xc lN i
 (e.L.map fun q=>some q.2,e.V.map fun q=>some q.2,(e.W++e.R).map fun q=>some q.2)
def Vo(s:St)(dn:Nat->Bool):St:=
 ⟨WE (fun j=>(Xc lN j).dL) dn s.L lN.length,WE (fun j=>(Xc lN j).dM) dn s.M lN.length,WE (fun j=>(Xc lN j).dV) dn s.V lN.length,nx⟩
end chk
inductive AllLS (X:lB) (ops:Array lW):Nat->List Ent->Prop
 |nil {i:Nat}:AllLS X ops i []
 |cons {i:Nat} {e:Ent} {r:List Ent} (h:LS X ops i e) (k:AllLS X ops (i+1) r):AllLS X ops i (e::r)
theorem AllLS.get{ops:Array lW}:∀ {l:List Ent} {i:Nat},AllLS X ops i l->∀j,j<l.length->LS X ops (i+j) (Xc l j)
 |_::_,i,.cons h k,0,_=>h
 |_::r,i,.cons h k,j+1,hj=>by have:=k.get j (by simpa using hj);rw[show i+(j+1)=i+1+j by omega];exact this
def Xz(dn:Nat->Bool):Nat->Nat
 |0=>0
 |j+1=>Xz dn j+(bif dn j then 0 else 1)
theorem Ziw{dn:Nat->Bool}:∀ {n:Nat},Xz dn n=0->∀j,j<n->dn j=true
 |0,_,j,hj=>absurd hj (Nat.not_lt_zero _)
 |n+1,h,j,hj=>by
  simp only[Xz]at h;by_cases e:j=n
  ·subst e;cases c:dn j with
   |true=>rfl
   |false=>rw[c]at h;simp at h
  ·exact Ziw (n:=n) (by omega) j (by omega)
theorem Ziu{dn dn':Nat->Bool}:∀ {n:Nat},(∀j,j<n->dn' j=dn j)->Xz dn' n=Xz dn n
 |0,_=>rfl
 |n+1,h=>by simp only[Xz,Ziu (n:=n) fun j c=>h j (by omega),h n (by omega)]
theorem Zis{dn dn':Nat->Bool}{i:Nat}:∀ {n:Nat},i<n->dn i=false->dn' i=true->(∀j,j≠i->dn' j=dn j)->Xz dn' n+1=Xz dn n
 |0,h,_,_,_=>absurd h (Nat.not_lt_zero _)
 |n+1,hi,h0,h1,hne=>by
  simp only[Xz];by_cases e:i=n
  ·subst e;rw[Ziu (dn:=dn) (dn':=dn') fun j c=>hne j (by omega),h0,h1];rfl
  ·have:=Zis (n:=n) (by omega) h0 h1 hne;rw[hne n (fun h=>e h.symm)];omega
theorem ZeP{dn:Nat->Bool}:∀ {n:Nat},(∀j,j<n->dn j=false)->Xz dn n=n
 |0,_=>rfl
 |n+1,h=>by simp only[Xz,ZeP (n:=n) fun j c=>h j (by omega),h n (by omega)];rfl
theorem ky.weaken{s t:St}{E F w a}(c:ky X s E F w a)(f:t.nx=s.nx)(hL:∀d v,Yg t.L d=some v->Yg s.L d=some v)
  (hM:∀d v,Yg t.M d=some v->Yg s.M d=some v) (hV:∀d v,Yg t.V d=some v->Yg s.V d=some v):ky X t E F w a:={ c with
 wf:=⟨fun d v h=>f▸c.wf.hL d v (hL d v h),fun d v h=>f▸c.wf.hM d v (hM d v h),fun d v h=>f▸c.wf.hV d v (hV d v h)⟩
 nk:=f▸c.nk
 hL:=fun d v h=>c.hL d v (hL d v h)
 hV:=fun d v h=>c.hV d v (hV d v h)
 hM:=fun d v h=>c.hM d v (hM d v h)
 dis:=fun k g m m' h j=>c.dis k g m m' (hM k m h) (hM g m' j)
 mF:=fun k m h=>c.mF k m (hM k m h)
 fresh:=fun k m h=>c.fresh k m (hM k m h) }
theorem ky.same{s t:St}{E F w a}(c:ky X s E F w a)(f:t.nx=s.nx)(hL:∀d,Yg t.L d=Yg s.L d)(hM:∀d,Yg t.M d=Yg s.M d)(hV:∀d,Yg t.V d=Yg s.V d) :
  ky X t E F w a:=c.weaken f (fun d v h=>by rw[<-hL];exact h) (fun d v h=>by rw[<-hM];exact h) (fun d v h=>by rw[<-hV];exact h)
theorem Zj6{ops:Array lW}{L L':List (Nat×SV)}{o:lW}{t:Bool}(m:∀d v,Yg L d=some v->Yg L' d=some v)(h:Y3 ops L o=some t):Y3 ops L' o=some t:=by
 unfold Y3 at *;split
 ·rename_i c;rw[c]at h;exact h
 ·rename_i j l c;rw[c]at h;simp only[]at h;split
  ·rename_i q f;rw[f]at h;simp only[]at h;split
   ·rename_i d g;rw[g]at h;simp only[]at h;cases k:Yg L d with
    |none=>rw[k]at h;cases h
    |some v=>rw[k]at h;rw[m d v k];exact h
   ·rename_i g;rw[g]at h;exact h
  ·rename_i f;rw[f]at h;exact h
theorem Zj2{l:Array Bool}{i j:Nat}(hi:i<l.size):(l.setIfInBounds i true).getD j false=if j=i then true else l.getD j false:=by
 by_cases e:j=i
 ·subst e;simp[hi]
 ·rw[mE e];simp only[Array.getD_eq_getD_getElem?,Array.getElem?_setIfInBounds_ne (Ne.symm e)]
section
variable {X:lB}{ops:Array lW}{lN:List Ent}{anc:List Nat}{s:St}{nx:Nat}
theorem PX{α:Type _}(dl:Nat->List (Nat×α))(b:List (Nat×α)):∀n:Nat,WE dl (fun _=>false) b n=b
 |0=>rfl
 |n+1=>by simp only[WE,lf];exact PX dl b n
structure ZhE (ops:Array lW) (lN:List Ent) (anc:List Nat) (XH nx i:Nat):Prop where
 wf:(Xc lN i).s.Wf
 lo:XH<=(Xc lN i).k0
 le:(Xc lN i).k0<=(Xc lN i).k1
 hi:(Xc lN i).k1<=nx
 W:∀k,Yg (Xc lN i).dM k=none->Yg (Xc lN i).W k=none
 dL:∀d v,Yg (Xc lN i).dL d=some v->v.kp (Q7 lN anc XH i)=true
 dM:∀k m,Yg (Xc lN i).dM k=some m->Q7 lN anc XH i k=true/\m.kp (Q7 lN anc XH i)=true
 dV:∀k f,Yg (Xc lN i).dV k=some f->Q7 lN anc XH i k=true/\f.kp (Q7 lN anc XH i)=true
 edges:∃o,ops[i]?=some o/\(∀d∈o.after,du .any d=true->d.on<i) /\
  ∀j,Wr anc i j=true->∃d∈o.after,du .any d=true/\(j=d.on\/Wr anc d.on j=true)
variable {XH:Nat}
theorem ZoT{i:Nat}(h:ZaG ops lN anc XH nx i=true):ZhE ops lN anc XH nx i:=by
 unfold ZaG at h;simp only[Zc]at h;obtain⟨⟨⟨⟨⟨⟨⟨⟨r,y⟩,z⟩,A⟩,C⟩,D⟩,G⟩,I⟩,g⟩:=h;refine⟨ZbW r,Ze y,Ze z,Ze A,fun k u=>?_,fun d v c=>?_,fun k m c=>?_,fun k f c=>?_,?_⟩
 ·cases c:Yg (Xc lN i).W k with
  |none=>rfl
  |some v=>
   have:=ZrH (aH.1 C _ (Xk c));rw[u]at this;cases this
 ·exact aH.1 D _ (Xk c)
 ·have:=aH.1 G _ (Xk c)
  rwa [Zc]at this
 ·have:=aH.1 I _ (Xk c)
  rwa [Zc]at this
 ·split at g
  ·rename_i o K;rw[Zc]at g;refine⟨o,K,fun d l x=>?_,fun j q=>?_⟩
   ·have:=aH.1 g.2 d (by simpa using l);rw[x]at this;exact Y9 this
   ·unfold Wr at q;rw[Zd g.1]at q;have⟨d,l,r⟩:=Zex q;exact⟨d,by simpa using l,r⟩
  ·cases g
structure Chk (ops:Array lW) (lN:List Ent) (anc:List Nat) (XH nx:Nat):Prop where
 size:ops.size=lN.length
 nxle:XH<=nx
 E:∀i,i<lN.length->ZhE ops lN anc XH nx i
 sh:∀i j,i<lN.length->j<lN.length->i≠j->(Xc lN i).sh (Xc lN j)=true->Wr anc i j=true\/Wr anc j i=true
 rg:∀i j,i<lN.length->j<lN.length->i≠j->(Xc lN i).k1<=(Xc lN j).k0\/(Xc lN j).k1<=(Xc lN i).k0
theorem Zij(h:LU ops lN anc XH nx=true):Chk ops lN anc XH nx:=by
  unfold LU at h;rw[Zc,Zc]at h;obtain⟨⟨k,l⟩,m⟩:=h;have f:∀i j,i<lN.length->j<lN.length->ZaG ops lN anc XH nx i=true/\ZeK lN anc i j=true:=fun i j hi d=>by have:=aH.1 m i (cB.2 hi);rw[Zc]at this;exact⟨this.1,aH.1 this.2 j (cB.2 d)⟩
  refine⟨Zd k,Ze l,fun i hi=>ZoT (f i i hi hi).1,fun i j hi d c g=>?_,fun i j hi d c=>?_⟩;all_goals
    have:=(f i j hi d).2
    unfold ZeK at this
    rw[b7]at this
    rcases this with h|h
    · exact absurd (Zd h) c
    · rw[Zc,b7,b7,b7]at h
      first
        | (rcases h.1 with (h|h)|h
           · rw[g]at h;cases h
           · exact .inl h
           · exact .inr h)
        |exact h.2.imp Ze Ze
theorem Chk.anc_lt(c:Chk ops lN anc XH nx):∀(i:Nat),i<lN.length->∀j,Wr anc i j=true->j<i:=by
 intro i;induction i using Nat.strongRecOn with
 |_ i q=>
  intro hi j m;have⟨o,_,g,h⟩:=(c.E i hi).edges;have⟨d,k,l,f⟩:=h j m;have:=g d k l;rcases f with rfl|f
  ·exact this
  ·have:=q d.on this (by omega) j f;omega
theorem HL(e f:Ent)(h:VZ e.L f.dL=true\/VZ e.dL f.dL=true\/VZ e.V f.dV=true\/VZ e.dV f.dV=true\/VZ e.W f.dM=true\/VZ e.R f.dM=true\/VZ e.dM f.dM=true):e.sh f=true:=by unfold Ent.sh;rcases h with h|h|h|h|h|h|h<;>simp[h]
theorem Zit{dn:Nat->Bool}:∀ {n:Nat},(∀j,j<n->dn j=true)->Xz dn n=0
 |0,_=>rfl
 |n+1,h=>by simp only[Xz,Zit (n:=n) fun j c=>h j (by omega),h n (by omega)];rfl
theorem ZlD{t:Nat}{ops':Array lW}(ht:t<=1)(D:ops.size=lN.length+t)(hpx:∀i,i<lN.length->ops'[i]?=ops[i]?)
  (hT:∀i o,lN.length<=i->ops[i]?=some o->(∀d∈o.after,du .any d=true->d.on<lN.length)/\∀j,j<lN.length->∃d∈o.after,du .any d=true/\(d.on=j\/Wr anc d.on j=true))
  (hl:AllLS X ops 0 lN) (c:Chk ops' lN anc s.nx nx) (hN:Hq lN anc s=HV lN) (Z:s.Wf) (hnk:X.nk<=s.nx) {lL:lZ->lQ->Prop}
  (hend:∀E F w a,ky X (Vo lN nx s fun _=>true) E F w a->wpOps X.P ops (fun e a' w'=>e=.normal/\lL a' w') (cV lN.length t) a w) :
  ∀(m:Nat) (l:Array Bool) (E:lC) (F:YJ) (w:lQ) (a:lZ),l.size=ops.size->(∀j,lN.length<=j->l.getD j false=false)->(∀i,l.getD i false=true->∀j,Wr anc i j=true->l.getD j false=true) ->
   Xz (fun j=>l.getD j false) lN.length=m->ky X (Vo lN nx s fun j=>l.getD j false) E F w a->wpAny X.P .any ops (fun e a' w'=>e=.normal/\lL a' w') (m+t) l a w:=by
 have G:∀ {l:Array Bool} {i:Nat},l.getD i true=false->l.getD i false=false:=fun {l i} h=>by
  rcases ay i l.size with h'|h'
  ·simp[h']at h ⊢;exact h
  ·simp[h']at h
 have N:∀ {l:Array Bool} {i:Nat},i<l.size->l.getD i false=false->l.getD i true=false:=fun {l i} h' h=>by simp[h']at h ⊢;exact h
 have hall:∀ {l:Array Bool} {E F w a},l.size=ops.size->(∀j,lN.length<=j->l.getD j false=false)->(∀j,j<lN.length->l.getD j false=true)->ky X (Vo lN nx s fun j=>l.getD j false) E F w a ->
   wpAny X.P .any ops (fun e a' w'=>e=.normal/\lL a' w') t l a w:=fun {l E F w a} u O C hs=>by
  have hw:=hend E F w a (hs.same rfl (fun d=>Q1 fun j f _=>(C j f).symm) (fun d=>Q1 fun j f _=>(C j f).symm) (fun d=>Q1 fun j f _=>(C j f).symm));have hin:∀j,j∈jV .any ops l->lN.length<=j/\j<ops.size:=fun j f=>by have⟨h0,o,Y,_⟩:=mem_ready.1 f;refine⟨cv.1 fun h=>?_,(aW.1 Y).1⟩;have:=C j h;rw[G h0]at this;cases this
  match t,ht,D,hw with
  |0,_,D,hw=>exact⟨gQ.2 fun j f=>by have:=hin j f;omega,hw⟩
  |1,_,D,hw=>
   rw[show cV lN.length 1=[lN.length] from rfl,wpOps_cons]at hw
   have hlt:lN.length<ops.size:=by omega
   have Y:=Array.getElem?_eq_getElem hlt
   have⟨t1,t2⟩:=hT _ _ (Zq _) Y
   refine⟨fun hr=>?_,fun i hi=>?_⟩
   ·have:lN.length∈jV .any ops l:=mem_ready.2 ⟨N (by rw[u];exact hlt) (O _ (Zq _)),_,Y,fun d hdm z=>C d.on (t1 d hdm z)⟩
    rw[hr]at this;cases this
   ·obtain rfl:i=lN.length:=by have:=hin i hi;omega
    refine wpOp_mono (fun a' w' h=>⟨gQ.2 fun j f=>?_,h⟩) hw
    have⟨h0,o,ho',_⟩:=mem_ready.1 f
    have hj':=(aW.1 ho').1
    have h0:=G h0
    rw[Zj2 (by rw[u];exact hlt)]at h0
    split at h0
    ·cases h0
    ·rw[C j (by omega)]at h0;cases h0
 have hneed:∀i,i<lN.length ->
   (∀d v,Yg (Xc lN i).L d=some v->Yg (WE (fun j=>(Xc lN j).dL) (Wr anc i) s.L lN.length) d=some v) /\
   (∀d v,Yg (Xc lN i).V d=some v->Yg (WE (fun j=>(Xc lN j).dV) (Wr anc i) s.V lN.length) d=some v) /\
   (∀d v,Yg ((Xc lN i).W++(Xc lN i).R) d=some v->Yg (WE (fun j=>(Xc lN j).dM) (Wr anc i) s.M lN.length) d=some v):=fun i hi=>by have:=Uh hN i (cB.2 hi);simp only[Zr]at this;exact⟨fun d v h=>Uh this.1 _ (Xk h),fun d v h=>Uh this.2.1 _ (Xk h),fun d v h=>Uh this.2.2 _ (Xk h)⟩
 intro m;induction m with
 |zero=>
  intro l E F w a u O T hcnt hs;rw[aw];exact hall u O (Ziw hcnt) hs
 |succ m ih=>
  intro l E F w a u O T hcnt hs;rw[show m+1+t=m+t+1 by omega];have hdone:jV .any ops l=[]->∀j,j<lN.length->l.getD j false=true:=fun hr j=>by
   induction j using Nat.strongRecOn with
   |_ j ihj=>
    intro f;cases C:l.getD j false with
    |true=>rfl
    |false=>
     have⟨o,Y,q,_⟩:=(c.E j f).edges;rw[hpx j f]at Y;have:j∈jV .any ops l:=mem_ready.2 ⟨N (by rw[u,D];omega) C,o,Y,fun d hdm z=>ihj d.on (q d hdm z) (by have:=q d hdm z;omega)⟩;rw[hr]at this;cases this
  refine⟨fun hr=>?_,fun i hi=>?_⟩
  ·have:=hall u O (hdone hr) hs
   match t,ht,this with
   |0,_,h=>exact h.2
   |1,_,h=>exact h.1 hr
  ·have⟨h0,o,Y,hpre⟩:=mem_ready.1 hi;have r:i<lN.length:=by
    refine Nat.not_le.1 fun hge=>?_;have⟨_,t2⟩:=hT i o hge Y;have:Xz (fun j=>l.getD j false) lN.length=0:=Zit fun j f=>by
     have⟨d,C,z,e⟩:=t2 j f;rcases e with rfl|e
     ·exact hpre d C z
     ·exact T d.on (hpre d C z) j e
    omega
   have hil:i<l.size:=by rw[u,D];omega
   have I:=G h0;have ce:=c.E i r;have⟨o',ho',he1,he2⟩:=ce.edges;rw[hpx i r]at ho';obtain rfl:o'=o:=by rw[Y]at ho';exact (Zm ho').symm
   have hanc:∀j,Wr anc i j=true->l.getD j false=true:=fun j f=>by
    have⟨d,C,z,h3⟩:=he2 j f;have:=hpre d C z;rcases h3 with rfl|h3
    ·exact this
    ·exact T d.on this j h3
   -- who VZ anything with i has come up just if i waits for him
   have hsh:∀j,j<lN.length->(j=i\/(Xc lN i).sh (Xc lN j)=true)->l.getD j false=Wr anc i j:=fun j f h=>by
    by_cases e:j=i
    ·subst e;rw[I];cases z:Wr anc j j with
     |false=>rfl
     |true=>exact absurd (c.anc_lt j f j z) (bj _)
    ·rcases c.sh i j r f (Ne.symm e) (h.resolve_left e) with q|q
     ·rw[q,hanc j q]
     ·cases z:Wr anc i j with
      |true=>have:=c.anc_lt i r j z;have:=c.anc_lt j f i q;omega
      |false=>
       cases C:l.getD j false with
       |false=>rfl
       |true=>have:=T j C i q;rw[I]at this;cases this
   have A:∀j,i<j->j<lN.length->(Xc lN i).sh (Xc lN j)=true->l.getD j false=false:=fun j S f h=>by
    rw[hsh j f (.inr h)];cases z:Wr anc i j with
    |false=>rfl
    |true=>have:=c.anc_lt i r j z;omega
   have⟨n1,n2,n3⟩:=hneed i r;have nL:∀d v,Yg (Xc lN i).L d=some v->Yg (Vo lN nx s fun j=>l.getD j false).L d=some v:=fun d v h=>by rw[<-n1 d v h];exact Q1 fun j f g=>hsh j f (.inr (HL _ _ (.inl (Mk (by rw[h];rfl) g))))
   have nV:∀d v,Yg (Xc lN i).V d=some v->Yg (Vo lN nx s fun j=>l.getD j false).V d=some v:=fun d v h=>by rw[<-n2 d v h];exact Q1 fun j f g=>hsh j f (.inr (HL _ _ (.inr (.inr (.inl (Mk (by rw[h];rfl) g))))))
   have nM:∀d v,Yg ((Xc lN i).W++(Xc lN i).R) d=some v->Yg (Vo lN nx s fun j=>l.getD j false).M d=some v:=fun d v h=>by
    rw[<-n3 d v h];refine Q1 fun j f g=>hsh j f (.inr (HL _ _ (.inr (.inr (.inr (.inr ?_))))));rw[Wi]at h;split at h
    ·rename_i x hx;exact .inl (Mk (by rw[hx];rfl) g)
    ·exact .inr (.inl (Mk (by rw[h];rfl) g))
   let l':=l.setIfInBounds i true
   have y:∀j,l'.getD j false=if j=i then true else l.getD j false:=fun j=>Zj2 hil
   have hfr':∀j,lN.length<=j->l'.getD j false=false:=fun j f=>by rw[y,mE (by omega)];exact O j f
   have hcl':∀j,l'.getD j false=true->∀k,Wr anc j k=true->l'.getD k false=true:=fun j f k g=>by
    rw[y]at f ⊢;split
    ·rfl
    ·split at f
     ·rename_i e;subst e;exact hanc k g
     ·exact T j f k g
   have hcnt':Xz (fun j=>l'.getD j false) lN.length=m:=by have:=Zis (dn:=fun j=>l.getD j false) (dn':=fun j=>l'.getD j false) (n:=lN.length) r I (by simp only[y,mA]) (fun j f=>by simp only[y,mE f]);omega
   have hgo:∀ {E F w a},ky X ⟨(Xc lN i).dL++(Vo lN nx s fun j=>l.getD j false).L,(Xc lN i).dM++(Vo lN nx s fun j=>l.getD j false).M,
     (Xc lN i).dV++(Vo lN nx s fun j=>l.getD j false).V,nx⟩ E F w a->ky X (Vo lN nx s fun j=>l'.getD j false) E F w a:=fun {E F w a} hs'=>by
    refine hs'.same rfl (fun d=>?_) (fun d=>?_) (fun d=>?_)
    ·exact Zbp (dl:=fun j=>(Xc lN j).dL) r I (fun j f=>by simp only[y,mE f]) (by simp only[y,mA]) fun q j S f K=>A j S f (HL _ _ (.inr (.inl (Mk q K))))
    ·exact Zbp (dl:=fun j=>(Xc lN j).dM) r I (fun j f=>by simp only[y,mE f]) (by simp only[y,mA]) fun q j S f K=>A j S f (HL _ _ (.inr (.inr (.inr (.inr (.inr (.inr (Mk q K))))))))
    ·exact Zbp (dl:=fun j=>(Xc lN j).dV) r I (fun j f=>by simp only[y,mE f]) (by simp only[y,mA]) fun q j S f K=>A j S f (HL _ _ (.inr (.inr (.inr (.inl (Mk q K))))))
   have hLS:=hl.get i r;rw[aw]at hLS;have⟨o2,ho2,C,hst⟩:=hLS;obtain rfl:o2=o':=by rw[Y]at ho2;exact (Zm ho2).symm
   unfold wpOp;simp only[Y];rcases hst with⟨hg,hst⟩|⟨hg,hu,hm,hv⟩
   ·rw[S3 hs (Zj6 nL hg),mD rfl]
    let p:Nat->Bool:=fun k=> !(aY (Xc lN i).k0 k && aO k (Xc lN i).k1)
    have hp:∀k,p k=true->¬ ((Xc lN i).k0<=k/\k<(Xc lN i).k1):=fun k g hc=>by
     simp only[p,fF,eH]at g;rcases g with g|g
     ·rw[ai hc.1]at g;cases g
     ·unfold aO at g;rw[ai hc.2]at g;cases g
    have hp':∀k,¬ ((Xc lN i).k0<=k/\k<(Xc lN i).k1)->p k=true:=fun k g=>by
     simp only[p,fF,eH];by_cases q:(Xc lN i).k0<=k
     ·right;cases z:aO k (Xc lN i).k1 with
      |false=>rfl
      |true=>exact absurd ⟨q,Y9 z⟩ g
     ·left;cases z:aY (Xc lN i).k0 k with
      |false=>rfl
      |true=>exact absurd (Ze z) q
    have U:∀k,k<s.nx->p k=true:=fun k g=>hp' k fun hc=>by have:=ce.lo;omega
    have hpj:∀j,j<lN.length->l.getD j false=true->∀k,Q7 lN anc s.nx j k=true->p k=true:=fun j f hdj k g=>by
     unfold Q7 at g;rw[b7]at g;rcases g with g|g
     ·exact U k (Y9 g)
     ·have⟨j',hj',g⟩:=cU.1 g;have hj':=cB.1 hj';rw[Zc,Zc,b7]at g;obtain⟨⟨hk1,hk2⟩,hk3⟩:=g;have hdj':l.getD j' false=true:=by
       rcases hk1 with h|h
       ·rw[Zd h];exact hdj
       ·exact T j hdj j' h
      have hne:i≠j':=fun e=>by subst e;rw[I]at hdj';cases hdj'
      have:=c.rg i j' r hj' hne;have K:=Ze hk2;have h3:=Y9 hk3;exact hp' k fun hc=>by omega
    refine .inl (Oper.wp_imp (fun a' w' hq=>?_) (LS.frame hs C hst ce.wf nL nV nM ce.W (bV hnk ce.lo) ce.le ce.hi (p:=p) hp ?_ ?_ ?_))
    ·have⟨E',F',hs'⟩:=hq;exact ih l' E' F' w' a' (by simp[l',u]) hfr' hcl' hcnt' (hgo hs')
    ·intro d v h;rcases Dz h with h|⟨j,f,q,K⟩
     ·exact SV.kp_of_kb U (Z.hL d v h)
     ·exact SV.kp_mono (hpj j f q) ((c.E j f).dL d v K)
    ·intro d v h;rcases Dz h with h|⟨j,f,q,K⟩
     ·exact⟨U d (Z.hM d v h).1,MO.kp_of_kb U (Z.hM d v h).2⟩
     ·exact⟨hpj j f q d ((c.E j f).dM d v K).1,MO.kp_mono (hpj j f q) ((c.E j f).dM d v K).2⟩
    ·intro d v h;rcases Dz h with h|⟨j,f,q,K⟩
     ·exact⟨U d (Z.hV d v h).1,VF.kp_of_kb U (Z.hV d v h).2⟩
     ·exact⟨hpj j f q d ((c.E j f).dV d v K).1,VF.kp_mono (hpj j f q) ((c.E j f).dV d v K).2⟩
   ·rw[S3 hs (Zj6 nL hg),mE (by simp)];exact ih l' E F w _ (by simp[l',u]) hfr' hcl' hcnt' (hgo (LS.skipped hs C hu hm hv))
theorem ZtH(x:AllLS X ops 0 lN)(c:Chk ops lN anc s.nx nx)(y:Hq lN anc s=HV lN)(k:s.Wf)(m:X.nk<=s.nx){lL:lZ->lQ->Prop}
  (f:∀E F w a,ky X (Vo lN nx s fun _=>true) E F w a->lL a w) (d:Nat) (l:Array Bool) (E:lC) (F:YJ) (w:lQ) (a:lZ) (u:l.size=ops.size)
  (q:∀i,l.getD i false=true->∀j,Wr anc i j=true->l.getD j false=true) (g:Xz (fun j=>l.getD j false) lN.length=d) (r:ky X (Vo lN nx s fun j=>l.getD j false) E F w a) :
  wpAny X.P .any ops (fun e z w'=>e=.normal/\lL z w') d l a w:=
 ZlD (t:=0) (eP _) c.size (fun _ _=>rfl) (fun i o h A=>absurd (aW.1 A).1 (by rw[c.size];omega)) x c y k m (fun E F w a r=>⟨rfl,f E F w a r⟩) d l E F w a u
  (fun j v=>by rw[<-c.size,<-u]at v;simp[cv.2 v]) q g r
end
section
variable {X:lB}{ops:Array lW}{tt:List (Nat×TD)}{i:Nat}{e:Ent}
end
def Y7(s:be):List Int:=s.data.toList.map fun b=>(b.toNat:Int)
def Qf(l:List Int):be:=l.foldl (fun r n=>r.push (UInt8.ofNat n.toNat)) ao
theorem Se(s:be):(Y7 s).length=s.size:=by unfold Y7;rw[aN,aq];rfl
theorem ZtY{F:YJ}(k:lY)(l:List Int):kl (rI k) F w l (l.map (dP k)):=by
 refine⟨by rw[aN];exact (fh _).symm,fun i x d=>⟨[.int k x],rfl,fun j v c=>?_⟩⟩;cases j with
 |zero=>
  simp only[aX,aR]at c;subst c;show (l.map (dP k))[i*1+0]?=_;rw[fh,bu,aK,d];rfl
 |succ j=>simp at c
section
variable {X:lB}{s:St}{ops:Array lW}{lL:lZ->lQ->Prop}{tt:List (Nat×TD)}{E:lC}{F:YJ}{w:lQ}{a:lZ}
theorem Zuz{b:be}:Ur X s (rI .u8) (Y7 b) (.s b):=fun E F w a _=>by
 refine⟨(Y7 b).map (dP .u8),ZtY _ _,fun w'=>by simp[eA,Yn,Se],fun m w' c _=>?_,fun u d=>by obtain⟨n,_,rfl⟩:=aM.1 d;rfl⟩;rw[Se]at c;simp only[bQ,Yn,aJ];congr 1;apply eC;have f:(b.extract 0 m).data.toList=b.data.toList.take m:=by rw[ByteArray.data_extract,Array.toList_extract];simp[List.extract]
 rw[dY,f];show _=(List.take (m*1) _);rw[fh];simp only[Y7,fW,cG];rfl
variable {d i:Nat}{o:lW}{lK:List Nat}
theorem kg.val{v:SV}(c:∀E F w a,ky X s E F w a->(lT a.eval o).run X.P w=.ok (.value (Yt E v)) w/\v.kb s.nx)
  (g:ops[i]?=some o) (h:Y3 ops s.L o=some true) (j:o.dst=some d) (k:aO d X.fn.ntmps=true) (l:kg X ops lK lL ⟨(d,v)::s.L,s.M,s.V,s.nx⟩):kg X ops (i::lK) lL s:=by refine kg.op g h (fun E F w a f=>?_) l;have⟨m,q⟩:=c E F w a f;refine XD m ⟨E,F,?_⟩;rw[j];exact f.setL q (Y9 k)
variable {el t:Nat}{x y:lV}{α:Type}
theorem kg.ax(f:α->SC)(xs:List α){e:α}{len:Nat}{ik:lY}{n:Int}
    (hi:idx xs n=some e) (u:ops[i]?=some o) (v:Y3 ops s.L o=some true) (j:o.op=.index t x y) (z:o.dst=some d) (A:X.P.underlying t=some (.array len el))
    (m:(X.P.info? el).map (·.size)=some 1) (C:Wh X.P el=false) (k:(X.P.underlying el).isSome=true)
    (D:Yr s.L x=some (.a (xs.map f))) (G:xs.length=len) (I:Yr s.L y=some (.c (.i ik n))) (K:aO d X.fn.ntmps=true)
    (N:kg X ops lK lL ⟨(d,.c (f e))::s.L,s.M,s.V,s.nx⟩):kg X ops (i::lK) lL s:=by
  refine kg.val (fun E F w a q=>?_) u v z K N;have⟨O,R,r⟩:=VD hi;have⟨S,T⟩:=q.eval D;have⟨U,_⟩:=q.eval I;have⟨ds,l⟩:=bC.1 k;have g:f e∈xs.map f:=aM.2 ⟨e,Zb r,rfl⟩;refine⟨?_,T _ g⟩;simp only[lT,j,S,U,Yt,Yn];refine Xe ?_;have h:=ZbJ w l;rw[C]at h;have hz:(sizeOf el).run X.P w=.ok 1 w:=by rw[Zn]at m;have⟨W,Y,Z⟩:=m;simp[sizeOf,typeInfo,Y,Z]
  have hc:(0<=n/\n<(len:Int)):=⟨O,by rw[<-G];exact R⟩
  simp only[Instr.index,asIntOf,aG,aJ,aD,Xl A,hc,and_self,mA,hz,part,h,cM,mC,fh];have:(((xs.map f).map (Yn E)).toArray)[n.toNat]?=some (Yn E (f e)):=by simp[r]
  rw[this];rfl
variable {k:Nat}
theorem kg.axb(j:Nat){len es off:Nat}{ik:lY}{n:Int}
    (m:n=(j:Int)) (q:ops[i]?=some o) (r:Y3 ops s.L o=some true) (f:o.op=.indexAddr t x y) (u:o.dst=some d) (v:X.P.underlying t=some (.array len el))
    (h:(X.P.info? el).map (·.size)=some es) (g:aO j len=true)
    (z:Yr s.L x=some (.c (.bp k off))) (A:Yr s.L y=some (.c (.i ik n))) (C:aO d X.fn.ntmps=true)
    (D:kg X ops lK lL ⟨(d,.c (.bp k (off+j*es)))::s.L,s.M,s.V,s.nx⟩):kg X ops (i::lK) lL s:=by
  refine kg.val (fun E F w a l=>?_) q r u C D;have⟨G,I⟩:=l.eval z;have⟨K,_⟩:=l.eval A;refine⟨?_,I⟩;simp only[lT,f,G,K,Yt,Yn];refine Xe ?_;have S:(sizeOf el).run X.P w=.ok es w:=by rw[Zn]at h;have⟨N,O,R⟩:=h;simp[sizeOf,typeInfo,O,R]
  have:=Y9 g;subst m;have T:(0<=(j:Int)/\(j:Int)<(len:Int)):=⟨by omega,by omega⟩
  simp only[Instr.indexAt,asIntOf,aG,aJ,aD,Xl v,cx,T,and_self,mA,S,Ww,Int.toNat_natCast]
theorem kg.pnil(f:Bool){l off:Nat}
  (m:ops[i]?=some o) (r:Y3 ops s.L o=some true) (h:o.op=.binOp (bif f then .neq else .eql) t x y l) (u:o.dst=some d) (z:X.P.underlying t=some (.pointer el))
  (A:Yr s.L x=some (.c (.bp k off))) (C:Yr s.L y=some (.c (.v (.pointer none)))) (D:aO d X.fn.ntmps=true)
  (G:kg X ops lK lL ⟨(d,.c (.b f))::s.L,s.M,s.V,s.nx⟩):kg X ops (i::lK) lL s:=by
 refine kg.val (fun E F w a j=>?_) m r u D G;have⟨I,N⟩:=j.eval A;have⟨K,_⟩:=j.eval C;refine⟨?_,trivial⟩;simp only[lT,h,I,K,Yt,Yn];refine Xe ?_;have g:(dp t (.pointer (some ⟨E.β k,off,none⟩)) (.pointer none)).run X.P w=.ok false w:=by show (eQ (9999+1) t _ _).run X.P w=.ok false w;generalize 9999=q;simp only[eQ,aG,Xl z,aD,aJ]
 cases f with
 |false=>
  simp only[lf,eqGuard,aG,aJ,aD];show (do pure (eh (<-dp t _ _)):Sem lR).run X.P w=_;simp only[aG,g,aD,aJ]
 |true=>
  simp only[l9,eqGuard,aG,aJ,aD];show (do pure (eh (!(<-dp t _ _))):Sem lR).run X.P w=_;simp only[aG,g,aD,aJ,Bool.not_false]
theorem ky.moveM{m m':MO}{K:Nat}(z:ky X s E F w a)(y:Yg s.M k=some m)(A:Yg s.M K=none)(C:K<s.nx)(D:m'.ok E F w K)(G:m'.kb s.nx)
  (r:∀b,m'.fp E K b->m.fp E k b) (I:m'.isFresh=true->∀b,m'.fp E K b->X.n0<=b):ky X ⟨s.L,(K,m')::(k,.gone)::s.M,s.V,s.nx⟩ E F w a:=by
 have R:K≠k:=fun e=>by subst e;rw[y]at A;cases A
 have g:=z.drop y;have W:Yg ((k,MO.gone)::s.M) K=none:=by rw[YF,mE (Ne.symm R)];exact A
 exact { g with
  wf:=⟨g.wf.hL,fun j c h=>by
   rw[YF]at h;split at h
   ·rename_i e;cases h;subst e;exact⟨C,G⟩
   ·exact g.wf.hM j c h,g.wf.hV⟩
  hM:=fun j c h=>by
   rw[YF]at h;split at h
   ·rename_i e;cases h;subst e;exact D
   ·exact g.hM j c h
  dis:=fun j S T c u l v b f d=>by
   have key:∀q c,q≠K->Yg ((k,MO.gone)::s.M) q=some c->∀b,m'.fp E K b->¬ c.fp E q b:=fun q c Y h b f d=>by
    rw[YF]at h;split at h
    ·cases h;exact d
    ·rename_i N;exact z.dis k q m c y h N b (r b f) d
   rw[YF]at u l;split at u
   ·rename_i O;cases u;subst O;split at l
    ·rename_i x;exact v x
    ·rename_i x;exact key S c (Ne.symm x) l b f d
   ·rename_i O;split at l
    ·rename_i x;cases l;subst x;exact key j T (Ne.symm O) u b d f
    ·exact g.dis j S T c u l v b f d
  mF:=fun j c h b f=>by
   rw[YF]at h;split at h
   ·rename_i e;cases h;subst e;exact z.mF k m y b (r b f)
   ·exact g.mF j c h b f
  fresh:=fun j c h U b f=>by
   rw[YF]at h;split at h
   ·rename_i e;cases h;subst e;exact I U b f
   ·exact g.fresh j c h U b f }
theorem kg.slb{R:k6 α}(O:ki R)(xs:List α){len ty:Nat}{cs:List SC}
    (D:QO O (Yg s.V) xs cs) (G:ops[i]?=some o) (I:Y3 ops s.L o=some true) (u:o.op=.slice t x none none none) (N:o.dst=some d)
    (S:X.P.underlying t=some (.array len el)) (A:(X.P.info? el).map (·.size)=some R.sz)
    (T:Yr s.L x=some (.c (.bp k 0))) (hM:Yg s.M k=some (.box cs ty)) (C:(aO d X.fn.ntmps && aF xs.length len && (Yg s.M s.nx).isNone)=true)
    (U:kg X ops lK lL ⟨(d,.c (.sl s.nx))::s.L,(s.nx,.own R xs false)::(k,.gone)::s.M,s.V,s.nx+1⟩):kg X ops (i::lK) lL s:=by
  refine kg.op G I (fun E F w a m=>?_) U;simp only[Zc,Option.isNone_iff_eq_none]at C;obtain⟨⟨Y,r⟩,Z⟩:=C;have r:=Zd r;have⟨e1,_⟩:=m.eval T;have hz:∀w',(sizeOf el).run X.P w'=.ok R.sz w':=fun w'=>by rw[Zn]at A;have⟨inf,h3,h4⟩:=A;simp[sizeOf,typeInfo,h3,h4]
  have g:w.heap[E.β k]?=some (.cells (cs.map (Yn E)).toArray ty (0,0)):=m.hM k _ hM;have l:=LV O (E:=E) (F:=F) (w:=w) (fun k f h=>m.hV k f h) D;have q:(lT a.eval o).run X.P w=.ok (.value (.slice (some ⟨E.β k,0,none⟩) len len)) w:=by simp only[lT,u,e1,Yt,Yn];refine Xe ?_;have g:=Zgd (P:=X.P) (w:=w) (is:=false) (len:=len) (cap:=len) (lo:=none) (hi:=none) (p:=(0,len)) (Zq _) (by simp[WK]);simp only[ez]at g;simp only[fC,ez,aG,Xl S,aD,cx,aJ,g,hz,Ww,eN,bu,ite_self,Nat.sub_zero]
  refine XD q ?_;have hE:E.Eqb s.nx (E.setρ s.nx (.slice (some ⟨E.β k,0,none⟩) len len)):=E.eqb_setρ _ _ _ (Zq _);have y:(E.setρ s.nx (.slice (some ⟨E.β k,0,none⟩) len len)).ρ s.nx=.slice (some ⟨E.β k,0,none⟩) len len:=by simp[lC.setρ]
  have s1:=(m.env hE (fun j=>by
    simp only[lC.setρ];split
    · rfl
    · exact m.one j)).nxt (n:=s.nx+1) (cD _)
  have s2:=s1.moveM (K:=s.nx) (m':=.own R xs false) hM Z (ab _) (by
      show kh R F w xs ((E.setρ s.nx _).ρ s.nx);rw[y];refine .inr ⟨E.β k,0,len,_,ty,(0,0),by rw[r],by omega,?_,Zgx _,g,l.row fun j v W=>by rw[aw];simpa using W⟩;rw[bW,l.1,r,aw];exact Zq _) trivial (fun b g=>by have g:YV ((E.setρ s.nx _).ρ s.nx)=some b:=g;rw[y]at g;cases g;exact rfl) (fun h=>by cases h)
  have z:=s2.setL (d:=d) (v:=.c (.sl s.nx)) (ab _) (Y9 Y);simp only[Yt,Yn]at z;rw[y]at z;rw[N];exact⟨_,F,z⟩
theorem kg.cvs{u:Nat}{g:SC}(ys:List Int)(k:Ur X s (rI .u8) ys g)
  (K:(match g with | .nil | .sl _=>true|_=>false)=true) (N:ops[i]?=some o) (O:Y3 ops s.L o=some true) (l:o.op=.convert t u x) (R:o.dst=some d)
  (S:X.P.underlying t=some (.slice el)) (T:X.P.underlying u=some .string) (U:X.P.underlying el=some (.int .u8))
  (W:Yr s.L x=some (.c g)) (m:∀E F w a,ky X s E F w a->∃b c,Yn E g=.slice b ys.length c) (Y:aO d X.fn.ntmps=true)
  (Z:kg X ops lK lL ⟨(d,.c (.s (Qf ys)))::s.L,s.M,s.V,s.nx⟩):kg X ops (i::lK) lL s:=by
 refine kg.val (fun E F w a q=>?_) N O R Y Z;have⟨e1,_⟩:=q.eval W;refine⟨?_,trivial⟩;have⟨b,c,D⟩:=m E F w a q;have⟨r,f,_,v,_⟩:=k E F w a q;have h:=v ys.length w (Zq _) rfl;have A:r=ys.map (dP .u8):=by
  apply cw;intro j;by_cases G:j<ys.length
  ·have⟨vs,z,h3⟩:=f.2 j _ (Za G);have z:vs=[.int .u8 ys[j]]:=z;subst z;have:=h3 0 _ rfl;have e:j*(rI .u8).sz+0=j:=by show j*1+0=j;omega
   rw[e]at this;rw[this,aK,Za G];rfl
  ·have hl:=f.1;have e:ys.length*(rI .u8).sz=ys.length:=fh _;rw[e]at hl;rw[dR (by omega),dR (by simp;omega)]
 simp only[lT,l];rw[e1];simp only[Yt,D];refine Xe ?_;rw[run_convert_bytes_string w t u el b ys.length c S U T];rw[D]at h;have e2:(r.take (ys.length*(rI .u8).sz))=r:=by rw[<-f.1,dZ]
 rw[e2,A]at h;cases b with
 |none=>
  simp only[bQ,aJ,Result.ok.injEq,and_true]at h;have:ys=[]:=by
   cases ys with
   |nil=>rfl
   |cons y ys=>simp at h
  subst this;simp[Conv.bytesToString,Qf];rfl
 |some I=>
  simp only[bQ]at h;have C:(loadCells I ys.length).run X.P w=.ok (ys.map (dP .u8)).toArray w:=by have:ys.length*(rI .u8).sz=ys.length:=fh _;rw[this]at h;exact h
  exact run_bytesToString w I ys.length c ys C
theorem Qc{R:k6 α}{ys:List α}(h:Yg s.V k=some (.sl R ys)):∀E F w a,ky X s E F w a->∃b c,Yn E (.sl k)=.slice b ys.length c:=fun E F w a d=>Zet (d.hV k _ h)
theorem shO{R:k6 α}{ys:List α}{fr:Bool}(h:Yg s.M k=some (.own R ys fr)):∀E F w a,ky X s E F w a->∃b c,Yn E (.sl k)=.slice b ys.length c:=fun E F w a d=>G2 (d.hM k _ h)
theorem kg.nilc{R:k6 α}{xs:List α}(f:Bool){G:Nat}
  (I:Yg s.V k=some (.sl R xs)\/∃fr,Yg s.M k=some (.own R xs fr)) (K:ops[i]?=some o) (N:Y3 ops s.L o=some true) (u:o.op=.binOp (bif f then .neq else .eql) t x y G) (O:o.dst=some d) (S:X.P.underlying t=some (.slice el))
  (T:Yr s.L x=some (.c (.sl k))) (U:Yr s.L y=some (.c .nil)) (W:aO d X.fn.ntmps=true)
  (Y:∀b:Bool,(b=true->xs=[])->kg X ops lK lL ⟨(d,.c (.b (bif f then !b else b)))::s.L,s.M,s.V,s.nx⟩):kg X ops (i::lK) lL s:=by
 intro E F w a j;have⟨Z,_⟩:=j.eval T;have⟨e2,_⟩:=j.eval U;have z:∃(b:Bool) (p:Option Addr) (l c:Nat),Yn E (.sl k)=.slice p l c/\p.isNone=b/\(b=true->xs=[]):=by
  rcases I with h|⟨fr,h⟩
  ·rcases (j.hV k _ h:SlR R F w xs (E.ρ k)) with⟨g,D,c',A⟩|⟨b,off,cap,arr,C,fz,g,_⟩
   ·exact⟨D.isNone,D,0,c',A,rfl,fun _=>g⟩
   ·exact⟨false,_,_,_,g,rfl,fun h=>by cases h⟩
  ·rcases (j.hM k _ h:kh R F w xs (E.ρ k)) with⟨g,A⟩|⟨b,off,cap,arr,C,fz,g,_⟩
   ·exact⟨true,none,0,0,A,rfl,fun _=>g⟩
   ·exact⟨false,_,_,_,g,rfl,fun h=>by cases h⟩
 have⟨b,p,l,c,z,hp,hb⟩:=z;have m:(lT a.eval o).run X.P w=.ok (.value (.bool (bif f then !b else b))) w:=by
  simp only[lT,u,Z,e2,Yt];rw[z];simp only[Yn];refine Xe ?_;have r:(dp t (.slice p l c) (.slice none 0 0)).run X.P w=.ok b w:=by show (eQ (9999+1) t _ _).run X.P w=_;generalize 9999=q;subst hp;cases p<;>simp only[eQ,aG,Xl S,aD,aJ,Option.isNone_none,Option.isNone_some]
  cases f with
  |false=>
   simp only[lf,eqGuard,aG,aJ,aD];show (do pure (eh (<-dp t _ _)):Sem lR).run X.P w=_;simp only[aG,r,aD,aJ]
  |true=>
   simp only[l9,eqGuard,aG,aJ,aD];show (do pure (eh (!(<-dp t _ _))):Sem lR).run X.P w=_;simp only[aG,r,aD,aJ]
 have hk:=Y b hb E F w _ (j.setL (d:=d) (v:=.c (.b (bif f then !b else b))) trivial (Y9 W));simp only[wpOps,K,S3 j N,mA];refine .inl (XD m ?_);rw[O];exact hk
end
theorem kl.take{R:k6 α}{F w}{k:List lR}(h:kl R F w xs k){m:Nat}(l:m<=xs.length):kl R F w (xs.take m) (k.take (m*R.sz)):=by
 have f:m*R.sz<=xs.length*R.sz:=aT _ l;refine⟨by rw[aL,aL,h.1,cS f,cS l],fun i x c=>?_⟩;rw[aj]at c;split at c
 ·rename_i d;have⟨u,r,y⟩:=h.2 i x c;refine⟨u,r,fun j v q=>?_⟩;have g:=(aE.1 q).1;rw[R.len r]at g;have:(i+1)*R.sz<=m*R.sz:=aT _ d;rw[bD]at this;rw[aj,mD (by omega)];exact y j v q
 ·cases c
theorem kl.drop{R:k6 α}{F w}{c:List lR}(h:kl R F w xs c)(m:Nat):kl R F w (xs.drop m) (c.drop (m*R.sz)):=by refine⟨by rw[bg,bg,h.1,Nat.sub_mul],fun i x d=>?_⟩;rw[bO]at d;have⟨g,k,l⟩:=h.2 (m+i) x d;refine⟨g,k,fun j v f=>?_⟩;have:=l j v f;rw[bO,show m*R.sz+(i*R.sz+j)=(m+i)*R.sz+j by rw[bD];omega];exact this
def RQ(h:Option Int)(len:Nat):Nat:=match h with|some h=>h.toNat|none=>len
theorem UP(l h:Option Int)(sz:Nat)(b:Option Addr)(len cap:Nat) :
    XN l h sz (.slice b len cap)=.slice (if cap=(l.getD 0).toNat then b else b.map (·.add ((l.getD 0).toNat*sz))) (RQ h len-(l.getD 0).toNat) (cap-(l.getD 0).toNat):=by cases h<;>rfl
theorem ZaD{lo hi:Option Int}{len:Nat}(h:WK lo hi len=some p):p.1=(lo.getD 0).toNat/\p.2=RQ hi len:=by obtain⟨_,_,_,c⟩:=PK h;rw[c];cases hi<;>simp[RQ]
theorem kh.sub{R:k6 α}{F w}{v:lR}{l h:Option Int}(x:kh R F w xs v)(k:WK l h xs.length=some p) :
  kh R F w ((xs.take p.2).drop p.1) (XN l h R.sz v):=by
 have⟨D,G,I,m⟩:=PK k;have⟨f,d⟩:=ZaD k;have A:p.1<=p.2:=by rw[m];simp;omega
 have g:p.2<=xs.length:=by rw[m];simp;omega
 have c:((xs.take p.2).drop p.1).length=p.2-p.1:=by simp;omega
 rcases x with⟨rfl,rfl⟩|⟨b,off,cap,arr,el,fz,rfl,K,y,q,r,z⟩
 ·simp at g;refine .inl ⟨by simp,?_⟩;have j:p.1=0:=by omega
  have C:p.2=0:=by omega
  simp only[aP]at d;rw[UP,<-f,<-d,j,C];rfl
 ·rw[UP,<-f,<-d];by_cases u:cap=p.1
  ·have j:(xs.take p.2).drop p.1=[]:=ar (by rw[c];omega);rw[mD u];refine .inr ⟨b,off,cap-p.1,arr,el,fz,by rw[c],by rw[c];omega,?_,q,r,by rw[j];exact Row.empty⟩;have:cap-p.1=0:=by omega
   rw[this,eN];exact bV (bR _ _) y
  ·rw[mE u];refine .inr ⟨b,off+p.1*R.sz,cap-p.1,arr,el,fz,by rw[c];simp[Ww],by rw[c];omega,?_,q,r,z.sub p.1 p.2⟩;have:p.1*R.sz+(cap-p.1)*R.sz=cap*R.sz:=by rw[<-bD];congr 1;omega
   omega
theorem Zok{l h:Option Int}{sz b:Nat}{v:lR}(c:YV (XN l h sz v)=some b):YV v=some b:=by
 unfold XN at c;split at c
 ·rename_i a len cap;have d:∀(a:Addr) n,(a.add n).block=a.block:=fun a n=>by unfold Addr.add;split<;>rfl
  cases a with
  |none=>split at c<;>cases c
  |some a=>
   split at c
   ·exact c
   ·simp only[bb,YV,aR,d]at c ⊢;exact c
 ·exact c
section
variable {X:lB}{s:St}{ops:Array lW}{lL:lZ->lQ->Prop}{tt:List (Nat×TD)}{E:lC}{F:YJ}{w:lQ}{a:lZ}
variable {d:Nat}{fr:Bool}{i k:Nat}{o:lW}{lK:List Nat}{t:lS}{α:Type}{xs zs:List α}
theorem kg.vw{R:k6 α}(lO:kf X.P tt){z:TD}{x:lV}{lo hi:Option lV}{l h:Option (lY×Int)}
    (A:lsl xs (l.map (·.2)) (h.map (·.2))=some zs) (Z:ops[i]?=some o) (hg:Y3 ops s.L o=some true) (C:o.op=.slice t x lo hi none) (hd:o.dst=some d)
    (ht:Yg tt t=some z) (hx:Yr s.L x=some (.c (.sl k))) (hM:Yg s.M k=some (.own R xs fr)) (D:Wu s.L lo=some l) (G:Wu s.L hi=some h)
    (y:(aO d X.fn.ntmps && aF z.kd 6 && aF z.es R.sz)=true)
    (kk:kg X ops lK lL ⟨(d,.c (.sl s.nx))::s.L,s.M,(s.nx,.vw k (l.map (·.2)) (h.map (·.2)) R.sz)::s.V,s.nx+1⟩):kg X ops (i::lK) lL s:=by
  refine kg.op Z hg (fun E F w a m=>?_) kk;simp only[Zc]at y;obtain⟨⟨c1,c2⟩,I⟩:=y;have I:=Zd I;have⟨e1,_⟩:=m.eval hx;have⟨el,hu,K⟩:=(lO.get ht).sliceOf c2;have T:kh R F w xs (E.ρ k):=m.hM k _ hM;unfold Kx.lsl at A;rw[Zn]at A;obtain⟨p,N,rfl⟩:=A;have⟨q1,q2,q3,q4⟩:=PK N;have⟨O,S⟩:=ZaD N;have g:∃b c,E.ρ k=.slice b xs.length c/\xs.length<=c:=by
    rcases T with⟨rfl,q⟩|⟨b',off,cap,arr,el,fz,q,y,_⟩
    · exact⟨none,0,q,Zq _⟩
    · exact⟨_,_,q,y⟩
  have⟨b,c,q,g⟩:=g;have r:(lT a.eval o).run X.P w=.ok (.value (XN (l.map (·.2)) (h.map (·.2)) R.sz (E.ρ k))) w:=by simp only[lT,C,e1,Yt,Yn,q,Hd m D,Hd m G,ez];refine Xe ?_;rw[Zge hu (K w) g N,I,UP,<-O,<-S]
  refine XD r ?_;have W:E.Eqb s.nx (E.setρ s.nx (XN (l.map (·.2)) (h.map (·.2)) R.sz (E.ρ k))):=E.eqb_setρ _ _ _ (Zq _);have Y:(E.setρ s.nx (XN (l.map (·.2)) (h.map (·.2)) R.sz (E.ρ k))).ρ s.nx=XN (l.map (·.2)) (h.map (·.2)) R.sz (E.ρ k):=by simp[lC.setρ]
  have u:=(m.wf.hM k _ hM).1;have s1:=m.env W (fun j=>by
    simp only[lC.setρ];split
    · rw[q];rfl
    · exact m.one j)
  have s2:=s1.addV (f:=.vw k (l.map (·.2)) (h.map (·.2)) R.sz) (by show _=XN _ _ _ _;rw[Y,(W k u).1]) (Nat.lt_succ_of_lt u)
  have U:=s2.setL (d:=d) (v:=.c (.sl s.nx)) (ab _) (Y9 c1);simp only[Yt,Yn]at U;rw[Y]at U;rw[hd];exact⟨_,F,U⟩
variable {K:Nat}{h l:Option Int}
theorem ZmE{R:k6 α}(c:lsl xs l h=some zs)(hV:Yg s.V K=some (.vw k l h R.sz))(hM:Yg s.M k=some (.own R xs fr))(d:ky X s E F w a) :
  kh R F w zs (E.ρ K):=by unfold Kx.lsl at c;rw[Zn]at c;obtain⟨p,f,rfl⟩:=c;have g:E.ρ K=XN l h R.sz (E.ρ k):=d.hV K _ hV;rw[g];exact kh.sub (d.hM k _ hM) f
theorem ZuB{R:k6 α}(c:lsl xs l h=some zs)(hV:Yg s.V K=some (.vw k l h R.sz))(hM:Yg s.M k=some (.own R xs fr)):Ur X s R zs (.sl K):=
 fun _ _ _ _ d=>(Rd.of_own (ZmE c hV hM d)).src
theorem ky.settle{R:k6 α}(g:lsl xs l h=some zs)(hV:Yg s.V K=some (.vw k l h R.sz))(hM:Yg s.M k=some (.own R xs fr))(j:Yg s.M K=none)
  (d:ky X s E F w a):ky X ⟨s.L,(K,.own R zs fr)::(k,.gone)::s.M,s.V,s.nx⟩ E F w a:=by
 have q:E.ρ K=XN l h R.sz (E.ρ k):=d.hV K _ hV;have f:∀b,(MO.own R zs fr).fp E K b->(MO.own R xs fr).fp E k b:=fun b c=>by have c:YV (E.ρ K)=some b:=c;rw[q]at c;exact Zok c
 exact d.moveM (m':=.own R zs fr) hM j (d.wf.hV K _ hV).1 (ZmE g hV hM d) trivial f (fun m b c=>d.fresh k _ hM m b (f b c))
def RK(xs:List α)(l h:Option Int)(ys:List α):Option (List α×Int):=(WK l h xs.length).map fun p=>
 (xs.take p.1++ys.take (min ys.length (p.2-p.1))++xs.drop (p.1+min ys.length (p.2-p.1)),((min ys.length (p.2-p.1):Nat):Int))
variable {P:lU}
theorem Zo2{t2 ty:lS}{td:TD}(ok:TD.Ok P t td)(hk:aF td.kd 6=true){R:k6 α}(hR:td.es=R.sz){F:YJ}{w:lQ}{ys:List α}{v sv:lR}{r:List α×Int}
  (ho:kh R F w xs v) (hs:LG P R F w ys sv) (hz:RK xs l h ys=some r) (hF:∀b,YV v=some b->¬ F b) :
  ∃w',(gW #[t,t2] ty #[XN l h R.sz v,sv]).run P w=.ok (.int .i64 r.2) w'/\kh R F w' r.1 v/\w'.os=w.os/\w'.tape=w.tape/\Oq w w'/\w.heap.size<=w'.heap.size /\
   (∀b,YV v≠some b->w'.heap[b]?=w.heap[b]?):=by
 have⟨i,hu,hi,hsz,_⟩:=ok.slc hk;have d:(sizeOf td.el).run P w=.ok R.sz w:=by simp[sizeOf,typeInfo,hi,hsz,hR]
 unfold RK at hz;rw[Zn]at hz;obtain⟨p,hp,rfl⟩:=hz;have⟨q1,q2,q3,q4⟩:=PK hp;have⟨S,I⟩:=ZaD hp;have hle:p.1<=p.2:=by rw[q4];simp;omega
 have V:p.2<=xs.length:=by rw[q4];simp;omega
 have⟨K,g,A,hfc,T⟩:=hs
 let n:=min ys.length (p.2-p.1)
 have z:n<=ys.length:=Nat.min_le_left _ _;have hn2:n<=p.2-p.1:=Nat.min_le_right _ _;have C:=hfc n w z rfl;have D:Nat.min ys.length (p.2-p.1)=n:=rfl;rcases ho with⟨rfl,rfl⟩|⟨b,off,cap,arr,el,fz,rfl,hc,hs,ht,hh,hr⟩
 ·simp at V;have hn0:n=0:=by omega
  have hv:XN l h R.sz (.slice none 0 0)=.slice none (p.2-p.1) (0-p.1):=by simp only[aP]at I;rw[UP,<-S,<-I];simp
  refine⟨w,?_,.inl ⟨by simp[show min ys.length (p.2-p.1)=0 from hn0],rfl⟩,rfl,rfl,.m,Zq _,fun _ _=>rfl⟩;rw[hv];simp[gW,Xl hu,A,d,D,C,goInt]
 ·have hcl:XN l h R.sz (.slice (some ⟨b,off,none⟩) xs.length cap)=.slice (some (if cap=p.1 then ⟨b,off,none⟩ else ⟨b,off+p.1*R.sz,none⟩)) (p.2-p.1) (cap-p.1):=by rw[UP,<-S,<-I];split<;>simp[Ww]
  let o':=if cap=p.1 then off else off+p.1*R.sz
  have W:(if cap=p.1 then (⟨b,off,none⟩:Addr) else ⟨b,off+p.1*R.sz,none⟩)=⟨b,o',none⟩:=by simp only[o'];split<;>rfl
  have k:(K.take (n*R.sz)).length=n*R.sz:=by rw[aL,g.1];exact cS (aT _ z)
  have q:(p.1+n)*R.sz<=cap*R.sz:=aT _ (by omega);rw[bD]at q;have Y:cap=p.1->n=0:=fun e=>by omega
  have hoff:o'+n*R.sz<=arr.size:=by
   simp only[o'];split
   ·rename_i e;rw[Y e];omega
   ·omega
  have hst:=Qb (P:=P) b o' el fz (K.take (n*R.sz)) 0 arr w hh ht (by rw[k];omega) (fun u hu=>T u (List.mem_of_mem_take hu))
  let c:=(arr.toList.take (o'+0)++K.take (n*R.sz)++arr.toList.drop (o'+0+(K.take (n*R.sz)).length)).toArray
  have x:c.size=arr.size:=by simp only[c,bW,ae,aL,bg,aq,g.1];have:min (n*R.sz) (ys.length*R.sz)=n*R.sz:=cS (aT _ z);omega
  have hg:X3 F w F (w.setRow b c):=⟨fun _ h=>h,fun b' G=>l5 w b b' _ (fun e=>hF b rfl (e▸G))⟩
  have⟨U,L,M,_⟩:=hr.cellsOf;have Z:kl R F (w.setRow b c) (xs.take p.1++ys.take n++xs.drop (p.1+n)) (U.take (p.1*R.sz)++K.take (n*R.sz)++U.drop ((p.1+n)*R.sz)):=
   ((((L.take (by omega)).append (g.take z)).append (L.drop _)).mono hg)
  have y:(U.take (p.1*R.sz)).length=p.1*R.sz:=by rw[aL,L.1];exact cS (aT _ (by omega))
  have N:∀(j:Nat) u,(U.take (p.1*R.sz)++K.take (n*R.sz)++U.drop ((p.1+n)*R.sz))[j]?=some u->c[off+j]?=some u:=by
   intro j u f;have hal:arr.toList.length=arr.size:=aq;simp only[c,cW,bu,k];by_cases hn0:n=0
   ·have e1:K.take (n*R.sz)=[]:=by rw[hn0];simp
    rw[e1]at f ⊢;rw[hn0];simp only[bh,hn0,bu,cE,eN]at f ⊢;have:=M j u f;simpa using this
   ·have hne:cap≠p.1:=fun e=>hn0 (Y e);have ho':o'=off+p.1*R.sz:=mE hne;rw[ho'];rw[aU]at f ⊢;have O:(arr.toList.take (off+p.1*R.sz)).length=off+p.1*R.sz:=by rw[aL,hal];omega
    by_cases hj1:j<p.1*R.sz
    ·rw[Zo (by rw[y];exact hj1),aj,mD hj1]at f;rw[Zo (by rw[O];omega),aj,mD (by omega)];have:=M j u f;simpa using this
    ·rw[Zp (by rw[y];omega),y]at f;rw[Zp (by rw[O];omega),O];have e2:off+j-(off+p.1*R.sz)=j-p.1*R.sz:=by omega
     rw[e2];by_cases hj2:j-p.1*R.sz<n*R.sz
     ·rw[Zo (by rw[k];exact hj2)]at f ⊢;exact f
     ·rw[Zp (by rw[k];omega),k]at f ⊢;rw[bO]at f ⊢;have e3:(p.1+n)*R.sz+(j-p.1*R.sz-n*R.sz)=j:=by rw[bD];omega
      rw[e3]at f;have e4:off+p.1*R.sz+n*R.sz+(j-p.1*R.sz-n*R.sz)=off+j:=by omega
      rw[e4];have:=M j u f;simpa using this
  refine⟨w.setRow b c,?_,.inr ⟨b,off,cap,c,el,fz,?_,?_,by rw[x];exact hs,by rw[x];exact ht,setRow_heap w b arr _ el fz hh,Z.row N⟩,rfl,rfl,.m,by simp,fun b' G=>l5 w b b' _ (fun e=>G (by rw[e];rfl))⟩
  ·rw[hcl,W];simp[gW,Xl hu,A,d,D,C,goInt];rw[hst];rfl
  ·congr 1;simp;omega
  ·simp;omega
theorem kg.cp{R:k6 α}(lO:kf X.P tt){t2:lS}{u:TD}{x y:lV}{j:SC}{ys:List α}{r:List α×Int}
  (S:RK xs l h ys=some r) (m:Ur X s R ys j) (T:ops[i]?=some o) (U:Y3 ops s.L o=some true) (z:o.op=.call { callee:=.builtin .copy,args:=#[x,y],argTypes:=#[t,t2] }) (W:o.dst=some d)
  (Y:Yr s.L x=some (.c (.sl K))) (hV:Yg s.V K=some (.vw k l h R.sz)\/(K=k/\l=none/\h=none)) (A:Yg s.M k=some (.own R xs fr)) (Z:Yr s.L y=some (.c j)) (ht:Yg tt t=some u)
  (O:(aO d X.fn.ntmps && aF u.kd 6 && aF u.es R.sz)=true)
  (kk:kg X ops lK lL ⟨(d,.c (.i .i64 r.2))::s.L,(k,.own R r.1 fr)::s.M,s.V,s.nx⟩):kg X ops (i::lK) lL s:=by
 refine kg.op T U (fun E F w a g=>?_) kk;simp only[Zc]at O;obtain⟨⟨c1,c2⟩,c3⟩:=O;have⟨e1,_⟩:=g.eval Y;have⟨e2,_⟩:=g.eval Z;have I:=g.mF k _ A;have f:kh R F w xs (E.ρ k):=g.hM k _ A;have N:E.ρ K=XN l h R.sz (E.ρ k):=by
  rcases hV with h|⟨rfl,rfl,rfl⟩
  ·exact g.hV K _ h
  ·have⟨b,c,hv⟩:=G2 f;rw[hv];rw[UP];simp only[RQ,Option.getD_none,Int.toNat_zero,Nat.sub_zero,eN];cases b with
   |none=>simp
   |some b=>
    have:b.add 0=b:=by unfold Addr.add;simp
    simp[this]
 have⟨w',q,G,g1,g2,g3,g4,g5⟩:=Zo2 (t2:=t2) (ty:=o.type) (lO.get ht) c2 (Zd c3) f (m E F w a g) S (fun b C=>(I b C).1);refine XD (v:=.int .i64 r.2) (w':=w') (Vu z ?_) ?_
 ·simp only[bT,aI,au,e1,e2,Yt];have:Yn E (.sl K)=XN l h R.sz (E.ρ k):=N;rw[this];exact Xe q
 ·have s1:=g.setM (m':=.own R r.1 fr) A g1 g2 g3 g4 (fun b _ D=>g5 b (fun e=>D e)) (fun b C=>C) G trivial (fun h=>h);have s2:=s1.setL (d:=d) (v:=.c (.i .i64 r.2)) trivial (Y9 c1);rw[W];exact⟨E,F,s2⟩
theorem kg.ext{f:FuncId}{args:Array lV}{m:Array lS}{c:List SV}{v:SV}
  (j:∀(E:lC) (w:lQ),(callFunc f (c.map (Yt E)).toArray).run X.P w=.ok (.value (Yt E v)) w) (q:∀n,v.kb n) (r:ops[i]?=some o) (u:Y3 ops s.L o=some true)
  (k:o.op=.call { callee:=.value (.func f),args:=args,argTypes:=m }) (x:o.dst=some d) (y:aO d X.fn.ntmps=true) (g:Ux s.L args.toList=some c)
  (z:kg X ops lK lL ⟨(d,v)::s.L,s.M,s.V,s.nx⟩):kg X ops (i::lK) lL s:=by
 refine kg.val (fun E F w a A=>⟨?_,q _⟩) r u x y z;have l:=(Dm A g).1;have h:args.map a.eval=(c.map (Yt E)).toArray:=by apply eC;rw[dY,l]
 unfold lT;simp only[k,resolve,fR,Act.eval,invoke,aG,aJ,aD];have:=j E w;rw[<-h]at this;simpa using this
def byteOf(c:Int):UInt8:=c.toNat.toUInt8
def Zfm(m:be)(c:Int):Int:=firstIdx m (byteOf c)
def ZaN(m:be)(c:Int):Int:=m.foldl (fun n x=>if x==byteOf c then n+1 else n) (((0:Nat):Int))
theorem ZpO{f:FuncId}{fn:Func}(g:P.funcs[f]?=some fn)(d:(fn.name == "runtime.NumGoroutine")=false)(h:fn.body.isNone=true)(j:gd fn=none)
  (k:ju fn=some fq) (m:be) (c:Int) (E:lC) (w:lQ) :
  (callFunc f (([.c (.s m),.c (.i .u8 c)]:List SV).map (Yt E)).toArray).run P w=.ok (.value (Yt E (.c (.i .i64 (Zfm m c))))) w:=by rw[run_callFunc_extern g d h j k];show ((fq #[.string m,.int .u8 c]).run P w).andThen _=_;rw[run_indexByte_string];rfl
theorem ZpN{f:FuncId}{fn:Func}(g:P.funcs[f]?=some fn)(d:(fn.name == "runtime.NumGoroutine")=false)(h:fn.body.isNone=true)(j:gd fn=none)
  (k:ju fn=some fU) (m:be) (c:Int) (E:lC) (w:lQ) :
  (callFunc f (([.c (.s m),.c (.i .u8 c)]:List SV).map (Yt E)).toArray).run P w=.ok (.value (Yt E (.c (.i .i64 (ZaN m c))))) w:=by
 rw[run_callFunc_extern g d h j k];show ((fU #[.string m,.int .u8 c]).run P w).andThen _=_;have:(fU #[.string m,.int .u8 c]).run P w=.ok (.int .i64 (ZaN m c)) w:=by
  change Sem.run P (do
   let b <-jv (.string m)
   let c' <-kA (.int .u8 c)
   pure (goInt (b.foldl (fun n x=>if x==c' then n+1 else n) (0:Nat)))) w=_
  simp only[jv,kA,aG,aJ,Result.andThen,goInt];rfl
 rw[this];rfl
end
section
variable {X:lB}{s:St}{ops:Array lW}{lL:lZ->lQ->Prop}{E:lC}{F:YJ}{w:lQ}{a:lZ}
theorem ky.setL0(c:ky X s E F w a){d:Nat}{v v0:SV}(f:Yg s.L d=some v0)(g:Yt E v=Yt E v0)(j:v.kb s.nx):ky X ⟨(d,v)::s.L,s.M,s.V,s.nx⟩ E F w a:={ c with
 wf:=⟨fun k l h=>by
   rw[YF]at h;split at h
   ·cases h;exact j
   ·exact c.wf.hL _ _ h,c.wf.hM,c.wf.hV⟩
 hL:=fun k l h=>by
  rw[YF]at h;split at h
  ·rename_i e;cases h;subst e;rw[g];exact c.hL _ _ f
  ·exact c.hL _ _ h }
theorem ky.nown{α:Type}(R:k6 α){d:Nat}(g:ky X s E F w a)(h:Yg s.L d=some (.c .nil)):∃E',ky X ⟨(d,.c (.sl s.nx))::s.L,(s.nx,.own R [] true)::s.M,s.V,s.nx+1⟩ E' F w a:=by have⟨E',j,k⟩:=g.newOwn (R:=R) (xs:=[]) (v:=.slice none 0 0) (fr:=true) (.inl ⟨rfl,rfl⟩) (fun b f=>by cases f) (fun _ b f=>by cases f);exact⟨E',k.setL0 (v:=.c (.sl s.nx)) h (by show E'.ρ s.nx=_;rw[j];rfl) (ab _)⟩
end
end
end Go.Kx
section
namespace Go.Kx
variable [kv]
open Go.ChangeShapes Go.WideShapes
structure Bulk where
 f:{H:Type}->DataW H->Nat
 all:{H:Type}->List (DataW H)->Nat
 str:∀ {H:Type} (b:List UInt8),f (.lit (.string b):DataW H)=b.length+1
 slice:∀ {H:Type} (e s:List (DataW H)),f (.slice e s)=all e+all s+1
 agg:∀ {H:Type} (l:List (DataW H)),f (.agg l)=all l+1
 nil:∀ {H:Type},all ([]:List (DataW H))=0
 cons:∀ {H:Type} (d:DataW H) l,all (d::l)=f d+all l
 one:∀ {H:Type} (d:DataW H),1<=f d
def bd:Nat:=1048576
theorem Bulk.mem(B:Bulk){H:Type}{d:DataW H}:∀ {l:List (DataW H)},d∈l->B.f d<=B.all l
 |x::l,h=>by
  rw[B.cons];rcases List.mem_cons.1 h with rfl|h
  ·omega
  ·have:=B.mem h;omega
theorem Bulk.len(B:Bulk){H:Type}:∀(l:List (DataW H)),l.length<=B.all l
 | []=>by simp
 |x::l=>by rw[B.cons,Zf];have:=B.len l;have:=B.one x;omega
abbrev Uq(w:lQ):YJ:=fun b=>b<w.heap.size
def Rdb(P:lU)(B:Bulk)(t:lS){α:Type}(R:k6 α)(ok:α->Prop):Prop:=R.sz=P.cellsOf t /\
 ∀ {H:Type} (enc:lS×lR->H) (w:lQ) (fuel:Nat) (cs:List lR) (x:DataW H×List MemPlace),iK enc P w 0 (fun _=>true) true fuel t cs=some x->B.f x.1<=bd ->
  ∃a,R.rep (Uq w) w a cs/\ok a
section
variable {P:lU}{B:Bulk}{t:lS}
theorem Rdb.int{k:lY}(d:P.underlying t=some (.int k))(f:P.cellsOf t=1):Rdb P B t (rI k) (fun n=>(Lit.int k n).wf=true):=
 ⟨f.symm,fun enc w c cs x h _=>by obtain⟨n,rfl,_,g⟩:=DataW.trod_int d h;exact⟨n,rfl,g⟩⟩
theorem Rdb.str(d:P.underlying t=some .string)(f:P.cellsOf t=1):Rdb P B t rS (fun s=>s.size<=bd):=
 ⟨f.symm,fun enc w c cs x h g=>by
  obtain⟨n,rfl,rfl,_⟩:=DataW.trod_string d h;refine⟨n,rfl,?_⟩;rw[B.str]at g;have e:n.data.toList.length=n.size:=by rw[aq];rfl
  omega⟩
theorem Zfi{α:Type}{Q:Nat->α->Prop}:∀ {n:Nat},(∀i,i<n->∃x,Q i x)->∃xs:List α,xs.length=n/\∀i x,xs[i]?=some x->Q i x
 |0,_=>⟨[],rfl,by simp⟩
 |n+1,h=>by
  have⟨xs,d,f⟩:=Zfi (n:=n) fun i hi=>h i (by omega);have⟨y,g⟩:=h n (by omega);refine⟨xs++[y],by simp[d],fun i x hi=>?_⟩;rw[cJ]at hi;split at hi
  ·exact f i x hi
  ·rename_i j;have c:=(aE.1 hi).1;simp only[List.length_singleton]at c;have e:i=n:=by omega
   subst e;rw[d,Nat.sub_self]at hi;simp only[aX,aR]at hi;subst hi;exact g
variable {α:Type}
theorem Rdb.slice{R:k6 α}{ok:α->Prop}{e:lS}(hu:P.underlying t=some (.slice e))(k:P.cellsOf t=1)(I:Rdb P B e R ok) :
    Rdb P B t (YH R) (fun xs=>xs.length<=bd/\∀x∈xs,ok x):=⟨k.symm,fun enc w Y cs x h Z=>by
  rcases DataW.trod_slice hu h with⟨rfl,_⟩|⟨a,len,cap,c,lK,n,rfl,rfl,rfl,_,hlc,_,O,hx,_⟩
  · exact⟨[],⟨_,rfl,.inl ⟨rfl,_,_,rfl⟩⟩,by simp[bd],by simp⟩
  · simp only at Z;rw[B.slice]at Z;have C:=B.len (c.map (·.1));rw[aN,O]at C;have l:0<P.cellsOf e:=by rw[<-I.1];exact R.pos
    have key:∀i,i<len->∃x,∃cs y,w.cells? 0 (a.add (i*P.cellsOf e)) (P.cellsOf e)=some cs/\c[i]?=some y/\R.rep (Uq w) w x cs/\ok x:=fun i hi=>by
      have h1:=hx i hi;have f:i<c.length:=by omega
      rw[Za f,Option.bind_eq_some_iff]at h1;have⟨cs,h2,h3⟩:=h1;have K:c[i].1∈c.map (·.1):=aM.2 ⟨_,b9 f,rfl⟩;have⟨x,h4,h5⟩:=I.2 enc w n cs _ h3 (by have:=B.mem K;omega);exact⟨x,cs,_,h2,Za f,h4,h5⟩
    have⟨xs,hl,L⟩:=Zfi key;have U:∀x∈xs,ok x:=fun x K=>by have⟨i,hi⟩:=List.mem_iff_getElem?.1 K;obtain⟨_,_,_,_,_,h⟩:=L i x hi;exact h
    refine⟨xs,⟨_,rfl,?_⟩,by omega,U⟩;rcases Nat.eq_zero_or_pos len with S|S
    · subst S;have:xs=[]:=ar hl;subst this;exact .inl ⟨rfl,_,_,rfl⟩
    · -- the block
      have g:∀i j cs,i<len->w.cells? 0 (a.add (i*P.cellsOf e)) (P.cellsOf e)=some cs->j<P.cellsOf e->w.cell? ((a.add (i*P.cellsOf e)).add j)=cs[j]?:= fun i j cs _ k G=>by unfold jX at k;rw[mD (eP _)]at k;have:=mapM_some_get k j j (by simp[G]);exact this
      have D:∀i cs,w.cells? 0 (a.add (i*P.cellsOf e)) (P.cellsOf e)=some cs->cs.length=P.cellsOf e:=fun i cs k=>by unfold jX at k;rw[mD (eP _)]at k;simpa using mapM_some_length k
      obtain⟨M,N⟩:∃M,xs[0]?=some M:=⟨_,Za (by omega)⟩
      obtain⟨r,y0,u,_,_,_⟩:=L 0 M N;have d:=g 0 0 r S u l;have m:(a.add (0*P.cellsOf e)).add 0=a:=by unfold Addr.add;simp
      rw[m,Za (by rw[D 0 r u];exact l)]at d;unfold World.cell? at d;split at d
      · rename_i arr ty fz T;cases q:a.spot with
        |some s=>rw[q]at d;simp at d
        |none=>
          have ha:a=⟨a.block,a.off,none⟩:=by cases a;simp at q;simp[q]
          have f:a.block<w.heap.size:=(aW.1 T).1;refine .inr ⟨a.block,a.off,cap,arr,ty,fz,by rw[hl,<-ha],by omega,f,T,fun i x hi=>?_⟩;have⟨cs,y,z,_,A,_⟩:=L i x hi;have V:i<len:=by have:=(aE.1 hi).1;omega
          refine⟨cs,A,fun j v G=>?_⟩;have W:j<P.cellsOf e:=by have:=(aE.1 G).1;rw[D i cs z]at this;exact this
          have:=g i j cs V z W;rw[ha,Ww,Ww,RI T,G]at this;rw[I.1];exact this
      · cases d⟩
variable {β:Type}
def RdF(P:lU)(B:Bulk)(fs:List Field)(off:Nat)(R:k6 β)(ok:β->Prop):Prop:=
  ∀ {H:Type} (enc:lS×lR->H) (w:lQ) (n:Nat) (cs:List lR) (xs:List (DataW H×List MemPlace)),xs.length=fs.length ->
    (∀(i:Nat) (f:Field),fs[i]?=some f->iK enc P w 0 (fun _=>true) true n f.type ((cs.drop f.offset).take (P.cellsOf f.type))=xs[i]?)->B.all (xs.map (·.1))<=bd ->
    ∃y,R.rep (Uq w) w y ((cs.drop off).take R.sz)/\ok y
theorem RdF.one{f:Field}{R:k6 α}{ok:α->Prop}(h:Rdb P B f.type R ok):RdF P B [f] f.offset R ok:=fun enc w n cs xs g j c=>by obtain⟨x,rfl⟩:=List.length_eq_one_iff.1 g;have d:=j 0 f rfl;simp only[aX]at d;simp only[aI,au]at c;rw[B.cons,B.nil]at c;have⟨a,k,l⟩:=h.2 enc w n _ x d (by omega);rw[h.1];exact⟨a,k,l⟩
theorem RdF.cons{f:Field}{fs:List Field}{off:Nat}{g:k6 α}{h:k6 β}{c:α->Prop}{d:β->Prop}(j:Rdb P B f.type g c)(u:RdF P B fs off h d)(v:off=f.offset+g.sz) :
  RdF P B (f::fs) f.offset (rP g h) (fun y=>c y.1/\d y.2):=fun enc w n cs xs k l m=>by
 cases xs with
 |nil=>cases k
 |cons x xs=>
  have r:=l 0 f rfl;simp only[aX]at r;simp only[aI]at m;rw[B.cons]at m;have⟨a,q,C⟩:=j.2 enc w n _ x r (by omega);have⟨b,D,G⟩:=u enc w n cs xs (by simpa using k) (fun i z A=>by have:=l (i+1) z (by simpa using A);simpa using this) (by omega);rw[<-j.1]at q;refine⟨(a,b),⟨_,_,?_,q,D⟩,C,G⟩;rw[v,<-List.drop_drop];exact List.take_add
theorem Rdb.struct{f:α->β}{g:β->α}{R:k6 β}{ok:β->Prop}{fs:List Field}(m:P.underlying t=some (.struct fs.toArray))(d:P.cellsOf t=R.sz)(c:∀y,f (g y)=y)(h:RdF P B fs 0 R ok) :
  Rdb P B t (rM f R) (fun x=>ok (f x)):=⟨d.symm,fun enc w j cs x q k=>by
 obtain⟨xs,n,rfl,rfl,u,v,z⟩:=DataW.trod_struct m q;simp only at k;rw[B.agg]at k;have⟨y,l,A⟩:=h enc w n cs xs (by simpa using v) (fun i r hi=>z i r (by simpa using hi)) (by omega);rw[List.drop_zero,<-d,<-u,dZ]at l;refine⟨g y,?_,?_⟩
 ·show R.rep _ _ (f (g y)) cs;rw[c];exact l
 ·show ok (f (g y));rw[c];exact A⟩
end
section
variable {P:lU}{H:Type}{enc:lS×lR->H}
variable {w:lQ}
theorem Zn6{b t:Nat}{v:lR}(c:Wh P t=true)(h:Value.okWide P w .any b t v):∃cs,v=.agg cs:=by
 unfold Wh at c;unfold Value.okWide at h;split at c
 ·rename_i d;rw[d]at h;have⟨cs,h,_⟩:=h;exact⟨cs,h⟩
 ·rename_i d;rw[d]at h;have⟨cs,h,_⟩:=h;exact⟨cs,h⟩
 ·cases c
theorem Zmz(j:laidOutB P=true){W k:lQ}{l:Nat->Bool}:∀ {g:List lS} {f:List lR} {ds:List (DataW H)} {ps:List MemPlace},g.all (fun t=>P.readableRec t && decide (t<P.types.size))=true ->
  fX enc P W 0 (fun _=>true) true g f ds ps->(∀p∈ps,W.sameAt k p)->(∀p∈ps,l p.block=true)->fX enc P k 0 l true g f ds ps
 | [],f,ds,ps,_,h,_,_=>by
  cases f<;>cases ds<;>simp only[fX]at h ⊢<;>first|exact h|exact h.elim
 |t::g,f,ds,ps,ht,h,hs,hp=>by
  obtain⟨v,m,d,r,p,q,rfl,rfl,rfl,u,y⟩:=trodAll_cons h;simp only[List.all_cons,Zc,l8]at ht;exact trodAll_cons_mk (WideElems.Trod_stays j ht.1.1 ht.1.2 u (fun x c=>hs x (aS.2 (.inl c))) fun x c=>hp x (aS.2 (.inl c)))
   (Zmz j ht.2 y (fun x c=>hs x (aS.2 (.inr c))) fun x c=>hp x (aS.2 (.inr c)))
theorem Zru{f:Func}{s:ChangeSpec}{Zay fresh g r:Bool}{W z:lQ}{args:Array lR}{ds:List (DataW H)}{d:List MemPlace}{tb:lS}(S:laidOutB P=true)
  (G:f.params.toList.all (fun t=>P.readableRec t && decide (t<P.types.size))=true) (u:s.vars=[]) (M:f.resultTypes=#[tb]) (D:P.underlying tb=some .bool)
  (I:DataW.Whole enc P f.params.toList s.vars Zay W args.toList ds [] d) (v:s.fn H (ds++[])={ results:=[.lit (.bool true)],args:=ds }) (A:Ext (Uq W) W z) :
  s.post enc P f Zay fresh g r W args (.bool true) z:=by
 have y:=I.lt;have h:∀p∈d,W.sameAt z p:=fun p l=>by
  cases p with
  |cell b off=>
   have:=A.block b (y _ l);show z.cell? ⟨b,off,none⟩=W.cell? ⟨b,off,none⟩;unfold World.cell?;simp only[this]
  |map b=>exact A.block b (y _ l)
 have j:∀p∈d,(fun b=>decide (b<W.heap.size)) p.block=true:=fun p l=>by simpa using y p l
 obtain⟨p,q,T,hV,rfl,O,R⟩:=id I;rw[u]at hV;have Y:q=[]:=hV;subst Y;rw[bh]at h j O R;have m:∀(b:Nat) (C:Nat->Bool) (N:Bool),fX enc P z b C N f.resultTypes.toList ((eh true).resultList f.resultTypes.size) [.lit (.bool true)] []:=fun b C N=>by rw[M];exact trodAll_cons_mk (RowKit.shut_bool D true) trodAll_mk0
 have k:∀C:Nat->Bool,(∀x∈p,C x.block=true)->fX enc P z 0 C true f.params.toList args.toList ds p:=fun C K=>Zmz S G T h K;refine⟨ds,[],p++[],[],p,[],I,?_,?_,?_,?_,fun _=>⟨?_,[.lit (.bool true)]++ds,[],([]++p)++[],⟨[]++p,[],trodAll_append (k _ (fun _ _=>rfl)) (m _ _ _),by rw[u];rfl,rfl,?_,?_⟩,?_⟩⟩
 ·rw[v];exact m _ _ _
 ·rw[v];exact k _ j
 ·rw[v,u];rfl
 ·refine⟨A.os,A.output.out,fun i hi=>?_⟩;rw[A.block i hi];cases hh:W.heap[i]? with
  |none=>trivial
  |some o=>
   cases o with
   |cells c ty fr=>exact⟨rfl,rfl,rfl,fun _ _=>rfl⟩
   |map es L=>exact .inr ⟨rfl,rfl⟩
   |_=>rfl
 ·exact RowKit.ok_one M rfl (RowKit.okWide_bool_mk D true)
 ·intro b off l;simp only[List.nil_append,bh]at l;have:=O b off l;have Z:=A.block b (lj (j _ l));unfold World.frozen? at this ⊢;rw[Z];exact this
 ·intro U;simpa using R U
 ·intro x V _;simpa using V
structure Opened (F:YJ) (w:lQ) (n:Nat) (fs:List (Nat×VF)) (az:List (List SC×List lR)) (E:lC):Prop where
 one:∀k,(E.ρ k).oneCell'=true
 facts:∀p∈fs,p.1<n/\p.2.plain=true/\p.2.ok E F w (E.ρ p.1)
 args:∀q∈az,q.1.map (Yn E)=q.2/\∀c∈q.1,SC.kb n c
theorem Opened.start(F:YJ)(w:lQ):Opened F w 0 [] [] QA:=⟨fun _=>rfl,by simp,by simp⟩
theorem Ztd{E E':lC}{F:YJ}{v:lR}:∀ {f:VF},f.plain=true->f.ok E F w v->f.ok E' F w v
 | .sl _ _,_,h=>h
 | .fn _,_,h=>h
 | .pl _,h,_ | .el _ _,h,_ | .vw _ _ _ _,h,_=>by cases h
theorem Opened.step{F:YJ}{w:lQ}{n:Nat}{fs:List (Nat×VF)}{l:List (List SC×List lR)}{E:lC}(h:Opened F w n fs l E){α:Type}{R:k6 α}(O:ki R){x:α}{m:List lR}(u:R.rep F w x m) :
  ∃E',Opened F w (n+O.nk) (fs++O.facts n x) (l++[(O.cells n x,m)]) E':=by
 have⟨E',r,_,_,y,z,A,C⟩:=O.ok u n E h.one;refine⟨E',y,fun p f=>?_,fun q g=>?_⟩
 ·rcases aS.1 f with f|f
  ·have⟨j,d,k⟩:=h.facts p f;exact⟨by omega,d,by rw[(r p.1 j).1];exact Ztd d k⟩
  ·have⟨_,j,d,k⟩:=A p f;exact⟨j,d,k⟩
 ·rcases aS.1 g with g|g
  ·have⟨j,d⟩:=h.args q g;exact⟨by rw[L2 r d];exact j,fun c v=>(d c v).mono (bR _ _)⟩
  ·rw[List.mem_singleton.1 g];exact⟨z.symm,C⟩
theorem Opened.V{F:YJ}{n:Nat}{fs c:List (Nat×VF)}{d:List (List SC×List lR)}{E:lC}(h:Opened F w n fs d E)(hV:c=fs):∀k x,Yg c k=some x->x.ok E F w (E.ρ k):=
 fun k x f=>(h.facts (k,x) (hV▸Xk f)).2.2
def Hk:Nat->DataW Unit->List lR
 |0,_=>[]
 |_+1,.lit l=>[l.value]
 |n+1,.agg l=>l.flatMap (Hk n)
 |_+1,_=>[]
end
end Go.Kx
end
