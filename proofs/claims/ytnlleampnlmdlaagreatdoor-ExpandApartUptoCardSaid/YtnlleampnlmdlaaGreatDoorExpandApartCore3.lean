/- Aids for the walks, part 3: a symbolic state of the machine, and that each step of the machine keeps it. -/
import Derived.WalkKit
import Derived.ProofKit
import Derived.OpenShut
import Derived.JoinedCond
import Derived.Deep.DeepHandedRow
import Derived.Scope
import Derived.KernelRfl
import Derived.Sort.AssemblyPlain
import Derived.Shelf.SlSortCmp.Insertion
import Derived.Shelf.SlSortCmp.NoneTotal
import Derived.Lib.LaidTab
import Derived.Lib.Builder
import Derived.Lib.UnsafeStr
import Derived.Sort.EncStr
import Derived.Sort.Grow
import Derived.Lib.SlicesCompact
import Derived.Test.YtnlleampnlmdlaaGreatDoorExpandApartCore2
set_option linter.all false
section
namespace Go.Kx
variable [LxP]
open Go.ChangeShapes Go.WideShapes
structure Bulk where
 f:{H:Type}→DataW H→Nat
 all:{H:Type}→List (DataW H)→Nat
 str:∀ {H:Type} (b:List UInt8),f (.lit (.string b):DataW H)=b.length+1
 slice:∀ {H:Type} (e s:List (DataW H)),f (.slice e s)=all e+all s+1
 agg:∀ {H:Type} (l:List (DataW H)),f (.agg l)=all l+1
 nil:∀ {H:Type},all ([]:List (DataW H))=0
 cons:∀ {H:Type} (d:DataW H) l,all (d::l)=f d+all l
 one:∀ {H:Type} (d:DataW H),1≤f d
def bd:Nat:=1048576
theorem Bulk.mem (B:Bulk) {H:Type} {d:DataW H}:∀ {l:List (DataW H)},d∈l→B.f d≤B.all l
 | x::l,h=>by
  rw [B.cons]
  rcases List.mem_cons.1 h with rfl | h
  ·omega
  ·have:=B.mem h;omega
theorem Bulk.len (B:Bulk) {H:Type}:∀ (l:List (DataW H)),l.length≤B.all l
 | []=>by simp
 | x::l=>by rw [B.cons,List.length_cons];have:=B.len l;have:=B.one x;omega
abbrev Old (w:World):FSet:=fun b=>b < w.heap.size
def Rdb (P:Program) (B:Bulk) (t:TypeId) {α:Type} (R:TRep α) (ok:α→Prop):Prop:=R.sz=P.cellsOf t ∧
 ∀ {H:Type} (enc:TypeId × Value→H) (w:World) (fuel:Nat) (cs:List Value) (x:DataW H × List MemPlace),DataW.trod enc P w 0 (fun _=>true) true fuel t cs=some x→B.f x.1≤bd →
  ∃ a,R.rep (Old w) w a cs∧ok a
section
variable {P:Program} {B:Bulk} {t:TypeId}
theorem Rdb.int {k:IntKind} (hu:P.underlying t=some (.int k)) (hc:P.cellsOf t=1):Rdb P B t (rI k) (fun n=>(Lit.int k n).wf=true) :=
 ⟨hc.symm,fun enc w fuel cs x h _=>by obtain ⟨n,rfl,_,hw⟩:=DataW.trod_int hu h;exact ⟨n,rfl,hw⟩⟩
theorem Rdb.bool (hu:P.underlying t=some .bool) (hc:P.cellsOf t=1):Rdb P B t rB (fun _=>True) :=
 ⟨hc.symm,fun enc w fuel cs x h _=>by obtain ⟨n,rfl,_⟩:=DataW.trod_bool hu h;exact ⟨n,rfl,trivial⟩⟩
theorem Rdb.str (hu:P.underlying t=some .string) (hc:P.cellsOf t=1):Rdb P B t rS (fun s=>s.size≤bd) :=
 ⟨hc.symm,fun enc w fuel cs x h hb=>by
  obtain ⟨n,rfl,rfl,_⟩:=DataW.trod_string hu h
  refine ⟨n,rfl,?_⟩
  rw [B.str] at hb
  have e:n.data.toList.length=n.size:=by rw [Array.length_toList];rfl
  omega⟩
theorem exists_list {α:Type} {Q:Nat→α→Prop}:∀ {n:Nat},(∀ i,i < n→∃ x,Q i x)→∃ xs:List α,xs.length=n∧∀ i x,xs[i]? = some x→Q i x
 | 0,_=>⟨[],rfl,by simp⟩
 | n+1,h=>by
  obtain ⟨xs,hl,hx⟩:=exists_list (n:=n) fun i hi=>h i (by omega)
  obtain ⟨y,hy⟩:=h n (by omega)
  refine ⟨xs++[y],by simp [hl],fun i x hi=>?_⟩
  rw [List.getElem?_append] at hi
  split at hi
  ·exact hx i x hi
  ·rename_i hge
   have hlt:=(List.getElem?_eq_some_iff.1 hi).1
   simp only [List.length_singleton] at hlt
   have e:i=n:=by omega
   subst e
   rw [hl,Nat.sub_self] at hi
   simp only [List.getElem?_cons_zero,Option.some.injEq] at hi
   subst hi;exact hy
theorem Rdb.slice {α:Type} {R:TRep α} {ok:α→Prop} {e:TypeId} (hu:P.underlying t=some (.slice e)) (hc:P.cellsOf t=1) (he:Rdb P B e R ok) :
    Rdb P B t (rSl R) (fun xs=>xs.length≤bd∧∀ x∈xs,ok x):=⟨hc.symm,fun enc w fuel cs x h hb=>by
  rcases DataW.trod_slice hu h with ⟨rfl,_⟩ | ⟨a,len,cap,elems,rest,n,rfl,rfl,rfl,_,hlc,_,hel,hx,_⟩
  · exact ⟨[],⟨_,rfl,.inl ⟨rfl,_,_,rfl⟩⟩,by simp [bd],by simp⟩
  · simp only at hb
    rw [B.slice] at hb
    have hlen:=B.len (elems.map (·.1))
    rw [List.length_map,hel] at hlen
    have hpos:0 < P.cellsOf e:=by rw [← he.1];exact R.pos
    have key:∀ i,i < len→∃ x,∃ cs y,w.cells? 0 (a.add (i * P.cellsOf e)) (P.cellsOf e)=some cs∧elems[i]? = some y∧R.rep (Old w) w x cs∧ok x:=fun i hi=>by
      have h1:=hx i hi
      have hlt:i < elems.length:=by omega
      rw [List.getElem?_eq_getElem hlt,Option.bind_eq_some_iff] at h1
      obtain ⟨cs,h2,h3⟩:=h1
      have hm:elems[i].1∈elems.map (·.1):=List.mem_map.2 ⟨_,List.getElem_mem hlt,rfl⟩
      obtain ⟨x,h4,h5⟩:=he.2 enc w n cs _ h3 (by have:=B.mem hm;omega)
      exact ⟨x,cs,_,h2,List.getElem?_eq_getElem hlt,h4,h5⟩
    obtain ⟨xs,hl,hq⟩:=exists_list key
    have hok:∀ x∈xs,ok x:=fun x hm=>by
      obtain ⟨i,hi⟩:=List.mem_iff_getElem?.1 hm
      obtain ⟨_,_,_,_,_,h⟩:=hq i x hi
      exact h
    refine ⟨xs,⟨_,rfl,?_⟩,by omega,hok⟩
    rcases Nat.eq_zero_or_pos len with h0 | h0
    · subst h0
      have:xs=[]:=List.eq_nil_of_length_eq_zero hl
      subst this
      exact .inl ⟨rfl,_,_,rfl⟩
    · -- the block
      have hcell:∀ i j cs,i < len→w.cells? 0 (a.add (i * P.cellsOf e)) (P.cellsOf e)=some cs→j < P.cellsOf e→w.cell? ((a.add (i * P.cellsOf e)).add j)=cs[j]? := fun i j cs _ hc hj=>by
        unfold World.cells? at hc
        rw [if_pos (Nat.zero_le _)] at hc
        have:=mapM_some_get hc j j (by simp [hj])
        exact this
      have hcl:∀ i cs,w.cells? 0 (a.add (i * P.cellsOf e)) (P.cellsOf e)=some cs→cs.length=P.cellsOf e:=fun i cs hc=>by
        unfold World.cells? at hc
        rw [if_pos (Nat.zero_le _)] at hc
        simpa using mapM_some_length hc
      obtain ⟨x0,hx0⟩:∃ x0,xs[0]? = some x0:=⟨_,List.getElem?_eq_getElem (by omega)⟩
      obtain ⟨cs0,y0,hc0,_,_,_⟩:=hq 0 x0 hx0
      have h00:=hcell 0 0 cs0 h0 hc0 hpos
      have hadd0:(a.add (0 * P.cellsOf e)).add 0=a:=by unfold Addr.add;simp
      rw [hadd0,List.getElem?_eq_getElem (by rw [hcl 0 cs0 hc0];exact hpos)] at h00
      unfold World.cell? at h00
      split at h00
      · rename_i arr ty fz hh
        cases hsp:a.spot with
        | some s=>rw [hsp] at h00;simp at h00
        | none =>
          have ha:a=⟨a.block,a.off,none⟩:=by cases a;simp at hsp;simp [hsp]
          have hlt:a.block < w.heap.size:=(Array.getElem?_eq_some_iff.1 hh).1
          refine .inr ⟨a.block,a.off,cap,arr,ty,fz,by rw [hl,← ha],by omega,hlt,hh,fun i x hi=>?_⟩
          obtain ⟨cs,y,hcs,_,hrep,_⟩:=hq i x hi
          have hil:i < len:=by have:=(List.getElem?_eq_some_iff.1 hi).1;omega
          refine ⟨cs,hrep,fun j v hj=>?_⟩
          have hjl:j < P.cellsOf e:=by have:=(List.getElem?_eq_some_iff.1 hj).1;rw [hcl i cs hcs] at this;exact this
          have:=hcell i j cs hil hcs hjl
          rw [ha,addr_add,addr_add,cell_at hh,hj] at this
          rw [he.1]
          exact this
      · cases h00⟩
def RdF (P:Program) (B:Bulk) (fs:List Field) (off:Nat) {β:Type} (R:TRep β) (ok:β→Prop):Prop :=
  ∀ {H:Type} (enc:TypeId × Value→H) (w:World) (n:Nat) (cs:List Value) (xs:List (DataW H × List MemPlace)),xs.length=fs.length →
    (∀ (i:Nat) (f:Field),fs[i]? = some f→DataW.trod enc P w 0 (fun _=>true) true n f.type ((cs.drop f.offset).take (P.cellsOf f.type))=xs[i]?)→B.all (xs.map (·.1))≤bd →
    ∃ y,R.rep (Old w) w y ((cs.drop off).take R.sz)∧ok y
theorem RdF.one {f:Field} {α:Type} {R:TRep α} {ok:α→Prop} (h:Rdb P B f.type R ok):RdF P B [f] f.offset R ok:=fun enc w n cs xs hl hx hb=>by
 obtain ⟨x,rfl⟩:=List.length_eq_one_iff.1 hl
 have h0:=hx 0 f rfl
 simp only [List.getElem?_cons_zero] at h0
 simp only [List.map_cons,List.map_nil] at hb
 rw [B.cons,B.nil] at hb
 obtain ⟨a,h1,h2⟩:=h.2 enc w n _ x h0 (by omega)
 rw [h.1]
 exact ⟨a,h1,h2⟩
theorem RdF.cons {f:Field} {fs:List Field} {off:Nat} {α β:Type} {R1:TRep α} {R2:TRep β} {ok1:α→Prop} {ok2:β→Prop} (h1:Rdb P B f.type R1 ok1) (h2:RdF P B fs off R2 ok2) (ho:off=f.offset+R1.sz) :
  RdF P B (f::fs) f.offset (rP R1 R2) (fun y=>ok1 y.1∧ok2 y.2):=fun enc w n cs xs hl hx hb=>by
 cases xs with
 | nil=>cases hl
 | cons x xs =>
  have h0:=hx 0 f rfl
  simp only [List.getElem?_cons_zero] at h0
  simp only [List.map_cons] at hb
  rw [B.cons] at hb
  obtain ⟨a,g1,g2⟩:=h1.2 enc w n _ x h0 (by omega)
  obtain ⟨b,g3,g4⟩:=h2 enc w n cs xs (by simpa using hl) (fun i f' hf=>by have:=hx (i+1) f' (by simpa using hf);simpa using this) (by omega)
  rw [← h1.1] at g1
  refine ⟨(a,b),⟨_,_,?_,g1,g3⟩,g2,g4⟩
  rw [ho,← List.drop_drop]
  exact List.take_add
theorem Rdb.struct {α β:Type} {f:α→β} {g:β→α} {R:TRep β} {ok:β→Prop} {fs:List Field} (hu:P.underlying t=some (.struct fs.toArray)) (hc:P.cellsOf t=R.sz) (hfg:∀ y,f (g y)=y) (h:RdF P B fs 0 R ok) :
  Rdb P B t (rM f R) (fun x=>ok (f x)):=⟨hc.symm,fun enc w fuel cs x hx hb=>by
 obtain ⟨xs,n,rfl,rfl,hl,hn,hf⟩:=DataW.trod_struct hu hx
 simp only at hb
 rw [B.agg] at hb
 obtain ⟨y,h1,h2⟩:=h enc w n cs xs (by simpa using hn) (fun i f' hi=>hf i f' (by simpa using hi)) (by omega)
 rw [List.drop_zero,← hc,← hl,List.take_length] at h1
 refine ⟨g y,?_,?_⟩
 ·show R.rep _ _ (f (g y)) cs
  rw [hfg];exact h1
 ·show ok (f (g y));rw [hfg];exact h2⟩
def RdA (P:Program) (B:Bulk) (e:TypeId) (m off:Nat) {β:Type} (R:TRep β) (ok:β→Prop):Prop :=
  ∀ {H:Type} (enc:TypeId × Value→H) (w:World) (n:Nat) (cs:List Value) (xs:List (DataW H × List MemPlace)),xs.length=m →
    (∀ (i:Nat),i < m→DataW.trod enc P w 0 (fun _=>true) true n e ((cs.drop ((off+i) * P.cellsOf e)).take (P.cellsOf e))=xs[i]?)→B.all (xs.map (·.1))≤bd →
    ∃ y,R.rep (Old w) w y ((cs.drop (off * P.cellsOf e)).take R.sz)∧ok y
theorem RdA.one {e off:Nat} {α:Type} {R:TRep α} {ok:α→Prop} (h:Rdb P B e R ok):RdA P B e 1 off R ok:=fun enc w n cs xs hl hx hb=>by
 obtain ⟨x,rfl⟩:=List.length_eq_one_iff.1 hl
 have h0:=hx 0 (by omega)
 simp only [List.getElem?_cons_zero,Nat.add_zero] at h0
 simp only [List.map_cons,List.map_nil] at hb
 rw [B.cons,B.nil] at hb
 obtain ⟨a,h1,h2⟩:=h.2 enc w n _ x h0 (by omega)
 rw [h.1]
 exact ⟨a,h1,h2⟩
theorem RdA.cons {e off m:Nat} {α β:Type} {R1:TRep α} {R2:TRep β} {ok1:α→Prop} {ok2:β→Prop} (h1:Rdb P B e R1 ok1) (h2:RdA P B e m (off+1) R2 ok2):RdA P B e (m+1) off (rP R1 R2) (fun y=>ok1 y.1∧ok2 y.2) :=
 fun enc w n cs xs hl hx hb=>by
 cases xs with
 | nil=>cases hl
 | cons x xs =>
  have h0:=hx 0 (by omega)
  simp only [List.getElem?_cons_zero,Nat.add_zero] at h0
  simp only [List.map_cons] at hb
  rw [B.cons] at hb
  obtain ⟨a,g1,g2⟩:=h1.2 enc w n _ x h0 (by omega)
  obtain ⟨b,g3,g4⟩:=h2 enc w n cs xs (by simpa using hl) (fun i hi=>by have:=hx (i+1) (by omega);rw [show off+(i+1)=off+1+i by omega] at this;simpa using this) (by omega)
  rw [← h1.1] at g1
  refine ⟨(a,b),⟨_,_,?_,g1,g3⟩,g2,g4⟩
  rw [Nat.add_mul,Nat.one_mul,← h1.1,← List.drop_drop]
  exact List.take_add
theorem Rdb.array {β:Type} {R:TRep β} {ok:β→Prop} {m e:Nat} (hu:P.underlying t=some (.array m e)) (hc:P.cellsOf t=R.sz) (h:RdA P B e m 0 R ok):Rdb P B t R ok:=⟨hc.symm,fun enc w fuel cs x hx hb=>by
 obtain ⟨xs,n,rfl,rfl,hl,hn,hf⟩:=DataW.trod_array hu hx
 simp only at hb
 rw [B.agg] at hb
 obtain ⟨y,h1,h2⟩:=h enc w n cs xs hn (fun i hi=>by have:=hf i hi;rw [Nat.zero_add];exact this) (by omega)
 rw [Nat.zero_mul,List.drop_zero,← hc,← hl,List.take_length] at h1
 exact ⟨y,h1,h2⟩⟩
end
section
variable {P:Program} {H:Type} {enc:TypeId × Value→H}
theorem arg_agg {w:World} {b t:Nat} {v:Value} (ha:aggOf P t=true) (h:Value.okWide P w .any b t v):∃ cs,v=.agg cs:=by
 unfold aggOf at ha
 unfold Value.okWide at h
 split at ha
 ·rename_i hu;rw [hu] at h;obtain ⟨cs,h,_⟩:=h;exact ⟨cs,h⟩
 ·rename_i hu;rw [hu] at h;obtain ⟨cs,h,_⟩:=h;exact ⟨cs,h⟩
 ·cases ha
theorem arg_leaf {w:World} {b t:Nat} {v:Value} (ha:(match P.underlying t with | some (.int _) | some .bool | some .string | some (.slice _)=>true | _=>false)=true) (h:Value.okWide P w .any b t v):v.cells=#[v]:=by
 unfold Value.okWide at h
 split at ha
 ·rename_i hu;rw [hu] at h;simp only [Cell.okWide,Cell.ok,hu] at h;cases v<;>first | rfl | (simp at h)
 ·rename_i hu;rw [hu] at h;simp only [Cell.okWide,Cell.ok,hu] at h;cases v<;>first | rfl | (simp at h)
 ·rename_i hu;rw [hu] at h;simp only [Cell.okWide,Cell.ok,hu] at h;cases v<;>first | rfl | (simp at h)
 ·rename_i hu;rw [hu] at h;simp only [Cell.okWide,Cell.ok,hu] at h;cases v<;>first | rfl | (simp at h)
 ·cases ha
theorem trodAll_stays (hl:laidOutB P=true) {W W':World} {sp:Nat→Bool}:∀ {ts:List TypeId} {vs:List Value} {ds:List (DataW H)} {ps:List MemPlace},ts.all (fun t=>P.readableRec t && decide (t < P.types.size))=true →
  DataW.TrodAll enc P W 0 (fun _=>true) true ts vs ds ps→(∀ p∈ps,W.sameAt W' p)→(∀ p∈ps,sp p.block=true)→DataW.TrodAll enc P W' 0 sp true ts vs ds ps
 | [],vs,ds,ps,_,h,_,_=>by
  cases vs<;>cases ds<;>simp only [DataW.TrodAll] at h ⊢<;>first | exact h | exact h.elim
 | t::ts,vs,ds,ps,ht,h,hs,hp=>by
  obtain ⟨v,vs',d,ds',p,q,rfl,rfl,rfl,h1,h2⟩:=trodAll_cons h
  simp only [List.all_cons,Bool.and_eq_true,decide_eq_true_eq] at ht
  exact trodAll_cons_mk (WideElems.Trod_stays hl ht.1.1 ht.1.2 h1 (fun x hx=>hs x (List.mem_append.2 (.inl hx))) fun x hx=>hp x (List.mem_append.2 (.inl hx)))
   (trodAll_stays hl ht.2 h2 (fun x hx=>hs x (List.mem_append.2 (.inr hx))) fun x hx=>hp x (List.mem_append.2 (.inr hx)))
theorem law_post {f:Func} {s:ChangeSpec} {apart fresh handsOn again:Bool} {W W':World} {args:Array Value} {ds:List (DataW H)} {before:List MemPlace} {tb:TypeId} (hl:laidOutB P=true)
  (hts:f.params.toList.all (fun t=>P.readableRec t && decide (t < P.types.size))=true) (hvs:s.vars=[]) (hr:f.resultTypes=#[tb]) (htb:P.underlying tb=some .bool)
  (hW:DataW.Whole enc P f.params.toList s.vars apart W args.toList ds [] before) (hfn:s.fn H (ds++[])={ results:=[.lit (.bool true)],args:=ds }) (he:Ext (Old W) W W') :
  s.post enc P f apart fresh handsOn again W args (.bool true) W':=by
 have hlt:=hW.lt
 have hsame:∀ p∈before,W.sameAt W' p:=fun p hp=>by
  cases p with
  | cell b off =>
   have:=he.block b (hlt _ hp)
   show W'.cell? ⟨b,off,none⟩=W.cell? ⟨b,off,none⟩
   unfold World.cell?;simp only [this]
  | map b=>exact he.block b (hlt _ hp)
 have hold:∀ p∈before,(fun b=>decide (b < W.heap.size)) p.block=true:=fun p hp=>by simpa using hlt p hp
 obtain ⟨p,q,hA,hV,rfl,hz,hn⟩:=id hW
 rw [hvs] at hV
 have hq:q=[]:=hV
 subst hq
 rw [List.append_nil] at hsame hold hz hn
 have hres:∀ (b:Nat) (sp:Nat→Bool) (hd:Bool),DataW.TrodAll enc P W' b sp hd f.resultTypes.toList ((Value.bool true).resultList f.resultTypes.size) [.lit (.bool true)] []:=fun b sp hd=>by
  rw [hr];exact trodAll_cons_mk (RowKit.shut_bool htb true) trodAll_mk0
 have hargs:∀ sp:Nat→Bool,(∀ x∈p,sp x.block=true)→DataW.TrodAll enc P W' 0 sp true f.params.toList args.toList ds p:=fun sp hsp=>trodAll_stays hl hts hA hsame hsp
 refine ⟨ds,[],p++[],[],p,[],hW,?_,?_,?_,?_,fun _=>⟨?_,[.lit (.bool true)]++ds,[],([]++p)++[],⟨[]++p,[],trodAll_append (hargs _ (fun _ _=>rfl)) (hres _ _ _),by rw [hvs];rfl,rfl,?_,?_⟩,?_⟩⟩
 ·rw [hfn];exact hres _ _ _
 ·rw [hfn];exact hargs _ hold
 ·rw [hfn,hvs];rfl
 ·refine ⟨he.os,he.output.out,fun i hi=>?_⟩
  rw [he.block i hi]
  cases hh:W.heap[i]? with
  | none=>trivial
  | some o =>
   cases o with
   | cells c ty fr=>exact ⟨rfl,rfl,rfl,fun _ _=>rfl⟩
   | map es clock=>exact .inr ⟨rfl,rfl⟩
   | _=>rfl
 ·exact RowKit.ok_one hr rfl (RowKit.okWide_bool_mk htb true)
 ·intro b off hp
  simp only [List.nil_append,List.append_nil] at hp
  have:=hz b off hp
  have hb:=he.block b (of_decide_eq_true (hold _ hp))
  unfold World.frozen? at this ⊢
  rw [hb];exact this
 ·intro ha
  simpa using hn ha
 ·intro x hx _
  simpa using hx
structure Opened (F:FSet) (w:World) (n:Nat) (fs:List (Nat × VF)) (az:List (List SC × List Value)) (E:Env):Prop where
 one:∀ k,(E.ρ k).oneCell'=true
 facts:∀ p∈fs,p.1 < n∧p.2.plain=true∧p.2.ok E F w (E.ρ p.1)
 args:∀ q∈az,q.1.map (den E)=q.2∧∀ c∈q.1,SC.kb n c
theorem Opened.start (F:FSet) (w:World):Opened F w 0 [] [] E00:=⟨fun _=>rfl,by simp,by simp⟩
theorem plain_env {E E':Env} {F:FSet} {w:World} {v:Value}:∀ {f:VF},f.plain=true→f.ok E F w v→f.ok E' F w v
 | .sl _ _,_,h=>h
 | .fn _,_,h=>h
 | .pl _,h,_ | .el _ _,h,_ | .vw _ _ _ _,h,_=>by cases h
theorem Opened.step {F:FSet} {w:World} {n:Nat} {fs:List (Nat × VF)} {az:List (List SC × List Value)} {E:Env} (h:Opened F w n fs az E) {α:Type} {R:TRep α} (O:Opn R) {x:α} {vs:List Value} (hr:R.rep F w x vs) :
  ∃ E',Opened F w (n+O.nk) (fs++O.facts n x) (az++[(O.cells n x,vs)]) E':=by
 obtain ⟨E',h1,_,_,h2,h3,h4,h5⟩:=O.ok hr n E h.one
 refine ⟨E',h2,fun p hp=>?_,fun q hq=>?_⟩
 ·rcases List.mem_append.1 hp with hp | hp
  ·obtain ⟨g1,g2,g3⟩:=h.facts p hp
   exact ⟨by omega,g2,by rw [(h1 p.1 g1).1];exact plain_env g2 g3⟩
  ·obtain ⟨_,g1,g2,g3⟩:=h4 p hp
   exact ⟨g1,g2,g3⟩
 ·rcases List.mem_append.1 hq with hq | hq
  ·obtain ⟨g1,g2⟩:=h.args q hq
   exact ⟨by rw [den_map_eqb h1 g2];exact g1,fun c hc=>(g2 c hc).mono (Nat.le_add_right _ _)⟩
  ·rw [List.mem_singleton.1 hq]
   exact ⟨h3.symm,h5⟩
theorem Opened.V {F:FSet} {w:World} {n:Nat} {fs V0:List (Nat × VF)} {az:List (List SC × List Value)} {E:Env} (h:Opened F w n fs az E) (hV:V0=fs):∀ k x,look V0 k=some x→x.ok E F w (E.ρ k) :=
 fun k x hk=>(h.facts (k,x) (hV ▸ look_mem hk)).2.2
def laidFlat:Nat→DataW Unit→List Value
 | 0,_=>[]
 | _+1,.lit l=>[l.value]
 | n+1,.agg l=>l.flatMap (laidFlat n)
 | _+1,_=>[]
end
end Go.Kx
end
section
namespace Go.Kx
variable [LxP]
structure Dl:Type 1 where
 dL:List (Nat × SV)
 dM:List (Nat × MO)
 dV:List (Nat × VF)
 n:Nat
def Dl.ap (d:Dl) (s:St):St:=⟨d.dL++s.L,d.dM++s.M,d.dV++s.V,s.nx+d.n⟩
inductive Cf:Type 1
 | co (k:List Item) (s:St)
 | rg (m:Option (Nat × St × List Ent)) (ops:Array Oper) (i:Nat) (k:List Item) (s:St)
 | no
def Wd (X:Ctx):Cf→Prop
 | .co k s=>WP X k s
 | .rg none ops i k s=>WPr X ops (List.range' i (ops.size-i)) (rk X k) s
 | .rg (some q) ops i k _=>AllLS X ops 0 q.2.2→q.2.2.length=i→WP X (.code (.region q.1 ops true)::k) q.2.1
 | .no=>False
structure Wc (X:Ctx) (c:Cf):Prop where
 h:Wd X c
def readsR (ops:Array Oper) (o:Oper):List Nat:=(match o.guard with
 | none=>[]
 | some (j,_)=>match ops[j]? with
  | some oj=>oj.dst.toList
  | none=>[])++tmpsO o.op.operands.toList
where tmpsO:List Operand→List Nat
 | []=>[]
 | .tmp t::r=>t::tmpsO r
 | _::r=>tmpsO r
def pickR (L:List (Nat × SV)):List Nat→List (Nat × SV)
 | []=>[]
 | d::r=>match look L d with
  | some v=>(d,v)::pickR L r
  | none=>pickR L r
def keysC:SC→List Nat
 | .bp k _ | .sp k _ _ _ | .sl k | .px k _=>[k]
 | .cl _ fs ks=>fs++ks
 | _=>[]
def keysL:List SC→List Nat
 | []=>[]
 | c::r=>keysC c++keysL r
def cellsV:SV→List SC
 | .c x=>[x]
 | .a cs=>cs
 | .t vs=>vs.flatMap fun v=>match v with | .inl x=>[x] | .inr cs=>cs
 | .u=>[]
def keysP:List (Nat × SV)→List Nat
 | []=>[]
 | q::r=>keysL (cellsV q.2)++keysP r
def subR {α:Type _} (ks:List Nat):List (Nat × α)→List Nat→List (Nat × α)
 | [],_=>[]
 | (k,v)::r,seen=>bif memB k ks && !(memB k seen) then (k,v)::subR ks r (k::seen) else subR ks r seen
def baseK (V:List (Nat × VF)):List Nat→List Nat
 | []=>[]
 | k::r=>match look V k with
  | some (.el j _)=>k::j::baseK V r
  | some (.vw j _ _ _)=>k::j::baseK V r
  | _=>k::baseK V r
def deepK (M:List (Nat × MO)) (V:List (Nat × VF)):Nat→List Nat→List Nat→List Nat
 | 0,_,acc=>acc
 | _+1,[],acc=>acc
 | n+1,k::r,acc=>bif memB k acc then deepK M V n r acc else
  deepK M V n ((match look M k with | some (.box cs _)=>keysL cs | _=>[])++(match look V k with | some (.el j _)=>[j] | some (.vw j _ _ _)=>[j] | some (.pl cs)=>keysL cs | _=>[])++r) (k::acc)
def isCallO:Op→Bool
 | .call c=>match c.callee with
  | .value _=>true
  | _=>false
 | _=>false
def noMem:Op→Bool
 | .move _ | .assign _ | .pick _ _ _ | .unOp _ _ _ | .extract _ _ | .field _ _ _ | .build _ _ | .alloc _ | .box _ _ | .nilCheck _ | .fieldAddr _ _ _ | .makeFunc _ _ _=>true
 | _=>false
def noMemS (o:Oper) (L:List (Nat × SV)) (V:List (Nat × VF)):Bool:=noMem o.op || match o.op with
 | .call c=>match c.callee with
  | .builtin .len=>match c.args.toList with
   | [x]=>match evalO L x with
    | some (.c (.sl k))=>match look V k with
     | some (.fn _)=>true
     | _=>false
    | _=>false
   | _=>false
  | _=>false
 | _=>false
def tabK (o:Oper) (L:List (Nat × SV)) (s:St):List Nat:=match o.op with
 | .load _ x=>match evalO L x with
  | some (.c (.v _))=>(s.M.filterMap fun p=>match p.2 with | .abs _=>some p.1 | _=>none)++s.V.filterMap fun p=>match p.2 with | .fn _=>some p.1 | _=>none
  | _=>[]
 | _=>[]
def absK:List (Nat × MO)→List Nat
 | []=>[]
 | (k,.abs _)::r=>k::absK r
 | _::r=>absK r
def redS (ops:Array Oper) (o:Oper) (s:St):St :=
 let L:=pickR s.L (readsR ops o)
 let ks:=bif isCallO o.op then deepK s.M s.V 10000 (keysP L) []++absK s.M else baseK s.V (keysP L)++tabK o L s
 ⟨L,bif noMemS o L s.V then [] else subR ks s.M [],subR ks s.V [],s.nx⟩
def entD (sv:St) (d:Dl):Ent:=⟨sv.L,sv.V,sv.M.filter (fun q=>memK q.1 d.dM),sv.M.filter (fun q => !(memK q.1 d.dM)),sv.nx,d.dL,d.dV,d.dM,sv.nx+d.n⟩
def vwS (m:Option (Nat × St × List Ent)) (ops:Array Oper) (o:Oper) (s:St):St:=match m with
 | none=>s
 | some _=>redS ops o s
def stepR (m:Option (Nat × St × List Ent)) (ops:Array Oper) (i:Nat) (k:List Item) (s sv:St) (d:Dl):Cf:=match m with
 | none=>.rg none ops (i+1) k (d.ap s)
 | some q=>.rg (some (q.1,q.2.1,q.2.2++[entD sv d])) ops (i+1) k (d.ap s)
theorem AllLS.snoc {X:Ctx} {ops:Array Oper}:∀ {l:List Ent} {i:Nat} {e:Ent},AllLS X ops i l→LS X ops (i+l.length) e→AllLS X ops i (l++[e])
 | [],i,e,_,h=>.cons h .nil
 | x::l,i,e,.cons h1 h2,h=>.cons h1 (AllLS.snoc h2 (by rw [show i+1+l.length=i+(x::l).length by simp;omega];exact h))
theorem look_filterK {α:Type _} {p:Nat→Bool}:∀ {l:List (Nat × α)} {k:Nat},look (l.filter fun q=>p q.1) k=bif p k then look l k else none
 | [],k=>by cases p k<;>rfl
 | (j,u)::r,k=>by
  rw [List.filter_cons]
  simp only []
  rw [look_cons]
  split
  ·rename_i hj
   rw [look_cons,look_filterK]
   split
   ·rename_i e;subst e;rw [hj];rfl
   ·rfl
  ·rename_i hj
   rw [look_filterK]
   split
   ·rename_i e;subst e;simp only [Bool.not_eq_true] at hj;rw [hj];rfl
   ·rfl
theorem LS.ent {X:Ctx} {ops:Array Oper} {i:Nat} {o:Oper} {sv:St} {d:Dl} (ho:ops[i]? = some o) (hg:guardV ops sv.L o=some true) (hd:d.dL.map (·.1)=o.dst.toList)
    (st:∀ nk E0 F0 w0 n0 Z E F w a,Sat (X.var nk E0 F0 w0 n0 Z) sv E F w a→o.wp X.P a w (fun a' w'=>∃ E' F',Sat (X.var nk E0 F0 w0 n0 Z) (d.ap sv) E' F' w' a') (fun _ _ _=>False)):LS X ops i (entD sv d):=by
  refine ⟨o,ho,hd,.inl ⟨hg,fun nk E0 F0 w0 n0 Z E F w a hs=>?_⟩⟩
  have key:∀ k m,look sv.M k=some m→look ((entD sv d).W++(entD sv d).R) k=some m:=fun k m h=>by
    show look (sv.M.filter (fun q=>memK q.1 d.dM)++sv.M.filter (fun q => !(memK q.1 d.dM))) k=some m
    rw [look_append,look_filterK (p:=fun k=>memK k d.dM),look_filterK (p:=fun k => !(memK k d.dM))]
    cases hq:memK k d.dM with
    | true=>simp only [cond_true,h]
    | false=>simp only [cond_false,Bool.not_false,cond_true,h]
  have hs1:Sat (X.var nk E0 F0 w0 n0 Z) sv E F w a:=hs.weaken rfl (fun _ _ h=>h) key (fun _ _ h=>h)
  refine Oper.wp_imp (fun a' w' hq=>?_) (st nk E0 F0 w0 n0 Z E F w a hs1)
  obtain ⟨E',F',hs2⟩:=hq
  refine ⟨E',F',hs2.weaken rfl (fun e v h=>?_) (fun k m h=>?_) (fun k f h=>?_)⟩
  · have h:look d.dL e=some v:=h
    show look (d.dL++sv.L) e=some v
    rw [look_append,h]
  · have h:look (d.dM++sv.M.filter (fun q => !(memK q.1 d.dM))) k=some m:=h
    show look (d.dM++sv.M) k=some m
    rw [look_append] at h ⊢
    cases hl:look d.dM k with
    | some v=>rw [hl] at h;exact h
    | none =>
      rw [hl] at h
      simp only [] at h ⊢
      rw [look_filterK (p:=fun k => !(memK k d.dM))] at h
      cases hq:memK k d.dM with
      | true=>rw [hq] at h;cases h
      | false=>rw [hq] at h;exact h
  · have h:look d.dV k=some f:=h
    show look (d.dV++sv.V) k=some f
    rw [look_append,h]
section
variable {X:Ctx} {tt:List (Nat × TD)}
theorem range_cons {ops:Array Oper} {i:Nat} {o:Oper} (h:ops[i]? = some o):List.range' i (ops.size-i)=i::List.range' (i+1) (ops.size-(i+1)):=by
 have:=(Array.getElem?_eq_some_iff.1 h).1
 rw [show ops.size-i=(ops.size-(i+1))+1 by omega,List.range'_succ]
theorem stepR_ok {m:Option (Nat × St × List Ent)} {ops:Array Oper} {i:Nat} {k:List Item} {s:St} {o:Oper} {d:Dl} (ho:ops[i]? = some o) (hg:guardV ops (vwS m ops o s).L o=some true) (hd:d.dL.map (·.1)=o.dst.toList)
    (st:∀ nk E0 F0 w0 n0 Z E F w a,Sat (X.var nk E0 F0 w0 n0 Z) (vwS m ops o s) E F w a→o.wp X.P a w (fun a' w'=>∃ E' F',Sat (X.var nk E0 F0 w0 n0 Z) (d.ap (vwS m ops o s)) E' F' w' a') (fun _ _ _=>False))
    (h:Wc X (stepR m ops i k s (vwS m ops o s) d)):Wc X (.rg m ops i k s):=by
  obtain ⟨h⟩:=h
  refine ⟨?_⟩
  cases m with
  | none =>
    show WPr X ops (List.range' i (ops.size-i)) (rk X k) s
    rw [range_cons ho]
    exact WPr.op ho hg (st X.nk X.E0 X.F0 X.w0 X.n0 X.Z) h
  | some q =>
    intro hA hl
    refine h (hA.snoc ?_) (by simp [hl])
    rw [Nat.zero_add,hl]
    exact LS.ent ho hg hd st
theorem skipR_ok {m:Option (Nat × St × List Ent)} {ops:Array Oper} {i:Nat} {k:List Item} {s:St} {o:Oper} {d:Nat} (ho:ops[i]? = some o) (hg:guardV ops (vwS m ops o s).L o=some false) (hd:o.dst=some d) (hn:Nat.blt d X.fn.ntmps=true)
  (h:Wc X (stepR m ops i k s (vwS m ops o s) ⟨[(d,.u)],[],[],0⟩)):Wc X (.rg m ops i k s):=by
 obtain ⟨h⟩:=h
 refine ⟨?_⟩
 cases m with
 | none =>
  show WPr X ops (List.range' i (ops.size-i)) (rk X k) s
  rw [range_cons ho]
  exact WPr.skip ho hg hd (blt_lt hn) h
 | some q =>
  intro hA hl
  refine h (hA.snoc ?_) (by simp [hl])
  rw [Nat.zero_add,hl]
  exact ⟨o,ho,by show [d]=_;rw [hd];rfl,.inr ⟨hg,fun d' v hm=>by
   have hm:(d',v)∈[(d,SV.u)]:=hm
   simp only [List.mem_singleton,Prod.mk.injEq] at hm
   exact ⟨hm.2,by rw [hm.1];exact blt_lt hn⟩,rfl,rfl⟩⟩
def silD (tt:List (Nat × TD)) (n:Nat) (o:Oper):St→Option Dl
 | ⟨L,M,V,nx⟩=>match o.op with
  | .alloc t=>match look tt t with
   | some d=>match o.dst with
    | some x=>bif Nat.blt x n then some ⟨[(x,.c (.bp nx 0))],[(nx,.box d.z t)],[],1⟩ else none
    | none=>none
   | none=>none
  | .box t v=>match evalO L v with
   | some sv=>match svCells sv with
    | some cs=>match o.dst with
     | some x=>bif Nat.blt x n then some ⟨[(x,.c (.bp nx 0))],[(nx,.box cs t)],[],1⟩ else none
     | none=>none
    | none=>none
   | none=>none
  | .store t ad v=>match look tt t with
   | some d=>match evalO L ad with
    | some (.c (.bp k off))=>match evalO L v with
     | some sv=>match svCells sv with
      | some ps=>match look M k with
       | some (.box cs t')=>bif (Nat.beq ps.length d.sz && Nat.ble (off+ps.length) cs.length) then (match o.dst with
        | none=>some ⟨[],[(k,.box (cs.take off++ps++cs.drop (off+ps.length)) t')],[],0⟩
        | some _=>none) else none
       | _=>none
      | none=>none
     | none=>none
    | _=>none
   | none=>none
  | op=>match sval tt ⟨L,M,V,nx⟩ op with
   | some v=>match o.dst with
    | some x=>bif Nat.blt x n then some ⟨[(x,v)],[],[],0⟩ else none
    | none=>none
   | none=>none
theorem silD_ok {n:Nat} {o:Oper} {s:St} {d:Dl} (h:silD tt n o s=some d):sil1 tt n o s=some (d.ap s)∧d.dL.map (·.1)=o.dst.toList:=by
  obtain ⟨L,M,V,nx⟩:=s
  obtain ⟨dst,op,ty,pos,aft,g⟩:=o
  unfold silD at h
  unfold sil1
  simp only [] at h ⊢
  split at h
  · rename_i t
    cases hd:look tt t with
    | none=>rw [hd] at h;cases h
    | some td =>
      rw [hd] at h
      simp only [] at h ⊢
      cases dst with
      | none=>cases h
      | some x =>
        simp only [] at h ⊢
        cases hb:Nat.blt x n with
        | false=>rw [hb] at h;cases h
        | true=>rw [hb] at h;cases h;refine ⟨?_,rfl⟩;simp only [hd,hb,cond_true];rfl
  · rename_i t v
    cases hv:evalO L v with
    | none=>rw [hv] at h;cases h
    | some sv =>
      rw [hv] at h
      simp only [] at h ⊢
      cases hc:svCells sv with
      | none=>rw [hc] at h;cases h
      | some cs =>
        rw [hc] at h
        simp only [] at h ⊢
        cases dst with
        | none=>cases h
        | some x =>
          simp only [] at h ⊢
          cases hb:Nat.blt x n with
          | false=>rw [hb] at h;cases h
          | true=>rw [hb] at h;cases h;refine ⟨?_,rfl⟩;simp only [hv,hc,hb,cond_true];rfl
  · rename_i t ad v
    cases hd:look tt t with
    | none=>rw [hd] at h;cases h
    | some td =>
      rw [hd] at h
      simp only [] at h ⊢
      split at h
      · rename_i k off had
        cases hv:evalO L v with
        | none=>rw [hv] at h;cases h
        | some sv =>
          rw [hv] at h
          simp only [] at h ⊢
          cases hc:svCells sv with
          | none=>rw [hc] at h;cases h
          | some ps =>
            rw [hc] at h
            simp only [] at h ⊢
            split at h
            · rename_i cs t' hm
              cases hb:(Nat.beq ps.length td.sz && Nat.ble (off+ps.length) cs.length) with
              | false=>rw [hb] at h;cases h
              | true =>
                rw [hb] at h
                simp only [cond_true] at h ⊢
                cases dst with
                | some x=>cases h
                | none =>
                  cases h
                  refine ⟨?_,rfl⟩;simp only [hd,had,hv,hc,hm,hb,cond_true];rfl
            · cases h
      · cases h
  · rename_i h1 h2 h3
    cases hv:sval tt ⟨L,M,V,nx⟩ op with
    | none=>rw [hv] at h;cases h
    | some v =>
      rw [hv] at h
      simp only [] at h
      cases dst with
      | none=>cases h
      | some x =>
        simp only [] at h
        cases hb:Nat.blt x n with
        | false=>rw [hb] at h;cases h
        | true =>
          rw [hb] at h;cases h
          refine ⟨?_,rfl⟩
          split
          · exact (h1 _ rfl).elim
          · exact (h2 _ _ rfl).elim
          · exact (h3 _ _ _ rfl).elim
          · simp only [hv,hb,cond_true];rfl
theorem WP.scope {X:Ctx} {s:St} {k:List Item} {c:Code} (h:WP X (.code c::.inScope c::k) s):WP X (.code (.scope c)::k) s :=
 fun E F w a hs=>Runs.head (fun _ _ _ _=>.one step_scope) (h E F w a hs)
theorem WP.inScope {X:Ctx} {s:St} {k:List Item} {c:Code} (h:WP X k s):WP X (.inScope c::k) s :=
 fun E F w a hs=>Runs.head (fun _ _ _ _=>.one step_inScope) (h E F w a hs)
def a1 (tt:List (Nat × TD)) (nt:Nat):Cf→Cf
 | .co k s=>match k with
  | .inBlock _::k'=>.co k' s
  | .inScope _::k'=>.co k' s
  | .code c::k'=>match c with
   | .seq x y=>.co (.code x::.code y::k') s
   | .skip=>.co k' s
   | .label _=>.co k' s
   | .block id x=>.co (.code x::.inBlock id::k') s
   | .scope x=>.co (.code x::.inScope x::k') s
   | .exit id=>match exitTo id k' with
    | some k2=>.co k2 s
    | none=>.no
   | .region id ops dr=>match dr with
    | true=>.rg (some (id,s,[])) ops 0 k' s
    | false=>.rg none ops 0 k' s
   | .cond x y z=>match x with
    | .tmp d=>match look s.L d with
     | some (.c (.b t))=>match t with
      | true=>.co (.code y::k') s
      | false=>.co (.code z::k') s
     | _=>.no
    | .const (.bool t)=>match t with
     | true=>.co (.code y::k') s
     | false=>.co (.code z::k') s
    | _=>.no
   | _=>.no
  | _=>.no
 | .rg m ops i k s=>match ops[i]? with
  | none=>match m with
   | none=>bif Nat.beq i ops.size then .co k s else .no
   | some _=>.no
  | some o=>match guardV ops (vwS m ops o s).L o with
   | some true=>match silD tt nt o (vwS m ops o s) with
    | some d=>stepR m ops i k s (vwS m ops o s) d
    | none=>.no
   | some false=>match o.dst with
    | some d=>bif Nat.blt d nt then stepR m ops i k s (vwS m ops o s) ⟨[(d,.u)],[],[],0⟩ else .no
    | none=>.no
   | none=>.no
 | .no=>.no
def adv (tt:List (Nat × TD)) (nt:Nat):Nat→Cf→Cf
 | 0,c=>c
 | n+1,c=>adv tt nt n (a1 tt nt c)
theorem a1_ok (htt:TTOk X.P tt) {c:Cf} (h:Wc X (a1 tt X.fn.ntmps c)):Wc X c:=by
 unfold a1 at h
 split at h
 ·split at h
  ·exact ⟨WP.inBlock h.1⟩
  ·exact ⟨WP.inScope h.1⟩
  ·split at h
   ·exact ⟨WP.seq h.1⟩
   ·exact ⟨WP.skip h.1⟩
   ·exact ⟨WP.label h.1⟩
   ·exact ⟨WP.block h.1⟩
   ·exact ⟨WP.scope h.1⟩
   ·split at h
    ·rename_i he;exact ⟨WP.exit he h.1⟩
    ·exact h.1.elim
   ·split at h
    ·exact ⟨h.1 .nil rfl⟩
    ·refine ⟨WP.region ?_⟩
     have h:WPr X _ (List.range' 0 (_-0)) _ _:=h.1
     rw [List.range_eq_range'];exact h
   ·split at h
    ·split at h
     ·rename_i hl
      split at h
      ·exact ⟨WP.condT rfl hl h.1⟩
      ·exact ⟨WP.condF rfl hl h.1⟩
     ·exact h.1.elim
    ·split at h
     ·exact ⟨WP.condCT h.1⟩
     ·exact ⟨WP.condCF h.1⟩
    ·exact h.1.elim
   ·exact h.1.elim
  ·exact h.1.elim
 ·rename_i m ops i k s
  split at h
  ·rename_i ho
   split at h
   ·cases hb:Nat.beq i ops.size with
    | false=>rw [hb] at h;exact h.1.elim
    | true =>
     rw [hb] at h
     refine ⟨?_⟩
     show WPr X ops (List.range' i (ops.size-i)) (rk X k) s
     rw [Nat.eq_of_beq_eq_true hb,Nat.sub_self]
     exact WPr.nil h.1
   ·exact h.1.elim
  ·rename_i o ho
   split at h
   ·rename_i hg
    split at h
    ·rename_i d hd
     obtain ⟨h1,h2⟩:=silD_ok hd
     exact stepR_ok ho hg h2 (fun nk E0 F0 w0 n0 Z=>sil1_ok (X:=X.var nk E0 F0 w0 n0 Z) htt h1) h
    ·exact h.1.elim
   ·rename_i hg
    split at h
    ·rename_i d hd
     cases hb:Nat.blt d X.fn.ntmps with
     | false=>rw [hb] at h;exact h.1.elim
     | true=>rw [hb] at h;exact skipR_ok ho hg hd hb h
    ·exact h.1.elim
   ·exact h.1.elim
 ·exact h.1.elim
theorem adv_ok (htt:TTOk X.P tt):∀ (n:Nat) {c:Cf},Wc X (adv tt X.fn.ntmps n c)→Wc X c
 | 0,_,h=>h
 | n+1,_,h=>a1_ok htt (adv_ok htt n h)
end
end Go.Kx
end
section
namespace Go.Kx
variable [LxP]
open Go
def itR (b:Nat) (s:ByteArray) (p:Nat):AbsR where
 fp:=fun x=>x=b
 ok:=fun _ w=>w.heap[b]? = some (.stringIter s p)
 mono:=fun _ hb h=>by rw [hb b rfl];exact h
section
variable {X:Ctx} {s:St} {ops:Array Oper} {todo:Act→World→Prop} {tt:List (Nat × TD)}
theorem WPr.rng (htt:TTOk X.P tt) {i:Nat} {rest:List Nat} {o:Oper} {t:TypeId} {td:TD} {x:Operand} {d:Nat} {m:ByteArray}
  (ho:ops[i]? = some o) (hg:guardV ops s.L o=some true) (hop:o.op=.range t x) (hd:o.dst=some d) (ht:look tt t=some td) (hkd:Nat.beq td.kd 2=true)
  (hx:evalO s.L x=some (.c (.s m))) (hn:Nat.blt d X.fn.ntmps=true)
  (kk:∀ b,WPr X ops rest todo ⟨(d,.c (.v (.pointer (some ⟨b,0,none⟩))))::s.L,(s.nx,.abs (itR b m 0))::s.M,s.V,s.nx+1⟩):WPr X ops (i::rest) todo s:=by
 intro E F w a hs
 simp only [wpOps,ho,guardV_ok hs hg,if_true]
 obtain ⟨e1,_⟩:=hs.eval hx
 have hu:X.P.underlying t=some .string:=by
  have h2:=(htt.get ht).2.1
  have hkd:=Nat.eq_of_beq_eq_true hkd
  unfold kindOk at h2
  split at h2<;>simp_all
 have hsz:w.heap.size≤(w.alloc (.stringIter m 0)).heap.size:=by simp
 have h1:=hs.world (w':=w.alloc (.stringIter m 0)) rfl rfl .m hsz (fun b hb=>heap_alloc_old w _ hb)
 have h2:=h1.addM' (m:=.abs (itR w.heap.size m 0)) (heap_alloc_new w _) trivial (fun b hb=>by
  have e:b=w.heap.size:=hb
  subst e
  refine ⟨fun hF=>absurd (hs.hF _ hF) (Nat.lt_irrefl _),fun hZ=>?_,by simp,fun k m' hm hf=>absurd (hs.mF k m' hm _ hf).2.2 (Nat.lt_irrefl _)⟩
  have:=hs.hZ _ hZ
  have:=hs.ext.size
  omega) (fun h=>by cases h)
 refine .inl (wp_value (w':=w.alloc (.stringIter m 0)) (v:=.pointer (some ⟨w.heap.size,0,none⟩)) ?_ (kk w.heap.size E F _ _ ?_))
 ·simp only [execOp,hop,e1,denV,den]
  refine exec_v ?_
  simp only [Instr.range,Sem.run_bind,run_underlying' hu,Result.andThen_ok,Sem.run_pure,run_newObj]
  rfl
 ·rw [hd]
  exact h2.setL (d:=d) (v:=.c (.v (.pointer (some ⟨w.heap.size,0,none⟩)))) (by first | trivial | rfl) (blt_lt hn)
theorem WPr.nxtF {i:Nat} {rest:List Nat} {o:Oper} {x:Operand} {d b p:Nat} (k:Nat) {m:ByteArray}
  (hlt:decide (p < m.size)=false) (ho:ops[i]? = some o) (hg:guardV ops s.L o=some true) (hop:o.op=.next x true) (hd:o.dst=some d)
  (hx:evalO s.L x=some (.c (.v (.pointer (some ⟨b,0,none⟩))))) (hm:look s.M k=some (.abs (itR b m p))) (hn:Nat.blt d X.fn.ntmps=true)
  (kk:WPr X ops rest todo ⟨(d,.t [.inl (.b false)])::s.L,s.M,s.V,s.nx⟩):WPr X ops (i::rest) todo s:=by
 refine WPr.op ho hg (fun E F w a hs=>?_) kk
 obtain ⟨e1,_⟩:=hs.eval hx
 have hb:w.heap[b]? = some (.stringIter m p):=hs.hM k _ hm
 have hlt:¬ p < m.size:=of_decide_eq_false hlt
 refine wp_value (w':=w) (v:=.tuple #[.bool false]) ?_ ⟨E,F,?_⟩
 ·simp only [execOp,hop,e1,denV,den]
  refine exec_v ?_
  simp [Instr.next,getObj,Sem.run,hb,hlt]
 ·rw [hd]
  exact hs.setL (d:=d) (v:=.t [.inl (.b false)]) (fun v hv=>by simp at hv;subst hv;trivial) (blt_lt hn)
theorem WPr.nxtT {i:Nat} {rest:List Nat} {o:Oper} {x:Operand} {d b p:Nat} (k:Nat) {m:ByteArray}
  (hlt:decide (p < m.size)=true) (ho:ops[i]? = some o) (hg:guardV ops s.L o=some true) (hop:o.op=.next x true) (hd:o.dst=some d)
  (hx:evalO s.L x=some (.c (.v (.pointer (some ⟨b,0,none⟩))))) (hm:look s.M k=some (.abs (itR b m p))) (hn:Nat.blt d X.fn.ntmps=true)
  (kk:WPr X ops rest todo ⟨(d,.t [.inl (.b true),.inl (.i .i64 (p:Int)),.inl (.i .i32 ((Utf8.decode m p).1:Int))])::s.L,(k,.abs (itR b m (p+(Utf8.decode m p).2)))::s.M,s.V,s.nx⟩):WPr X ops (i::rest) todo s:=by
 refine WPr.op ho hg (fun E F w a hs=>?_) kk
 obtain ⟨e1,_⟩:=hs.eval hx
 have hb:w.heap[b]? = some (.stringIter m p):=hs.hM k _ hm
 have hlt:p < m.size:=of_decide_eq_true hlt
 have hbs:b < w.heap.size:=by
  rcases Nat.lt_or_ge b w.heap.size with h | h
  ·exact h
  ·rw [Array.getElem?_eq_none h] at hb;cases hb
 have h1:=hs.setM (m':=.abs (itR b m (p+(Utf8.decode m p).2))) (w':={ w with heap:=w.heap.setIfInBounds b (.stringIter m (p+(Utf8.decode m p).2)) }) hm rfl rfl .m (by simp)
  (fun c hc hne=>by
   have:c≠b:=fun e=>hne e
   simp only [Array.getElem?_setIfInBounds]
   rw [if_neg (fun e=>this e.symm)])
  (fun _ h=>h) (by
   show (w.heap.setIfInBounds b _)[b]? = _
   simp [hbs]) trivial (fun h=>by cases h)
 refine wp_value (w':={ w with heap:=w.heap.setIfInBounds b (.stringIter m (p+(Utf8.decode m p).2)) }) (v:=.tuple #[.bool true,goInt (p:Int),.int .i32 ((Utf8.decode m p).1:Int)]) ?_ ⟨E,F,?_⟩
 ·simp only [execOp,hop,e1,denV,den]
  refine exec_v ?_
  simp [Instr.next,getObj,setObj,Sem.run,hb,hlt]
 ·rw [hd]
  exact h1.setL (d:=d) (v:=.t [.inl (.b true),.inl (.i .i64 (p:Int)),.inl (.i .i32 ((Utf8.decode m p).1:Int))]) (fun v hv=>by
   simp at hv
   rcases hv with rfl | rfl | rfl<;>trivial) (blt_lt hn)
end
end Go.Kx
end
section
namespace Go.Kx
variable [LxP]
section
variable {X:Ctx} {s:St} {tt:List (Nat × TD)} {ops:Array Oper} {todo:Act→World→Prop}
end
end Go.Kx
end
section
namespace Go.Kx
variable [LxP]
def Cf.ops:Cf→Array Oper
 | .rg _ o _ _ _=>o
 | _=>#[]
def Cf.i:Cf→Nat
 | .rg _ _ i _ _=>i
 | _=>0
def Cf.md:Cf→Option (Nat × St × List Ent)
 | .rg m _ _ _ _=>m
 | _=>none
def Cf.kk:Cf→List Item
 | .rg _ _ _ k _=>k
 | .co (_::k) _=>k
 | _=>[]
def Cf.st:Cf→St
 | .rg _ _ _ _ s=>s
 | .co _ s=>s
 | .no=>⟨[],[],[],0⟩
def Cf.isR:Cf→Bool
 | .rg _ _ _ _ _=>true
 | _=>false
def opC (c:Cf):Oper:=(c.ops[c.i]?).getD default
def vwC (c:Cf):St:=vwS c.md c.ops (opC c) c.st
def goC (d:Dl) (c:Cf):Cf:=stepR c.md c.ops c.i c.kk c.st (vwC c) d
def rdyB (c:Cf):Bool:=c.isR && (c.ops[c.i]?).isSome && (match guardV c.ops (vwC c).L (opC c) with | some b=>b | none=>false)
def dstC (c:Cf):Nat:=(opC c).dst.getD 0
def frzD (s:St):List Nat→List (Nat × MO) × List (Nat × VF)
 | []=>([],[])
 | k::r=>match look s.M k with
  | some (.own R xs _)=>match frzD s r with
   | q=>((k,.gone)::q.1,(k,.sl R xs)::q.2)
  | _=>([],[])
def frzS (s:St) (fz:List Nat):St:=⟨s.L,(frzD s fz).1++s.M,(frzD s fz).2++s.V,s.nx⟩
def frzB (s:St) (fz:List Nat):Bool:=nodupB fz && fz.all fun k=>match look s.M k with
 | some (.own _ _ fr)=>fr
 | _=>false
def Dl.fz (d:Dl) (s:St) (fz:List Nat):Dl:=⟨d.dL,d.dM++(frzD s fz).1,d.dV++(frzD s fz).2,d.n⟩
theorem Dl.fz_ap (d:Dl) (s:St) (fz:List Nat):(d.fz s fz).ap s=d.ap (frzS s fz):=by
 simp [Dl.fz,Dl.ap,frzS]
theorem frzD_none {s:St} {k:Nat}:∀ {fz:List Nat},k ∉ fz→look (frzD s fz).1 k=none
 | [],_=>rfl
 | j::r,h=>by
  unfold frzD
  split
  ·simp only []
   rw [look_cons,if_neg fun e=>h (by rw [e];exact List.mem_cons_self)]
   exact frzD_none fun hm=>h (List.mem_cons_of_mem _ hm)
  ·rfl
theorem frzS_sat {X:Ctx} {s:St} {E F w a} (hs:Sat X s E F w a):∀ {fz:List Nat},frzB s fz=true→∃ F',Sat X (frzS s fz) E F' w a
 | [],_=>⟨F,hs⟩
 | k::r,h=>by
  unfold frzB at h
  simp only [Bool.and_eq_true,List.all_cons] at h
  obtain ⟨h1,h2,h3⟩:=h
  have hk:k ∉ r∧nodupB r=true:=by
   have:=nodupB_ok h1
   rw [List.nodup_cons] at this
   refine ⟨this.1,?_⟩
   unfold nodupB at h1
   rw [Bool.and_eq_true] at h1
   exact h1.2
  obtain ⟨F1,hs1⟩:=frzS_sat hs (fz:=r) (by unfold frzB;rw [Bool.and_eq_true];exact ⟨hk.2,h3⟩)
  split at h2
  ·rename_i α R xs fr hm
   subst h2
   have hm':look (frzS s r).M k=some (.own R xs true):=by
    show look ((frzD s r).1++s.M) k=_
    rw [look_append,frzD_none hk.1];exact hm
   refine ⟨fun b=>F1 b∨blockOf (E.ρ k)=some b,?_⟩
   have:=hs1.freeze hm'
   have e:frzD s (k::r)=((k,.gone)::(frzD s r).1,(k,.sl R xs)::(frzD s r).2):=by
    conv=>lhs;unfold frzD
    rw [hm]
   unfold frzS
   rw [e]
   exact this
  ·cases h2
section
variable {X:Ctx} {tt:List (Nat × TD)}
theorem Stp.of {ops:Array Oper} {i:Nat} {o:Oper} {s s1:St} (ho:ops[i]? = some o) (hg:guardV ops s.L o=some true) (r:∀ K,WPr X ops [] K s1→WPr X ops [i] K s) :
  ∀ E F w a,Sat X s E F w a→o.wp X.P a w (fun a' w'=>∃ E' F',Sat X s1 E' F' w' a') (fun _ _ _=>False):=fun E F w a hs=>by
 have h:=r (fun a' w'=>∃ E' F',Sat X s1 E' F' w' a') (fun E F w a hs=>⟨rfl,E,F,hs⟩) E F w a hs
 have hgk:=guardV_ok hs hg
 simp only [wpOps,ho,hgk,if_true] at h
 rcases h with h | ⟨_,h⟩
 ·unfold Oper.wp at h ⊢
  unfold Oper.upon at h ⊢
  split at h
  ·exact h.2
  ·exact h.2
  ·exact h.2
  ·refine Calls.mono h fun e w' hr=>?_
   split at hr
   ·exact hr.2
   ·cases hr.1
   ·obtain ⟨a1,w1,hf⟩:=hr;cases hf.1
  ·exact Rows.mono h fun v w' hr=>hr.2
  ·cases h.1
  ·exact h.elim
 ·obtain ⟨a1,w1,hf⟩:=h;cases hf.1
theorem Wc.ev {c:Cf} {d:Dl} (hr:rdyB c=true) (hd:d.dL.map (·.1)=(opC c).dst.toList)
    (r:∀ nk E0 F0 w0 n0 Z rest K,c.ops[c.i]? = some (opC c)→guardV c.ops (vwC c).L (opC c)=some true→WPr (X.var nk E0 F0 w0 n0 Z) c.ops rest K (d.ap (vwC c))→WPr (X.var nk E0 F0 w0 n0 Z) c.ops (c.i::rest) K (vwC c))
    (k:Wc X (goC d c)):Wc X c:=by
  unfold rdyB at hr
  rw [Bool.and_eq_true,Bool.and_eq_true] at hr
  obtain ⟨⟨h1,h2⟩,h3⟩:=hr
  cases c with
  | co k s=>cases h1
  | no=>cases h1
  | rg m ops i k' s =>
    have ho:ops[i]? = some (opC (.rg m ops i k' s)):=by
      obtain ⟨o,ho⟩:=Option.isSome_iff_exists.1 h2
      have ho:ops[i]? = some o:=ho
      unfold opC
      show _=some ((ops[i]?).getD default)
      rw [ho];rfl
    have hg:guardV ops (vwC (.rg m ops i k' s)).L (opC (.rg m ops i k' s))=some true:=by
      split at h3
      · rename_i b hb;rw [h3] at hb;exact hb
      · cases h3
    exact stepR_ok ho hg hd (fun nk E0 F0 w0 n0 Z=>Stp.of (X:=X.var nk E0 F0 w0 n0 Z) ho hg (fun K=>r nk E0 F0 w0 n0 Z [] K ho hg)) k
theorem Wc.evz {c:Cf} {d:Dl} (fz:List Nat) (hr:rdyB c=true) (hz:frzB (vwC c) fz=true) (hd:d.dL.map (·.1)=(opC c).dst.toList)
    (r:∀ nk E0 F0 w0 n0 Z rest K,c.ops[c.i]? = some (opC c)→guardV c.ops (frzS (vwC c) fz).L (opC c)=some true→WPr (X.var nk E0 F0 w0 n0 Z) c.ops rest K (d.ap (frzS (vwC c) fz))→WPr (X.var nk E0 F0 w0 n0 Z) c.ops (c.i::rest) K (frzS (vwC c) fz))
    (k:Wc X (goC (d.fz (vwC c) fz) c)):Wc X c:=by
  refine Wc.ev (d:=d.fz (vwC c) fz) hr hd (fun nk E0 F0 w0 n0 Z rest K ho hg h=>?_) k
  rw [Dl.fz_ap] at h
  have:=r nk E0 F0 w0 n0 Z rest K ho hg h
  intro E F w a hs
  obtain ⟨F',hs'⟩:=frzS_sat hs hz
  exact this E F' w a hs'
def argO:Op→Nat→Operand
 | .indexAddr _ x y,j | .index _ x y,j | .store _ x y,j | .binOp _ _ x y _,j | .makeSlice _ x y,j | .lookup _ x y _,j=>match j with
  | 0=>x
  | _=>y
 | .mapUpdate _ x y z,j=>match j with
  | 0=>x
  | 1=>y
  | _=>z
 | .load _ x,_ | .slice _ x _ _ _,_ | .convert _ _ x,_ | .range _ x,_ | .next x _,_=>x
 | .call c,j=>(c.args.toList[j]?).getD (.const (.bool true))
 | _,_=>.const (.bool true)
def tyO:Op→TypeId
 | .indexAddr t _ _ | .index t _ _ | .store t _ _ | .binOp _ t _ _ _ | .makeSlice t _ _ | .load t _ | .slice t _ _ _ _ | .convert t _ _ | .range t _ | .buildSlice t _ _ | .makeMap t _ | .lookup t _ _ _ | .mapUpdate t _ _ _=>t
 | .call c=>(c.argTypes.toList[0]?).getD 0
 | _=>0
def tyO2:Op→TypeId
 | .convert _ t _ | .binOp _ _ _ _ t=>t
 | .call c=>(c.argTypes.toList[1]?).getD 0
 | _=>0
def loO:Op→Option Operand
 | .slice _ _ l _ _=>l
 | _=>none
def hiO:Op→Option Operand
 | .slice _ _ _ h _=>h
 | _=>none
def calO:Op→Operand
 | .call c=>match c.callee with
  | .value f=>f
  | _=>.const (.bool true)
 | _=>.const (.bool true)
def argsO:Op→Array Operand
 | .call c=>c.args
 | _=>#[]
def tysO:Op→Array TypeId
 | .call c=>c.argTypes
 | _=>#[]
def lenO:Op→Nat
 | .buildSlice _ n _=>n
 | _=>0
def partO:Op→Array (Nat × Operand)
 | .buildSlice _ _ p=>p
 | _=>#[]
def argV (c:Cf) (j:Nat):Option SV:=evalO (vwC c).L (argO (opC c).op j)
def tdO (tt:List (Nat × TD)) (t:TypeId):TD:=(look tt t).getD ⟨0,0,false,[],[],0,0,0,none,0,0⟩
def keyV:Option SV→Nat
 | some (.c (.sl k)) | some (.c (.px k _)) | some (.c (.bp k _))=>k
 | _=>0
def offV:Option SV→Nat
 | some (.c (.px _ o)) | some (.c (.bp _ o))=>o
 | _=>0
def ikV:Option SV→IntKind
 | some (.c (.i k _))=>k
 | _=>.i64
def cellV':Option SV→SC
 | some (.c x)=>x
 | _=>.nil
def aggV:Option SV→List SC
 | some (.a cs)=>cs
 | _=>[]
def svO:Option SV→SV
 | some v=>v
 | none=>.u
def csV (v:Option SV):List SC:=((svCells (svO v)).getD [])
def intV:Option SV→Int
 | some (.c (.i _ n))=>n
 | _=>0
def strV:Option SV→ByteArray
 | some (.c (.s m))=>m
 | _=>⟨#[]⟩
def fwM:Option MO→Bool
 | some (.own _ _ fr)=>fr
 | _=>false
def elK:Option VF→Nat
 | some (.el k _)=>k
 | some (.vw k _ _ _)=>k
 | _=>0
structure SlF:Type 1 where
 {α:Type}
 R:TRep α
 xs:List α
def conC (s:St):SC→Option SlF
 | .sl k=>match look s.M k with
  | some (.own R xs _)=>some ⟨R,xs⟩
  | _=>match look s.V k with
   | some (.sl R xs)=>some ⟨R,xs⟩
   | _=>none
 | _=>none
theorem conC_ok {s:St} {c:SC} {α:Type} {R:TRep α} {xs:List α} (h:conC s c=some ⟨R,xs⟩):∃ k,c=.sl k∧(look s.V k=some (.sl R xs)∨∃ fr,look s.M k=some (.own R xs fr)):=by
 unfold conC at h
 split at h
 ·rename_i k
  refine ⟨k,rfl,?_⟩
  split at h
  ·rename_i hm;cases h;exact .inr ⟨_,hm⟩
  ·split at h
   ·rename_i hv;cases h;exact .inl hv
   ·cases h
 ·cases h
theorem conC_src {s:St} {c:SC} {α:Type} {R:TRep α} {xs:List α} (h:conC s c=some ⟨R,xs⟩):SrcOk X s R xs c:=by
 obtain ⟨k,rfl,h | ⟨fr,h⟩⟩:=conC_ok h
 ·exact srcI h
 ·exact srcO h
def d1 (c:Cf) (v:SV):Dl:=⟨[(dstC c,v)],[],[],0⟩
theorem d1_dst {c:Cf} {L:List (Nat × SV)} {v:SV} (h:(opC c).dst=some (dstC c)) (hl:L=[(dstC c,v)]):L.map (·.1)=(opC c).dst.toList:=by rw [hl,h];rfl
def hB (nt:Nat) (c:Cf):Bool:=rdyB c && Nat.blt (dstC c) nt
def slB (tt:List (Nat × TD)) (sz:Nat) (c:Cf):Bool:=Nat.beq (tdO tt (tyO (opC c).op)).kd 6 && Nat.beq (tdO tt (tyO (opC c).op)).es sz
theorem hB_ok {nt:Nat} {c:Cf} (h:hB nt c=true):rdyB c=true∧Nat.blt (dstC c) nt=true:=by
 unfold hB at h;rwa [Bool.and_eq_true] at h
theorem slB_ok {sz nt:Nat} {c:Cf} (h:slB tt sz c=true) (hn:Nat.blt (dstC c) nt=true):(Nat.blt (dstC c) nt && Nat.beq (tdO tt (tyO (opC c).op)).kd 6 && Nat.beq (tdO tt (tyO (opC c).op)).es sz)=true:=by
 unfold slB at h;rw [Bool.and_assoc,h,hn];rfl
def srcL {α:Type} (s:St) (ys:List α) (c:SC):Option SlF × ULift.{1,0} (List α):=match c with
 | .nil=>(none,⟨ys⟩)
 | c=>(conC s c,⟨[]⟩)
def srcR {α:Type} (R:TRep α) (ys:List α) (c:SC):Option SlF × ULift.{1,0} (List α):=match c with
 | .nil=>(none,⟨[]⟩)
 | _=>(some ⟨R,ys⟩,⟨[]⟩)
theorem src_ok {α:Type} {R:TRep α} {s:St} {ys:List α} {c:SC} (h:srcL s ys c=srcR R ys c):SrcOk X s R ys c:=by
 unfold srcL at h
 split at h
 ·have:=congrArg ULift.down (Prod.mk.inj h).2
  have h:ys=[]:=this
  rw [h];exact srcN
 ·rename_i h1
  unfold srcR at h
  split at h
  ·exact (h1 rfl).elim
  ·exact conC_src (Prod.mk.inj h).1
def rowL {α:Type} {R:TRep α} (O:Opn R) (V:Nat→Option VF):List α→List SC→List O.T
 | [],_=>[]
 | x::xs,cs=>O.lq V x (cs.take R.sz)::rowL O V xs (cs.drop R.sz)
def rowR {α:Type} {R:TRep α} (O:Opn R) (V:Nat→Option VF):List α→List SC→List O.T
 | [],_=>[]
 | x::xs,cs=>O.rq V x (cs.take R.sz)::rowR O V xs (cs.drop R.sz)
def rowE (sz:Nat) {α:Type}:List α→List SC→List SC
 | [],cs=>cs
 | _::xs,cs=>rowE sz xs (cs.drop sz)
theorem row_ok {α:Type} {R:TRep α} {O:Opn R} {V:Nat→Option VF}:∀ {xs:List α} {cs:List SC},rowL O V xs cs=rowR O V xs cs→rowE R.sz xs cs=[]→chkRow O V xs cs
 | [],_,_,h=>h
 | _::_,_,h,g=>⟨O.eqn (List.cons.inj h).1,row_ok (List.cons.inj h).2 g⟩
def negO:Op→Bool
 | .binOp .neq _ _ _ _=>true
 | _=>false
def clF:Option SV→List Nat
 | some (.c (.cl _ fs _))=>fs
 | _=>[]
def clK:Option SV→List Nat
 | some (.c (.cl _ _ ks))=>ks
 | _=>[]
def callD (s:St) (c:Ct) (l:List (Nat × SC)) (d:Nat):Dl :=
 ⟨[(d,renV ⟨l,c.nk,s.nx⟩ c.res)],c.M1.filterMap fun p=>(keyMc ⟨l,c.nk,s.nx⟩ p.1 p.2).map fun j=>(j,backM s ⟨l,c.nk,s.nx⟩ (allFr s ⟨l,c.nk,s.nx⟩ c) c.nk p.1 p.2),c.V1.map fun p=>((⟨l,c.nk,s.nx⟩:Ren).sh p.1,p.2),c.nr-c.nk⟩
def dIx {α:Type} {R:TRep α} (O:Opn R) (e:α) (c:Cf):Dl:=⟨[(dstC c,.c (.px (vwC c).nx 0))],[],O.facts ((vwC c).nx+1) e++[((vwC c).nx,.pl (O.cells ((vwC c).nx+1) e))],1+O.nk⟩
def nIx {α:Type} {R:TRep α} (O:Opn R) (e:α) (c:Cf):Cf:=goC (dIx O e c) c
theorem eIx {α:Type} {R:TRep α} {xs:List α} {m:Int} {e:α} {c:Cf} (htt:TTOk X.P tt) (O:Opn R) (hi:idx xs m=some e) (k:Wc X (nIx O e c))
  (hp:(hB X.fn.ntmps c,(opC c).dst,(opC c).op,argV c 0,look (vwC c).V (keyV (argV c 0)),argV c 1,look tt (tyO (opC c).op),slB tt R.sz c)=(true,some (dstC c),.indexAddr (tyO (opC c).op) (argO (opC c).op 0) (argO (opC c).op 1),some (.c (.sl (keyV (argV c 0)))),some (.sl R xs),some (.c (.i (ikV (argV c 1)) m)),some (tdO tt (tyO (opC c).op)),true):=by kernel_rfl):Wc X c:=by
 simp only [Prod.mk.injEq] at hp
 obtain ⟨h1,h2,h3,h4,h5,h6,h7,h8⟩:=hp
 obtain ⟨h0,hn⟩:=hB_ok h1
 refine Wc.ev (d:=dIx O e c) h0 (d1_dst h2 rfl) (fun nk E0 F0 w0 n0 Z rest K ho hg h=>WPr.ix (X:=X.var nk E0 F0 w0 n0 Z) O htt hi ho hg h3 h2 h4 h5 h6 h7 (slB_ok h8 hn) ?_) k
 have e1:(dIx O e c).ap (vwC c)=⟨(dstC c,.c (.px (vwC c).nx 0))::(vwC c).L,(vwC c).M,O.facts ((vwC c).nx+1) e++((vwC c).nx,.pl (O.cells ((vwC c).nx+1) e))::(vwC c).V,(vwC c).nx+1+O.nk⟩:=by
  simp [dIx,Dl.ap,Nat.add_assoc]
 rw [← e1];exact h
def dIo (m:Int) (sz:Nat) (c:Cf):Dl:=⟨[(dstC c,.c (.px (vwC c).nx 0))],[],[((vwC c).nx,.el (keyV (argV c 0)) (m.toNat * sz))],1⟩
def nIo (m:Int) (sz:Nat) (c:Cf):Cf:=goC (dIo m sz c) c
theorem eIo {α:Type} {xs:List α} {m:Int} {e:α} {c:Cf} (htt:TTOk X.P tt) (R:TRep α) (hi:idx xs m=some e) (k:Wc X (nIo m R.sz c))
  (hp:(hB X.fn.ntmps c,(opC c).dst,(opC c).op,argV c 0,look (vwC c).M (keyV (argV c 0)),argV c 1,look tt (tyO (opC c).op),slB tt R.sz c)=(true,some (dstC c),.indexAddr (tyO (opC c).op) (argO (opC c).op 0) (argO (opC c).op 1),some (.c (.sl (keyV (argV c 0)))),some (.own R xs (fwM (look (vwC c).M (keyV (argV c 0))))),some (.c (.i (ikV (argV c 1)) m)),some (tdO tt (tyO (opC c).op)),true):=by kernel_rfl):Wc X c:=by
 simp only [Prod.mk.injEq] at hp
 obtain ⟨h1,h2,h3,h4,h5,h6,h7,h8⟩:=hp
 obtain ⟨h0,hn⟩:=hB_ok h1
 refine Wc.ev (d:=dIo m R.sz c) h0 (d1_dst h2 rfl) (fun nk E0 F0 w0 n0 Z rest K ho hg h=>WPr.ixo (X:=X.var nk E0 F0 w0 n0 Z) htt hi ho hg h3 h2 h4 h5 h6 h7 (slB_ok h8 hn) h) k
def dLd {α:Type} {R:TRep α} (O:Opn R) (e:α) (tt:List (Nat × TD)) (c:Cf):Dl:=⟨[(dstC c,svO (loadC (tdO tt (tyO (opC c).op)) (offV (argV c 0)) (O.cells (vwC c).nx e)))],[],O.facts (vwC c).nx e,O.nk⟩
def nLd {α:Type} {R:TRep α} (O:Opn R) (e:α) (tt:List (Nat × TD)) (c:Cf):Cf:=goC (dLd O e tt c) c
theorem eLd {α:Type} {R:TRep α} {xs:List α} {m:Int} {e:α} {c:Cf} (htt:TTOk X.P tt) (O:Opn R) (hi:idx xs m=some e) (k:Wc X (nLd O e tt c))
  (hp:(hB X.fn.ntmps c,(opC c).dst,(opC c).op,argV c 0,look (vwC c).V (keyV (argV c 0)),look (vwC c).M (elK (look (vwC c).V (keyV (argV c 0)))),look tt (tyO (opC c).op),loadC (tdO tt (tyO (opC c).op)) (offV (argV c 0)) (O.cells (vwC c).nx e))=(true,some (dstC c),.load (tyO (opC c).op) (argO (opC c).op 0),some (.c (.px (keyV (argV c 0)) (offV (argV c 0)))),some (.el (elK (look (vwC c).V (keyV (argV c 0)))) (m.toNat * R.sz)),some (.own R xs (fwM (look (vwC c).M (elK (look (vwC c).V (keyV (argV c 0))))))),some (tdO tt (tyO (opC c).op)),some (svO (loadC (tdO tt (tyO (opC c).op)) (offV (argV c 0)) (O.cells (vwC c).nx e)))):=by kernel_rfl):Wc X c:=by
 simp only [Prod.mk.injEq] at hp
 obtain ⟨h1,h2,h3,h4,h5,h6,h7,h8⟩:=hp
 obtain ⟨h0,hn⟩:=hB_ok h1
 refine Wc.ev (d:=dLd O e tt c) h0 (d1_dst h2 rfl) (fun nk E0 F0 w0 n0 Z rest K ho hg h=>WPr.ldo (X:=X.var nk E0 F0 w0 n0 Z) O htt hi ho hg h3 h2 h4 h5 h6 h7 h8 hn h) k
def dSt {α:Type} (R:TRep α) (xs:List α) (m:Int) (e2:α) (fz:List Nat) (c:Cf):Dl:=⟨[],[((elK (look (frzS (vwC c) fz).V (keyV (evalO (frzS (vwC c) fz).L (argO (opC c).op 0))))),.own R (setL' xs m e2) (fwM (look (frzS (vwC c) fz).M (elK (look (frzS (vwC c) fz).V (keyV (evalO (frzS (vwC c) fz).L (argO (opC c).op 0))))))))],[],0⟩
def nSt {α:Type} (R:TRep α) (xs:List α) (m:Int) (e2:α) (fz:List Nat) (c:Cf):Cf:=goC ((dSt R xs m e2 fz c).fz (vwC c) fz) c
theorem eSt {α:Type} {R:TRep α} {xs:List α} {m:Int} {e:α} {c:Cf} (htt:TTOk X.P tt) (fz:List Nat) (O:Opn R) (e2:α) (hi:idx xs m=some e) (k:Wc X (nSt R xs m e2 fz c))
  (hp:(rdyB c,(opC c).dst,frzB (vwC c) fz,(opC c).op,(evalO (frzS (vwC c) fz).L (argO (opC c).op 0)),look (frzS (vwC c) fz).V (keyV (evalO (frzS (vwC c) fz).L (argO (opC c).op 0))),look (frzS (vwC c) fz).M (elK (look (frzS (vwC c) fz).V (keyV (evalO (frzS (vwC c) fz).L (argO (opC c).op 0))))),look tt (tyO (opC c).op),(evalO (frzS (vwC c) fz).L (argO (opC c).op 1)),svCells (svO (evalO (frzS (vwC c) fz).L (argO (opC c).op 1))),O.lq (look (frzS (vwC c) fz).V) e2 ((O.cells (frzS (vwC c) fz).nx e).take (offV (evalO (frzS (vwC c) fz).L (argO (opC c).op 0)))++(csV (evalO (frzS (vwC c) fz).L (argO (opC c).op 1)))++(O.cells (frzS (vwC c) fz).nx e).drop ((offV (evalO (frzS (vwC c) fz).L (argO (opC c).op 0)))+(csV (evalO (frzS (vwC c) fz).L (argO (opC c).op 1))).length)),(Nat.beq (csV (evalO (frzS (vwC c) fz).L (argO (opC c).op 1))).length (tdO tt (tyO (opC c).op)).sz && Nat.ble ((offV (evalO (frzS (vwC c) fz).L (argO (opC c).op 0)))+(csV (evalO (frzS (vwC c) fz).L (argO (opC c).op 1))).length) R.sz && (Nat.beq (csV (evalO (frzS (vwC c) fz).L (argO (opC c).op 1))).length R.sz || Nat.beq O.nk 0)))=(true,none,true,.store (tyO (opC c).op) (argO (opC c).op 0) (argO (opC c).op 1),some (.c (.px (keyV (evalO (frzS (vwC c) fz).L (argO (opC c).op 0))) (offV (evalO (frzS (vwC c) fz).L (argO (opC c).op 0))))),some (.el (elK (look (frzS (vwC c) fz).V (keyV (evalO (frzS (vwC c) fz).L (argO (opC c).op 0))))) (m.toNat * R.sz)),some (.own R xs (fwM (look (frzS (vwC c) fz).M (elK (look (frzS (vwC c) fz).V (keyV (evalO (frzS (vwC c) fz).L (argO (opC c).op 0)))))))),some (tdO tt (tyO (opC c).op)),some (svO (evalO (frzS (vwC c) fz).L (argO (opC c).op 1))),some (csV (evalO (frzS (vwC c) fz).L (argO (opC c).op 1))),O.rq (look (frzS (vwC c) fz).V) e2 ((O.cells (frzS (vwC c) fz).nx e).take (offV (evalO (frzS (vwC c) fz).L (argO (opC c).op 0)))++(csV (evalO (frzS (vwC c) fz).L (argO (opC c).op 1)))++(O.cells (frzS (vwC c) fz).nx e).drop ((offV (evalO (frzS (vwC c) fz).L (argO (opC c).op 0)))+(csV (evalO (frzS (vwC c) fz).L (argO (opC c).op 1))).length)),true):=by kernel_rfl):Wc X c:=by
 simp only [Prod.mk.injEq] at hp
 obtain ⟨h1,h2,h3,h4,h5,h6,h7,h8,h9,h10,h11,h12⟩:=hp
 have h0:=h1
 refine Wc.evz (d:=dSt R xs m e2 fz c) fz h0 h3 (by rw [h2];rfl) (fun nk E0 F0 w0 n0 Z rest K ho hg h=>WPr.sto (X:=X.var nk E0 F0 w0 n0 Z) O htt e2 hi ho hg h4 h2 h5 h6 h7 h8 h9 h10 (O.eqn h11) h12 h) k
def dAp {α:Type} (R:TRep α) (zs:List α) (c:Cf):Dl:=⟨[(dstC c,.c (.sl (vwC c).nx))],[((vwC c).nx,.own R zs (fwM (look (vwC c).M (keyV (argV c 0))))),((keyV (argV c 0)),.gone)],[],1⟩
def nAp {α:Type} (R:TRep α) (zs:List α) (c:Cf):Cf:=goC (dAp R zs c) c
theorem eAp {α:Type} {xs ys zs:List α} {c:Cf} (htt:TTOk X.P tt) (R:TRep α) (hz:appL xs ys=some zs) (k:Wc X (nAp R zs c))
  (hp:(hB X.fn.ntmps c,(opC c).dst,(opC c).op,argV c 0,look (vwC c).M (keyV (argV c 0)),argV c 1,look tt (tyO (opC c).op),look tt (tyO2 (opC c).op),(Nat.beq (tdO tt (tyO (opC c).op)).kd 6 && (Nat.beq (tdO tt (tyO2 (opC c).op)).kd 6 || Nat.beq (tdO tt (tyO2 (opC c).op)).kd 2) && Nat.beq (tdO tt (tyO (opC c).op)).es R.sz && Nat.ble (tdO tt (tyO (opC c).op)).eb 32768),srcL (vwC c) ys (cellV' (argV c 1)))=(true,some (dstC c),.call { callee:=.builtin .append,args:=#[argO (opC c).op 0,argO (opC c).op 1],argTypes:=#[tyO (opC c).op,tyO2 (opC c).op] },some (.c (.sl (keyV (argV c 0)))),some (.own R xs (fwM (look (vwC c).M (keyV (argV c 0))))),some (.c (cellV' (argV c 1))),some (tdO tt (tyO (opC c).op)),some (tdO tt (tyO2 (opC c).op)),true,srcR R ys (cellV' (argV c 1))):=by kernel_rfl):Wc X c:=by
 simp only [Prod.mk.injEq] at hp
 obtain ⟨h1,h2,h3,h4,h5,h6,h7,h8,h9,h10⟩:=hp
 obtain ⟨h0,hn⟩:=hB_ok h1
 refine Wc.ev (d:=dAp R zs c) h0 (d1_dst h2 rfl) (fun nk E0 F0 w0 n0 Z rest K ho hg h=>WPr.app (X:=X.var nk E0 F0 w0 n0 Z) htt hz (src_ok h10) ho hg h3 h2 h4 h5 h6 h7 h8 (by rw [hn];simpa using h9) h) k
def dAn {α:Type} (R:TRep α) (zs:List α) (c:Cf):Dl:=⟨[(dstC c,.c (.sl (vwC c).nx))],[((vwC c).nx,.own R zs true)],[],1⟩
def nAn {α:Type} (R:TRep α) (zs:List α) (c:Cf):Cf:=goC (dAn R zs c) c
theorem eAn {α:Type} {ys zs:List α} {c:Cf} (htt:TTOk X.P tt) (R:TRep α) (hz:appL [] ys=some zs) (k:Wc X (nAn R zs c))
  (hp:(hB X.fn.ntmps c,(opC c).dst,(opC c).op,argV c 0,argV c 1,look tt (tyO (opC c).op),look tt (tyO2 (opC c).op),(Nat.beq (tdO tt (tyO (opC c).op)).kd 6 && (Nat.beq (tdO tt (tyO2 (opC c).op)).kd 6 || Nat.beq (tdO tt (tyO2 (opC c).op)).kd 2) && Nat.beq (tdO tt (tyO (opC c).op)).es R.sz && Nat.ble (tdO tt (tyO (opC c).op)).eb 32768),srcL (vwC c) ys (cellV' (argV c 1)))=(true,some (dstC c),.call { callee:=.builtin .append,args:=#[argO (opC c).op 0,argO (opC c).op 1],argTypes:=#[tyO (opC c).op,tyO2 (opC c).op] },some (.c .nil),some (.c (cellV' (argV c 1))),some (tdO tt (tyO (opC c).op)),some (tdO tt (tyO2 (opC c).op)),true,srcR R ys (cellV' (argV c 1))):=by kernel_rfl):Wc X c:=by
 simp only [Prod.mk.injEq] at hp
 obtain ⟨h1,h2,h3,h4,h5,h6,h7,h8,h9⟩:=hp
 obtain ⟨h0,hn⟩:=hB_ok h1
 refine Wc.ev (d:=dAn R zs c) h0 (d1_dst h2 rfl) (fun nk E0 F0 w0 n0 Z rest K ho hg h=>WPr.appN (X:=X.var nk E0 F0 w0 n0 Z) R htt hz (src_ok h9) ho hg h3 h2 h4 h5 h6 h7 (by rw [hn];simpa using h8) h) k
def dBs {α:Type} (R:TRep α) (xs:List α) (fz:List Nat) (c:Cf):Dl:=⟨[(dstC c,.c (.sl (frzS (vwC c) fz).nx))],[((frzS (vwC c) fz).nx,.own R xs true)],[],1⟩
def nBs {α:Type} (R:TRep α) (xs:List α) (fz:List Nat) (c:Cf):Cf:=goC ((dBs R xs fz c).fz (vwC c) fz) c
theorem eBs {α:Type} {R:TRep α} {c:Cf} (htt:TTOk X.P tt) (fz:List Nat) (O:Opn R) (xs:List α) (k:Wc X (nBs R xs fz c))
  (hp:(hB X.fn.ntmps c,(opC c).dst,frzB (vwC c) fz,(opC c).op,look tt (tyO (opC c).op),look tt (tdO tt (tyO (opC c).op)).el,(fillS (elemsFo (tdO tt (tyO (opC c).op)).es (lenO (opC c).op)) (frzS (vwC c) fz).L (partO (opC c).op).toList (zeroRow (tdO tt (tdO tt (tyO (opC c).op)).el).z (lenO (opC c).op * (tdO tt (tyO (opC c).op)).es))),rowL O (look (frzS (vwC c) fz).V) xs ((fillS (elemsFo (tdO tt (tyO (opC c).op)).es (lenO (opC c).op)) (frzS (vwC c) fz).L (partO (opC c).op).toList (zeroRow (tdO tt (tdO tt (tyO (opC c).op)).el).z (lenO (opC c).op * (tdO tt (tyO (opC c).op)).es))).getD []),rowE R.sz xs ((fillS (elemsFo (tdO tt (tyO (opC c).op)).es (lenO (opC c).op)) (frzS (vwC c) fz).L (partO (opC c).op).toList (zeroRow (tdO tt (tdO tt (tyO (opC c).op)).el).z (lenO (opC c).op * (tdO tt (tyO (opC c).op)).es))).getD []),(Nat.beq (tdO tt (tyO (opC c).op)).kd 6 && Nat.beq (tdO tt (tyO (opC c).op)).es R.sz && Nat.beq xs.length (lenO (opC c).op) && Nat.ble (lenO (opC c).op * (tdO tt (tyO (opC c).op)).es) 16777216 && !(tdO tt (tdO tt (tyO (opC c).op)).el).z.isEmpty))=(true,some (dstC c),true,.buildSlice (tyO (opC c).op) (lenO (opC c).op) (partO (opC c).op),some (tdO tt (tyO (opC c).op)),some (tdO tt (tdO tt (tyO (opC c).op)).el),some ((fillS (elemsFo (tdO tt (tyO (opC c).op)).es (lenO (opC c).op)) (frzS (vwC c) fz).L (partO (opC c).op).toList (zeroRow (tdO tt (tdO tt (tyO (opC c).op)).el).z (lenO (opC c).op * (tdO tt (tyO (opC c).op)).es))).getD []),rowR O (look (frzS (vwC c) fz).V) xs ((fillS (elemsFo (tdO tt (tyO (opC c).op)).es (lenO (opC c).op)) (frzS (vwC c) fz).L (partO (opC c).op).toList (zeroRow (tdO tt (tdO tt (tyO (opC c).op)).el).z (lenO (opC c).op * (tdO tt (tyO (opC c).op)).es))).getD []),[],true):=by kernel_rfl):Wc X c:=by
 simp only [Prod.mk.injEq] at hp
 obtain ⟨h1,h2,h3,h4,h5,h6,h7,h8,h9,h10⟩:=hp
 obtain ⟨h0,hn⟩:=hB_ok h1
 refine Wc.evz (d:=dBs R xs fz c) fz h0 h3 (d1_dst h2 rfl) (fun nk E0 F0 w0 n0 Z rest K ho hg h=>WPr.bs (X:=X.var nk E0 F0 w0 n0 Z) O htt xs ho hg h4 h2 h5 h6 h7 (row_ok h8 h9) (by rw [hn];simpa using h10) h) k
def dMk {α:Type} (R:TRep α) (xs:List α) (c:Cf):Dl:=⟨[(dstC c,.c (.sl (vwC c).nx))],[((vwC c).nx,.own R xs true)],[],1⟩
def nMk {α:Type} (R:TRep α) (xs:List α) (c:Cf):Cf:=goC (dMk R xs c) c
theorem eMk {α:Type} {R:TRep α} {z:α} {l m:Int} {xs:List α} {c:Cf} (htt:TTOk X.P tt) (O:Opn R) (hm:mkL z l m=some xs) (k:Wc X (nMk R xs c))
  (hp:(hB X.fn.ntmps c,(opC c).dst,(opC c).op,look tt (tyO (opC c).op),look tt (tdO tt (tyO (opC c).op)).el,argV c 0,argV c 1,rowL O (look (vwC c).V) [z] (tdO tt (tdO tt (tyO (opC c).op)).el).z,rowE R.sz [z] (tdO tt (tdO tt (tyO (opC c).op)).el).z,(Nat.beq (tdO tt (tyO (opC c).op)).kd 6 && Nat.beq (tdO tt (tyO (opC c).op)).es R.sz && Nat.ble (tdO tt (tyO (opC c).op)).eb 32768 && !(tdO tt (tdO tt (tyO (opC c).op)).el).z.isEmpty))=(true,some (dstC c),.makeSlice (tyO (opC c).op) (argO (opC c).op 0) (argO (opC c).op 1),some (tdO tt (tyO (opC c).op)),some (tdO tt (tdO tt (tyO (opC c).op)).el),some (.c (.i (ikV (argV c 0)) l)),some (.c (.i (ikV (argV c 1)) m)),rowR O (look (vwC c).V) [z] (tdO tt (tdO tt (tyO (opC c).op)).el).z,[],true):=by kernel_rfl):Wc X c:=by
 simp only [Prod.mk.injEq] at hp
 obtain ⟨h1,h2,h3,h4,h5,h6,h7,h8,h9,h10⟩:=hp
 obtain ⟨h0,hn⟩:=hB_ok h1
 refine Wc.ev (d:=dMk R xs c) h0 (d1_dst h2 rfl) (fun nk E0 F0 w0 n0 Z rest K ho hg h=>WPr.mk (X:=X.var nk E0 F0 w0 n0 Z) O htt z hm ho hg h3 h2 h4 h5 h6 h7 (row_ok h8 h9) (by rw [hn];simpa using h10) h) k
def dIs {α:Type} (R:TRep α) (zs:List α) (c:Cf):Dl:=⟨[(dstC c,.c (.sl (vwC c).nx))],[],[((vwC c).nx,.sl R zs)],1⟩
def nIs {α:Type} (R:TRep α) (zs:List α) (c:Cf):Cf:=goC (dIs R zs c) c
theorem eIs {α:Type} {xs zs:List α} {lo hi:Option Int} {c:Cf} (htt:TTOk X.P tt) (R:TRep α) (hz:lsl xs lo hi=some zs) (k:Wc X (nIs R zs c))
    (hp:(hB X.fn.ntmps c,(opC c).dst,(opC c).op,look tt (tyO (opC c).op),argV c 0,look (vwC c).V (keyV (argV c 0)),evOI (vwC c).L (loO (opC c).op),evOI (vwC c).L (hiO (opC c).op),((evOI (vwC c).L (loO (opC c).op)).getD none).map (·.2),((evOI (vwC c).L (hiO (opC c).op)).getD none).map (·.2),slB tt R.sz c)=(true,some (dstC c),.slice (tyO (opC c).op) (argO (opC c).op 0) (loO (opC c).op) (hiO (opC c).op) none,some (tdO tt (tyO (opC c).op)),some (.c (.sl (keyV (argV c 0)))),some (.sl R xs),some ((evOI (vwC c).L (loO (opC c).op)).getD none),some ((evOI (vwC c).L (hiO (opC c).op)).getD none),lo,hi,true):=by kernel_rfl):Wc X c:=by
  simp only [Prod.mk.injEq] at hp
  obtain ⟨h1,h2,h3,h4,h5,h6,h7,h8,h9,h10,h11⟩:=hp
  obtain ⟨h0,hn⟩:=hB_ok h1
  refine Wc.ev (d:=dIs R zs c) h0 (d1_dst h2 rfl) (fun nk E0 F0 w0 n0 Z rest K ho hg h=>WPr.isl (X:=X.var nk E0 F0 w0 n0 Z) htt (by rw [h9,h10];exact hz) ho hg h3 h2 h4 h5 h6 h7 h8 (slB_ok h11 hn) h) k
def dVw (lo hi:Option Int) (sz:Nat) (c:Cf):Dl:=⟨[(dstC c,.c (.sl (vwC c).nx))],[],[((vwC c).nx,.vw (keyV (argV c 0)) lo hi sz)],1⟩
def nVw (lo hi:Option Int) (sz:Nat) (c:Cf):Cf:=goC (dVw lo hi sz c) c
theorem eVw {α:Type} {xs zs:List α} {lo hi:Option Int} {c:Cf} (htt:TTOk X.P tt) (R:TRep α) (hz:lsl xs lo hi=some zs) (k:Wc X (nVw lo hi R.sz c))
    (hp:(hB X.fn.ntmps c,(opC c).dst,(opC c).op,look tt (tyO (opC c).op),argV c 0,look (vwC c).M (keyV (argV c 0)),evOI (vwC c).L (loO (opC c).op),evOI (vwC c).L (hiO (opC c).op),((evOI (vwC c).L (loO (opC c).op)).getD none).map (·.2),((evOI (vwC c).L (hiO (opC c).op)).getD none).map (·.2),slB tt R.sz c)=(true,some (dstC c),.slice (tyO (opC c).op) (argO (opC c).op 0) (loO (opC c).op) (hiO (opC c).op) none,some (tdO tt (tyO (opC c).op)),some (.c (.sl (keyV (argV c 0)))),some (.own R xs (fwM (look (vwC c).M (keyV (argV c 0))))),some ((evOI (vwC c).L (loO (opC c).op)).getD none),some ((evOI (vwC c).L (hiO (opC c).op)).getD none),lo,hi,true):=by kernel_rfl):Wc X c:=by
  simp only [Prod.mk.injEq] at hp
  obtain ⟨h1,h2,h3,h4,h5,h6,h7,h8,h9,h10,h11⟩:=hp
  obtain ⟨h0,hn⟩:=hB_ok h1
  refine Wc.ev (d:=dVw lo hi R.sz c) h0 (d1_dst h2 rfl) (fun nk E0 F0 w0 n0 Z rest K ho hg h=>WPr.vw (X:=X.var nk E0 F0 w0 n0 Z) htt (by rw [h9,h10];exact hz) ho hg h3 h2 h4 h5 h6 h7 h8 (slB_ok h11 hn) (by rw [h9,h10];exact h)) k
def dSs (z:ByteArray) (c:Cf):Dl:=d1 c (.c (.s z))
def nSs (z:ByteArray) (c:Cf):Cf:=goC (dSs z c) c
theorem eSs {b z:ByteArray} {lo hi:Option Int} {c:Cf} (htt:TTOk X.P tt) (hz:ssl b lo hi=some z) (k:Wc X (nSs z c))
    (hp:(hB X.fn.ntmps c,(opC c).dst,(opC c).op,look tt (tyO (opC c).op),Nat.beq (tdO tt (tyO (opC c).op)).kd 2,argV c 0,evOI (vwC c).L (loO (opC c).op),evOI (vwC c).L (hiO (opC c).op),((evOI (vwC c).L (loO (opC c).op)).getD none).map (·.2),((evOI (vwC c).L (hiO (opC c).op)).getD none).map (·.2))=(true,some (dstC c),.slice (tyO (opC c).op) (argO (opC c).op 0) (loO (opC c).op) (hiO (opC c).op) none,some (tdO tt (tyO (opC c).op)),true,some (.c (.s b)),some ((evOI (vwC c).L (loO (opC c).op)).getD none),some ((evOI (vwC c).L (hiO (opC c).op)).getD none),lo,hi):=by kernel_rfl):Wc X c:=by
  simp only [Prod.mk.injEq] at hp
  obtain ⟨h1,h2,h3,h4,h5,h6,h7,h8,h9,h10⟩:=hp
  obtain ⟨h0,hn⟩:=hB_ok h1
  refine Wc.ev (d:=dSs z c) h0 (d1_dst h2 rfl) (fun nk E0 F0 w0 n0 Z rest K ho hg h=>WPr.ssl (X:=X.var nk E0 F0 w0 n0 Z) htt (by rw [h9,h10];exact hz) ho hg h3 h2 h4 h5 h6 h7 h8 hn h) k
def dSx (z:Int) (c:Cf):Dl:=d1 c (.c (.i .u8 z))
def nSx (z:Int) (c:Cf):Cf:=goC (dSx z c) c
theorem eSx {b:ByteArray} {m z:Int} {c:Cf} (htt:TTOk X.P tt) (hz:sidx b m=some z) (k:Wc X (nSx z c))
  (hp:(hB X.fn.ntmps c,(opC c).dst,(opC c).op,look tt (tyO (opC c).op),Nat.beq (tdO tt (tyO (opC c).op)).kd 2,argV c 0,argV c 1)=(true,some (dstC c),.index (tyO (opC c).op) (argO (opC c).op 0) (argO (opC c).op 1),some (tdO tt (tyO (opC c).op)),true,some (.c (.s b)),some (.c (.i (ikV (argV c 1)) m))):=by kernel_rfl):Wc X c:=by
 simp only [Prod.mk.injEq] at hp
 obtain ⟨h1,h2,h3,h4,h5,h6,h7⟩:=hp
 obtain ⟨h0,hn⟩:=hB_ok h1
 refine Wc.ev (d:=dSx z c) h0 (d1_dst h2 rfl) (fun nk E0 F0 w0 n0 Z rest K ho hg h=>WPr.sx (X:=X.var nk E0 F0 w0 n0 Z) htt hz ho hg h3 h2 h4 h5 h6 h7 hn h) k
def dCa (z:ByteArray) (c:Cf):Dl:=d1 c (.c (.s z))
def nCa (z:ByteArray) (c:Cf):Cf:=goC (dCa z c) c
theorem eCa {a b z:ByteArray} {c:Cf} (hz:catS a b=some z) (k:Wc X (nCa z c))
  (hp:(hB X.fn.ntmps c,(opC c).dst,(opC c).op,argV c 0,argV c 1)=(true,some (dstC c),.binOp .add (tyO (opC c).op) (argO (opC c).op 0) (argO (opC c).op 1) (tyO2 (opC c).op),some (.c (.s a)),some (.c (.s b))):=by kernel_rfl):Wc X c:=by
 simp only [Prod.mk.injEq] at hp
 obtain ⟨h1,h2,h3,h4,h5⟩:=hp
 obtain ⟨h0,hn⟩:=hB_ok h1
 refine Wc.ev (d:=dCa z c) h0 (d1_dst h2 rfl) (fun nk E0 F0 w0 n0 Z rest K ho hg h=>WPr.cat (X:=X.var nk E0 F0 w0 n0 Z) hz ho hg h3 h2 h4 h5 hn h) k
def dBi (ik:IntKind) (z:Int) (c:Cf):Dl:=d1 c (.c (.i ik z))
def nBi (ik:IntKind) (z:Int) (c:Cf):Cf:=goC (dBi ik z c) c
theorem eBi {op:BinOp} {ik:IntKind} {m m2 z:Int} {c:Cf} (hz:binO op ik m m2=some z) (k:Wc X (nBi ik z c))
  (hp:(hB X.fn.ntmps c,(opC c).dst,(opC c).op,argV c 0,argV c 1,(isSh op || decide (ik=ikV (argV c 1))))=(true,some (dstC c),.binOp op (tyO (opC c).op) (argO (opC c).op 0) (argO (opC c).op 1) (tyO2 (opC c).op),some (.c (.i ik m)),some (.c (.i (ikV (argV c 1)) m2)),true):=by kernel_rfl):Wc X c:=by
 simp only [Prod.mk.injEq] at hp
 obtain ⟨h1,h2,h3,h4,h5,h6⟩:=hp
 obtain ⟨h0,hn⟩:=hB_ok h1
 refine Wc.ev (d:=dBi ik z c) h0 (d1_dst h2 rfl) (fun nk E0 F0 w0 n0 Z rest K ho hg h=>WPr.bin (X:=X.var nk E0 F0 w0 n0 Z) hz ho hg h3 h2 h4 h5 h6 hn h) k
def dEq (P:Program) (c:Cf):Dl:=d1 c (.c (.b (bif negO (opC c).op then !((eqS P 20 (tyO (opC c).op) (aggV (argV c 0)) (aggV (argV c 1))).getD false) else (eqS P 20 (tyO (opC c).op) (aggV (argV c 0)) (aggV (argV c 1))).getD false)))
def nEq (P:Program) (c:Cf):Cf:=goC (dEq P c) c
theorem eEq {c:Cf}  (k:Wc X (nEq X.P c))
  (hp:(hB X.fn.ntmps c,(opC c).dst,aggOf X.P (tyO (opC c).op),(eqS X.P 20 (tyO (opC c).op) (aggV (argV c 0)) (aggV (argV c 1))),X.P.eqGuardType X.P.depth (tyO (opC c).op),(opC c).op,argV c 0,argV c 1)=(true,some (dstC c),true,some ((eqS X.P 20 (tyO (opC c).op) (aggV (argV c 0)) (aggV (argV c 1))).getD false),false,.binOp (bif negO (opC c).op then .neq else .eql) (tyO (opC c).op) (argO (opC c).op 0) (argO (opC c).op 1) (tyO2 (opC c).op),some (.a (aggV (argV c 0))),some (.a (aggV (argV c 1)))):=by kernel_rfl):Wc X c:=by
 simp only [Prod.mk.injEq] at hp
 obtain ⟨h1,h2,h3,h4,h5,h6,h7,h8⟩:=hp
 obtain ⟨h0,hn⟩:=hB_ok h1
 refine Wc.ev (d:=dEq X.P c) h0 (d1_dst h2 rfl) (fun nk E0 F0 w0 n0 Z rest K ho hg h=>WPr.eqa (X:=X.var nk E0 F0 w0 n0 Z) (equal_run h3 h4) h5 ho hg h6 h2 h7 h8 hn h) k
def dCb (ct:Ct) (l:List (Nat × SC)) (fz:List Nat) (c:Cf):Dl:=callD (frzS (vwC c) fz) ct l (dstC c)
def nCb (ct:Ct) (l:List (Nat × SC)) (fz:List Nat) (c:Cf):Cf:=goC ((dCb ct l fz c).fz (vwC c) fz) c
theorem eCb {f:FuncId} {ct:Ct} {c:Cf} (hf:Fn X.P f ct) (fz:List Nat) (l:List (Nat × SC)) (bor:List Nat) (hflat:bor=[]∨(ct.V1=[]∧FlatM ct.M1)) (k:Wc X (nCb ct l fz c))
  (hp:(hB X.fn.ntmps c,(opC c).dst,frzB (vwC c) fz,(opC c).op,evalO (frzS (vwC c) fz).L (calO (opC c).op),(evalL (frzS (vwC c) fz).L (argsO (opC c).op).toList).map (fun vs=>boxA (clF (evalO (frzS (vwC c) fz).L (calO (opC c).op)))++vs++boxA (clK (evalO (frzS (vwC c) fz).L (calO (opC c).op)))),ct.V0.map (fun p=>findVb (frzS (vwC c) fz) ⟨l,ct.nk,(frzS (vwC c) fz).nx⟩ bor p.1 p.2),ct.M0.map (fun p=>findM (frzS (vwC c) fz) ⟨l,ct.nk,(frzS (vwC c) fz).nx⟩ p.1 p.2),callB (frzS (vwC c) fz) ct l bor)=(true,some (dstC c),true,.call { callee:=.value (calO (opC c).op),args:=argsO (opC c).op,argTypes:=tysO (opC c).op },some (.c (.cl f (clF (evalO (frzS (vwC c) fz).L (calO (opC c).op))) (clK (evalO (frzS (vwC c) fz).L (calO (opC c).op))))),some (ct.args.map (renV ⟨l,ct.nk,(frzS (vwC c) fz).nx⟩)),ct.V0.map (fun p=>some p.2),ct.M0.map (fun p=>some (renM ⟨l,ct.nk,(frzS (vwC c) fz).nx⟩ p.2)),true):=by kernel_rfl):Wc X c:=by
 simp only [Prod.mk.injEq] at hp
 obtain ⟨h1,h2,h3,h4,h5,h6,h7,h8,h9⟩:=hp
 obtain ⟨h0,hn⟩:=hB_ok h1
 refine Wc.evz (d:=dCb ct l fz c) fz h0 h3 (d1_dst h2 rfl) (fun nk E0 F0 w0 n0 Z rest K ho hg h=>WPr.callc (X:=X.var nk E0 F0 w0 n0 Z) hf l bor ho hg h4 h2 hn h5 h6 h7 h8 hflat h9 h) k
theorem eCl {f:FuncId} {ct:Ct} {c:Cf} (hf:Fn X.P f ct) (fz:List Nat) (l:List (Nat × SC)) (k:Wc X (nCb ct l fz c))
  (hp:(hB X.fn.ntmps c,(opC c).dst,frzB (vwC c) fz,(opC c).op,evalO (frzS (vwC c) fz).L (calO (opC c).op),(evalL (frzS (vwC c) fz).L (argsO (opC c).op).toList).map (fun vs=>boxA (clF (evalO (frzS (vwC c) fz).L (calO (opC c).op)))++vs++boxA (clK (evalO (frzS (vwC c) fz).L (calO (opC c).op)))),ct.V0.map (fun p=>findVb (frzS (vwC c) fz) ⟨l,ct.nk,(frzS (vwC c) fz).nx⟩ [] p.1 p.2),ct.M0.map (fun p=>findM (frzS (vwC c) fz) ⟨l,ct.nk,(frzS (vwC c) fz).nx⟩ p.1 p.2),callB (frzS (vwC c) fz) ct l [])=(true,some (dstC c),true,.call { callee:=.value (calO (opC c).op),args:=argsO (opC c).op,argTypes:=tysO (opC c).op },some (.c (.cl f (clF (evalO (frzS (vwC c) fz).L (calO (opC c).op))) (clK (evalO (frzS (vwC c) fz).L (calO (opC c).op))))),some (ct.args.map (renV ⟨l,ct.nk,(frzS (vwC c) fz).nx⟩)),ct.V0.map (fun p=>some p.2),ct.M0.map (fun p=>some (renM ⟨l,ct.nk,(frzS (vwC c) fz).nx⟩ p.2)),true):=by kernel_rfl):Wc X c:=eCb hf fz l [] (.inl rfl) k hp
end
end Go.Kx
end
section
namespace Go.Kx
variable [LxP]
def Cf.isC:Cf→Bool
 | .co _ _=>true
 | _=>false
def Cf.itm:Cf→List Item
 | .co k _=>k
 | _=>[]
section
variable {X:Ctx} {tt:List (Nat × TD)}
theorem Wc.co {c:Cf} (h:c.isC=true) (k:WP X c.itm c.st):Wc X c:=by
 cases c with
 | co _ _=>exact ⟨k⟩
 | rg _ _ _ _ _=>cases h
 | no=>cases h
def slC:Cf→Nat
 | .co (.code (.cond (.tmp d) _ _)::_) _=>d
 | .rg _ ops i _ _=>match ops[i]? with
  | some o=>match o.guard with
   | some (j,_)=>match ops[j]? with
    | some oj=>oj.dst.getD 0
    | none=>0
   | none=>0
  | none=>0
 | _=>0
def gjC (c:Cf):Nat:=match (opC c).guard with
 | some (j,_)=>j
 | none=>0
def stepC:Cf→Option (List (Nat × SV))
 | .rg (some q) ops i k s=>some (entA q.2.2 (gjC (.rg (some q) ops i k s))).dL
 | _=>none
def wantC (b:Bool):Cf→Option (List (Nat × SV))
 | .rg (some q) ops i k s=>some [(slC (.rg (some q) ops i k s),.c (.b b))]
 | _=>none
def setL (d:Nat) (b:Bool) (s:St):St:=⟨(d,.c (.b b))::s.L,s.M,s.V,s.nx⟩
def setE (j d:Nat) (b:Bool) (es:List Ent):List Ent:=es.set j { entA es j with dL:=[(d,.c (.b b))] }
def setC (t:Bool):Cf→Cf
 | .co k s=>.co k (setL (slC (.co k s)) t s)
 | .rg none ops i k s=>.rg none ops i k (setL (slC (.rg none ops i k s)) t s)
 | .rg (some q) ops i k s=>.rg (some (q.1,q.2.1,setE (gjC (.rg (some q) ops i k s)) (slC (.rg (some q) ops i k s)) t q.2.2)) ops i k (setL (slC (.rg (some q) ops i k s)) t s)
 | .no=>.no
theorem setE_same {j d:Nat} {b:Bool} {es:List Ent} (h:(entA es j).dL=[(d,.c (.b b))]):setE j d b es=es:=by
 unfold setE
 rw [← h]
 show es.set j (entA es j)=es
 unfold entA
 by_cases hj:j < es.length
 ·rw [show es.getD j ent0=es[j] by simp [List.getD,hj],List.set_getElem_self]
 ·exact List.set_eq_of_length_le (Nat.not_lt.1 hj)
theorem eK {b t:Bool} (K:b=t) {c:Cf} (k:Wc X (setC t c)) (hp:(look c.st.L (slC c),stepC c)=(some (.c (.b b)),wantC b c):=by kernel_rfl):Wc X c:=by
 subst K
 obtain ⟨h1,h2⟩:=Prod.mk.inj hp
 cases c with
 | no=>exact k.1.elim
 | co k' s=>exact ⟨fun E F w a hs=>k.1 E F w a (Sat.setL0 hs h1 rfl trivial)⟩
 | rg m ops i k' s =>
  cases m with
  | none=>exact ⟨WPr.kb _ rfl h1 k.1⟩
  | some q =>
   refine ⟨fun hA hl=>?_⟩
   have e:=setE_same (Option.some.inj h2)
   have k:AllLS X ops 0 (setE _ _ _ q.2.2)→(setE _ _ _ q.2.2).length=i→WP X (.code (.region q.1 ops true)::k') q.2.1:=k.1
   rw [e] at k
   exact k hA hl
theorem wa (htt:TTOk X.P tt) (n:Nat) {c:Cf} (k:Wc X (adv tt X.fn.ntmps n c)):Wc X c:=adv_ok htt n k
def ctS (c:Cf) (s:St):Cf:=.co c.kk s
theorem eCut {σ:Type} (J:σ→St) (Q:σ→Prop) {c:Cf} (hk:∀ st,Q st→Wc X (ctS c (J st))) (h:(∀ st,Q st→WP X c.kk (J st))→Wc X c):Wc X c:=h fun st hq=>(hk st hq).1
def lpC (c:Cf):Code:=match c with
 | .co (.code (.loop x)::_) _=>x
 | _=>.skip
def lpS (c:Cf) (s:St):Cf:=.co (.code (lpC c)::.inLoop (lpC c)::c.kk) s
def lpK (c:Cf):List Item:=.inLoop (lpC c)::c.kk
def lpI (c:Cf):List Item:=.code (.loop (lpC c))::c.kk
theorem eLoop {σ ρ:Type} {r:ρ} (H:σ→St) (p:Nat→σ→Option ρ) (h0:∀ st,p 0 st=none) {c:Cf}
  (step:∀ n,(∀ st,p n st=some r→WP X (lpK c) (H st))→∀ st,p (n+1) st=some r→Wc X (lpS c (H st)))
  (h:(∀ n st,p n st=some r→WP X (lpI c) (H st))→Wc X c):Wc X c:=by
 have key:∀ n st,p n st=some r→WP X (.code (lpC c)::.inLoop (lpC c)::c.kk) (H st):=by
  intro n
  induction n with
  | zero=>intro st hp;rw [h0] at hp;cases hp
  | succ n ih=>exact fun st hq=>(step n (fun st hp=>WP.inLoop (ih st hp)) st hq).1
 exact h fun n st hp=>WP.loop (key n st hp)
theorem eSub {t:St} {todo:List Item} (l:List (Nat × SC)) (k:WP X todo t) {c:Cf}
    (hp:(c.isC,c.itm,t.L.map (fun p=>look c.st.L p.1),t.V.map (fun p=>findV c.st ⟨l,0,0⟩ p.1 p.2),t.M.map (fun p=>findM c.st ⟨l,0,0⟩ p.1 p.2),
        (t.L.all (fun p=>okV ⟨l,0,0⟩ p.2) && nodupB (t.M.filterMap fun p=>keyM ⟨l,0,0⟩ p.1 p.2) && nodupB (t.M.map (·.1)) && wfb t.L t.M t.V t.nx && l.all (fun p=>Nat.ble X.nk p.1 && p.2.kbb c.st.nx) && Nat.ble X.nk t.nx)) =
      (true,todo,t.L.map (fun p=>some (renV ⟨l,0,0⟩ p.2)),t.V.map (fun p=>some p.2),t.M.map (fun p=>some (renM ⟨l,0,0⟩ p.2)),true):=by kernel_rfl):Wc X c:=by
  simp only [Prod.mk.injEq] at hp
  obtain ⟨h1,h2,h3,h4,h5,h6⟩:=hp
  refine Wc.co h1 ?_
  rw [h2]
  exact WP.sub l k h3 h4 h5 h6
def mapC (f:St→St):Cf→Cf
 | .co k s=>.co k (f s)
 | .rg none ops i k s=>.rg none ops i k (f s)
 | _=>.no
theorem mapC_ok {f:St→St} {c:Cf} (h:∀ E F w a,Sat X c.st E F w a→∃ E' F',Sat X (f c.st) E' F' w a) (k:Wc X (mapC f c)):Wc X c:=by
 cases c with
 | no=>exact k.1.elim
 | co k' s=>exact ⟨fun E F w a hs=>let ⟨E',F',hs'⟩:=h E F w a hs;k.1 E' F' w a hs'⟩
 | rg m ops i k' s =>
  cases m with
  | none=>exact ⟨fun E F w a hs=>let ⟨E',F',hs'⟩:=h E F w a hs;k.1 E' F' w a hs'⟩
  | some q=>exact k.1.elim
theorem eFr (fz:List Nat) {c:Cf} (k:Wc X (mapC (fun s=>frzS s fz) c)) (hp:frzB c.st fz=true:=by kernel_rfl):Wc X c :=
 mapC_ok (fun _ _ _ _ hs=>let ⟨F',h⟩:=frzS_sat hs hp;⟨_,F',h⟩) k
theorem eSl {α:Type} (R:TRep α) {xs zs:List α} {l h:Option Int} (K:Nat) (hz:lsl xs l h=some zs) {c:Cf}
  (k:Wc X (mapC (fun s=>⟨s.L,(K,.own R zs (fwM (look s.M (elK (look s.V K)))))::(elK (look s.V K),.gone)::s.M,s.V,s.nx⟩) c))
  (hp:(look c.st.V K,look c.st.M (elK (look c.st.V K)),(look c.st.M K).isNone)=(some (.vw (elK (look c.st.V K)) l h R.sz),some (.own R xs (fwM (look c.st.M (elK (look c.st.V K))))),true):=by kernel_rfl):Wc X c:=by
 simp only [Prod.mk.injEq,Option.isNone_iff_eq_none] at hp
 obtain ⟨h1,h2,h3⟩:=hp
 exact mapC_ok (fun E F w a hs=>⟨E,F,hs.settle hz h1 h2 h3⟩) k
def retC:Cf→Bool
 | .co [] _=>true
 | .co (.code .ret::_) _=>true
 | _=>false
theorem eRet {P:Program} {f:FuncId} {fn:Func} {ct:Ct} {E0:Env} {F0:FSet} {w0:World} (htt:TTOk P tt) (hf:P.funcs[f]? = some fn) (l:List (Nat × SC)) {c:Cf}
    (hp:(retC c,resV tt c.st fn.results.toList,ct.V1.map (fun p=>findV c.st ⟨l,0,0⟩ p.1 p.2),ct.M1.map (fun p=>findM c.st ⟨l,0,0⟩ p.1 p.2),
        (okV ⟨l,0,0⟩ ct.res && nodupB (ct.M1.filterMap fun p=>keyM ⟨l,0,0⟩ p.1 p.2) && nodupB (ct.M1.map (·.1)) && l.all (fun p=>Nat.ble ct.nk p.1 && p.2.kbb c.st.nx))) =
      (true,some (renV ⟨l,0,0⟩ ct.res),ct.V1.map (fun p=>some p.2),ct.M1.map (fun p=>some (renM ⟨l,0,0⟩ p.2)),true):=by kernel_rfl):Wc (ct.ctx P f fn E0 F0 w0) c:=by
  simp only [Prod.mk.injEq] at hp
  obtain ⟨h1,h2,h3,h4,h5⟩:=hp
  unfold retC at h1
  split at h1
  · exact ⟨WP.fin htt hf l h2 h3 h4 h5⟩
  · exact ⟨WP.ret htt hf l h2 h3 h4 h5⟩
  · cases h1
theorem eFn {P:Program} {f:FuncId} {c:Ct} {fn:Func} {body:Code} (hf:P.funcs[f]? = some fn) (hb:fn.body=some body) (h:∀ E F w,Wc (c.ctx P f fn E F w) (.co [.code body] ⟨numL 0 c.args,c.M0,c.V0,c.nk⟩))
  (hp:((fn.name == "runtime.NumGoroutine"),(wfb (numL 0 c.args) c.M0 c.V0 c.nk && c.M0.all (fun p => !p.2.isFresh) && Nat.ble c.args.length fn.ntmps))=(false,true):=by kernel_rfl):Fn P f c :=
 Fn.intro fn body hf hb (Prod.mk.inj hp).1 (Prod.mk.inj hp).2 fun E F w=>(h E F w).1
def ancR:List Oper→List Nat→List Nat
 | [],acc=>acc
 | o::r,acc=>ancR r (acc++[ancF acc o.after.toList])
def entsC:Cf→List Ent
 | .rg (some q) _ _ _ _=>q.2.2
 | _=>[]
def st0C:Cf→St
 | .rg (some q) _ _ _ _=>q.2.1
 | _=>⟨[],[],[],0⟩
def isD:Cf→Bool
 | .rg (some _) ops i _ _=>Nat.beq i ops.size
 | _=>false
def endC (c:Cf):Cf:=.co c.kk (stD (entsC c) c.st.nx (st0C c) fun _=>true)
theorem eEnd {c:Cf} (k:Wc X (endC c)) (hp:(isD c,X.P.follows .mixedOrders,chkB c.ops (entsC c) (ancR c.ops.toList []) (st0C c).nx c.st.nx,needs (entsC c) (ancR c.ops.toList []) (st0C c))=(true,true,true,wants (entsC c)):=by kernel_rfl):Wc X c:=by
 simp only [Prod.mk.injEq] at hp
 obtain ⟨h1,h2,h3,h4⟩:=hp
 cases c with
 | no=>cases h1
 | co k' s=>cases h1
 | rg m ops i k' s =>
  cases m with
  | none=>cases h1
  | some q =>
   refine ⟨fun hA hl=>?_⟩
   obtain ⟨k⟩:=k
   obtain ⟨id,s0,es⟩:=q
   replace h3:chkB ops es (ancR ops.toList []) s0.nx s.nx=true:=h3
   replace h4:needs es (ancR ops.toList []) s0=wants es:=h4
   replace hA:AllLS X ops 0 es:=hA
   show WP X (.code (.region id ops true)::k') s0
   intro E F w a hs
   have c:=chkB_ok h3
   refine runs_of_wp (wp_region_any h2 ?_)
   have hs':Sat X s0 E F { w with drawn:=w.drawn+1 } a:=hs.world rfl rfl .m (Nat.le_refl _) fun _ _=>rfl
   have hf:∀ j,(Array.replicate ops.size false).getD j false=false:=fun j=>by
    by_cases h:j < ops.size<;>simp [h]
   refine regionD_aux (todo:=rk X k') hA c h4 hs.wf hs.nk (fun E F w a hs=>k E F w a hs) ops.size _ E F _ a (by simp)
    (fun i hi=>by rw [hf] at hi;cases hi) (by rw [c.size];exact cnt_false fun j _=>by rw [← c.size];exact hf j) ?_
   have:stD es s.nx s0 (fun j=>(Array.replicate ops.size false).getD j false)=⟨s0.L,s0.M,s0.V,s.nx⟩:=by
    rw [show (fun j=>(Array.replicate ops.size false).getD j false)=fun _=>false from funext hf]
    unfold stD
    rw [gath_false,gath_false,gath_false]
   show Sat X (stD es s.nx s0 _) E F _ a
   rw [this]
   exact hs'.nxt c.nxle
end
end Go.Kx
end
section
namespace Go.Kx
variable [LxP]
def arrN (P:Program) (t:TypeId):Nat:=match P.underlying t with
 | some (.array n _)=>n
 | _=>0
def elT (P:Program) (t:TypeId):TypeId:=match P.underlying t with
 | some (.array _ e)=>e
 | some (.slice e)=>e
 | some (.pointer e)=>e
 | _=>0
def szT (P:Program) (t:TypeId):Nat:=((P.info? t).map (·.size)).getD 0
def boxT:Option MO→TypeId
 | some (.box _ t)=>t
 | _=>0
def boxC:Option MO→List SC
 | some (.box cs _)=>cs
 | _=>[]
section
variable {X:Ctx} {tt:List (Nat × TD)}
def dAx (v:SC) (c:Cf):Dl:=d1 c (.c v)
def nAx (v:SC) (c:Cf):Cf:=goC (dAx v c) c
theorem eAx {α:Type} {m:Int} {e:α} {c:Cf} (f:α→SC) (xs:List α) (hi:idx xs m=some e) (k:Wc X (nAx (f e) c))
    (hp:(hB X.fn.ntmps c,(opC c).dst,(opC c).op,X.P.underlying (tyO (opC c).op),(X.P.info? (elT X.P (tyO (opC c).op))).map (·.size),aggOf X.P (elT X.P (tyO (opC c).op)),(X.P.underlying (elT X.P (tyO (opC c).op))).isSome,argV c 0,argV c 1)=(true,some (dstC c),.index (tyO (opC c).op) (argO (opC c).op 0) (argO (opC c).op 1),some (.array xs.length (elT X.P (tyO (opC c).op))),some 1,false,true,some (.a (xs.map f)),some (.c (.i (ikV (argV c 1)) m))):=by kernel_rfl):Wc X c:=by
  simp only [Prod.mk.injEq] at hp
  obtain ⟨h1,h2,h3,h4,h5,h6,h7,h8,h9⟩:=hp
  obtain ⟨h0,hn⟩:=hB_ok h1
  refine Wc.ev (d:=dAx (f e) c) h0 (d1_dst h2 rfl) (fun nk E0 F0 w0 n0 Z rest K ho hg h=>WPr.ax (X:=X.var nk E0 F0 w0 n0 Z) f xs hi ho hg h3 h2 h4 h5 h6 h7 h8 rfl h9 hn h) k
def dAb (P:Program) (j:Nat) (c:Cf):Dl:=d1 c (.c (.bp (keyV (argV c 0)) (offV (argV c 0)+j * szT P (elT P (tyO (opC c).op)))))
def nAb (P:Program) (j:Nat) (c:Cf):Cf:=goC (dAb P j c) c
theorem eAb {m:Int} {c:Cf} (j:Nat) (hj:m=(j:Int)) (k:Wc X (nAb X.P j c))
    (hp:(hB X.fn.ntmps c,(opC c).dst,(opC c).op,X.P.underlying (tyO (opC c).op),(X.P.info? (elT X.P (tyO (opC c).op))).map (·.size),Nat.blt j (arrN X.P (tyO (opC c).op)),argV c 0,argV c 1)=(true,some (dstC c),.indexAddr (tyO (opC c).op) (argO (opC c).op 0) (argO (opC c).op 1),some (.array (arrN X.P (tyO (opC c).op)) (elT X.P (tyO (opC c).op))),some (szT X.P (elT X.P (tyO (opC c).op))),true,some (.c (.bp (keyV (argV c 0)) (offV (argV c 0)))),some (.c (.i (ikV (argV c 1)) m))):=by kernel_rfl):Wc X c:=by
  simp only [Prod.mk.injEq] at hp
  obtain ⟨h1,h2,h3,h4,h5,h6,h7,h8⟩:=hp
  obtain ⟨h0,hn⟩:=hB_ok h1
  refine Wc.ev (d:=dAb X.P j c) h0 (d1_dst h2 rfl) (fun nk E0 F0 w0 n0 Z rest K ho hg h=>WPr.axb (X:=X.var nk E0 F0 w0 n0 Z) j hj ho hg h3 h2 h4 h5 h6 h7 h8 hn h) k
def dPn (neg:Bool) (c:Cf):Dl:=d1 c (.c (.b neg))
def nPn (neg:Bool) (c:Cf):Cf:=goC (dPn neg c) c
theorem ePn {c:Cf} (neg:Bool) (k:Wc X (nPn neg c))
  (hp:(hB X.fn.ntmps c,(opC c).dst,(opC c).op,X.P.underlying (tyO (opC c).op),argV c 0,argV c 1)=(true,some (dstC c),.binOp (bif neg then .neq else .eql) (tyO (opC c).op) (argO (opC c).op 0) (argO (opC c).op 1) (tyO2 (opC c).op),some (.pointer (elT X.P (tyO (opC c).op))),some (.c (.bp (keyV (argV c 0)) (offV (argV c 0)))),some (.c (.v (.pointer none)))):=by kernel_rfl):Wc X c:=by
 simp only [Prod.mk.injEq] at hp
 obtain ⟨h1,h2,h3,h4,h5,h6⟩:=hp
 obtain ⟨h0,hn⟩:=hB_ok h1
 refine Wc.ev (d:=dPn neg c) h0 (d1_dst h2 rfl) (fun nk E0 F0 w0 n0 Z rest K ho hg h=>WPr.pnil (X:=X.var nk E0 F0 w0 n0 Z) neg ho hg h3 h2 h4 h5 h6 hn h) k
def dSb {α:Type} (R:TRep α) (xs:List α) (fz:List Nat) (c:Cf):Dl:=⟨[(dstC c,.c (.sl (frzS (vwC c) fz).nx))],[((frzS (vwC c) fz).nx,.own R xs false),((keyV (evalO (frzS (vwC c) fz).L (argO (opC c).op 0))),.gone)],[],1⟩
def nSb {α:Type} (R:TRep α) (xs:List α) (fz:List Nat) (c:Cf):Cf:=goC ((dSb R xs fz c).fz (vwC c) fz) c
theorem eSb {α:Type} {R:TRep α} {c:Cf} (fz:List Nat) (O:Opn R) (xs:List α) (k:Wc X (nSb R xs fz c))
    (hp:(hB X.fn.ntmps c,(opC c).dst,frzB (vwC c) fz,(opC c).op,X.P.underlying (tyO (opC c).op),(X.P.info? (elT X.P (tyO (opC c).op))).map (·.size),evalO (frzS (vwC c) fz).L (argO (opC c).op 0),(look (frzS (vwC c) fz).M (keyV (evalO (frzS (vwC c) fz).L (argO (opC c).op 0)))),(look (frzS (vwC c) fz).M (frzS (vwC c) fz).nx).isNone,rowL O (look (frzS (vwC c) fz).V) xs (boxC (look (frzS (vwC c) fz).M (keyV (evalO (frzS (vwC c) fz).L (argO (opC c).op 0))))),rowE R.sz xs (boxC (look (frzS (vwC c) fz).M (keyV (evalO (frzS (vwC c) fz).L (argO (opC c).op 0))))))=(true,some (dstC c),true,.slice (tyO (opC c).op) (argO (opC c).op 0) none none none,some (.array xs.length (elT X.P (tyO (opC c).op))),some R.sz,some (.c (.bp (keyV (evalO (frzS (vwC c) fz).L (argO (opC c).op 0))) 0)),some (.box (boxC (look (frzS (vwC c) fz).M (keyV (evalO (frzS (vwC c) fz).L (argO (opC c).op 0))))) (boxT (look (frzS (vwC c) fz).M (keyV (evalO (frzS (vwC c) fz).L (argO (opC c).op 0)))))),true,rowR O (look (frzS (vwC c) fz).V) xs (boxC (look (frzS (vwC c) fz).M (keyV (evalO (frzS (vwC c) fz).L (argO (opC c).op 0))))),[]):=by kernel_rfl):Wc X c:=by
  simp only [Prod.mk.injEq] at hp
  obtain ⟨h1,h2,h3,h4,h5,h6,h7,h8,h9,h10,h11⟩:=hp
  obtain ⟨h0,hn⟩:=hB_ok h1
  refine Wc.evz (d:=dSb R xs fz c) fz h0 h3 (d1_dst h2 rfl) (fun nk E0 F0 w0 n0 Z rest K ho hg h=>WPr.slb (X:=X.var nk E0 F0 w0 n0 Z) O xs (row_ok h10 h11) ho hg h4 h2 h5 h6 h7 h8 (by rw [hn,h9];simp) h) k
def dCs (ys:List Int) (c:Cf):Dl:=d1 c (.c (.s (strOf ys)))
def nCs (ys:List Int) (c:Cf):Cf:=goC (dCs ys c) c
theorem eCs {c:Cf} (ys:List Int) (k:Wc X (nCs ys c))
  (hp:(hB X.fn.ntmps c,(opC c).dst,(opC c).op,X.P.underlying (tyO (opC c).op),X.P.underlying (tyO2 (opC c).op),X.P.underlying (elT X.P (tyO (opC c).op)),argV c 0,conC (vwC c) (cellV' (argV c 0)))=(true,some (dstC c),.convert (tyO (opC c).op) (tyO2 (opC c).op) (argO (opC c).op 0),some (.slice (elT X.P (tyO (opC c).op))),some .string,some (.int .u8),some (.c (cellV' (argV c 0))),some ⟨rI .u8,ys⟩):=by kernel_rfl):Wc X c:=by
 simp only [Prod.mk.injEq] at hp
 obtain ⟨h1,h2,h3,h4,h5,h6,h7,h8⟩:=hp
 obtain ⟨h0,hn⟩:=hB_ok h1
 obtain ⟨k0,e0,hor⟩:=conC_ok h8
 refine Wc.ev (d:=dCs ys c) h0 (d1_dst h2 rfl) (fun nk E0 F0 w0 n0 Z rest K ho hg h=>?_) k
 rw [e0] at h7 h8
 refine WPr.cvs (X:=X.var nk E0 F0 w0 n0 Z) ys (conC_src h8) rfl ho hg h3 h2 h4 h5 h6 h7 ?_ hn h
 rcases hor with hv | ⟨fr,hm⟩
 ·exact shI hv
 ·exact shO hm
def dEx (v:SV) (c:Cf):Dl:=d1 c v
def nEx (v:SV) (c:Cf):Cf:=goC (dEx v c) c
theorem eEx {f:FuncId} {svs:List SV} {v:SV} {c:Cf} (hrun:∀ (E:Env) (w:World),(callFunc f (svs.map (denV E)).toArray).run X.P w=.ok (.value (denV E v)) w) (hv:∀ n,v.kb n) (k:Wc X (nEx v c))
  (hp:(hB X.fn.ntmps c,(opC c).dst,(opC c).op,evalL (vwC c).L (argsO (opC c).op).toList)=(true,some (dstC c),.call { callee:=.value (.func f),args:=argsO (opC c).op,argTypes:=tysO (opC c).op },some svs):=by kernel_rfl):Wc X c:=by
 simp only [Prod.mk.injEq] at hp
 obtain ⟨h1,h2,h3,h4⟩:=hp
 obtain ⟨h0,hn⟩:=hB_ok h1
 refine Wc.ev (d:=dEx v c) h0 (d1_dst h2 rfl) (fun nk E0 F0 w0 n0 Z rest K ho hg h=>WPr.ext (X:=X.var nk E0 F0 w0 n0 Z) hrun hv ho hg h3 h2 hn h4 h) k
def nilD (neg b:Bool) (c:Cf):Cf:=goC (d1 c (.c (.b (bif neg then !b else b)))) c
def inC:Cf→Bool
 | .rg none _ _ _ _=>true
 | _=>false
theorem eNi {α:Type} (R:TRep α) (xs:List α) (neg:Bool) {c:Cf} (kk:∀ b:Bool,(b=true→xs=[])→Wc X (nilD neg b c))
  (hp:(hB X.fn.ntmps c,(opC c).dst,inC c,(opC c).op,X.P.underlying (tyO (opC c).op),argV c 0,argV c 1,conC (vwC c) (.sl (keyV (argV c 0)))) =
   (true,some (dstC c),true,.binOp (bif neg then .neq else .eql) (tyO (opC c).op) (argO (opC c).op 0) (argO (opC c).op 1) (tyO2 (opC c).op),some (.slice (elT X.P (tyO (opC c).op))),some (.c (.sl (keyV (argV c 0)))),some (.c .nil),some ⟨R,xs⟩):=by kernel_rfl):Wc X c:=by
 simp only [Prod.mk.injEq] at hp
 obtain ⟨h1,h2,h3,h4,h5,h6,h7,h8⟩:=hp
 obtain ⟨h0,hn⟩:=hB_ok h1
 obtain ⟨k0,e0,hor⟩:=conC_ok h8
 cases c with
 | co _ _=>cases h3
 | no=>cases h3
 | rg m ops i k' s =>
  cases m with
  | some q=>cases h3
  | none =>
   unfold rdyB at h0
   rw [Bool.and_eq_true,Bool.and_eq_true] at h0
   obtain ⟨⟨_,g2⟩,g3⟩:=h0
   have ho:ops[i]? = some (opC (.rg none ops i k' s)):=by
    obtain ⟨o,ho⟩:=Option.isSome_iff_exists.1 g2
    have ho:ops[i]? = some o:=ho
    unfold opC
    show _=some ((ops[i]?).getD default)
    rw [ho];rfl
   have hg:guardV ops s.L (opC (.rg none ops i k' s))=some true:=by
    split at g3
    ·rename_i b hb;rw [g3] at hb;exact hb
    ·cases g3
   refine ⟨?_⟩
   show WPr X ops (List.range' i (ops.size-i)) (rk X k') s
   rw [range_cons ho]
   cases e0
   exact WPr.nilc neg hor ho hg h4 h2 h5 h6 h7 hn fun b hb=>(kk b hb).1
def rngD (b:Nat) (m:ByteArray) (c:Cf):Cf:=goC ⟨[(dstC c,.c (.v (.pointer (some ⟨b,0,none⟩))))],[((vwC c).nx,.abs (itR b m 0))],[],1⟩ c
def rngE (b:Nat) (c:Cf):Cf:=rngD b (strV (argV c 0)) c
theorem eRn (htt:TTOk X.P tt) {c:Cf} (kk:∀ b,Wc X (rngE b c))
  (hp:(hB X.fn.ntmps c,(opC c).dst,inC c,(opC c).op,look tt (tyO (opC c).op),Nat.beq (tdO tt (tyO (opC c).op)).kd 2,argV c 0) =
   (true,some (dstC c),true,.range (tyO (opC c).op) (argO (opC c).op 0),some (tdO tt (tyO (opC c).op)),true,some (.c (.s (strV (argV c 0))))):=by kernel_rfl):Wc X c:=by
 simp only [Prod.mk.injEq] at hp
 obtain ⟨h1,h2,h3,h4,h5,h6,h7⟩:=hp
 obtain ⟨h0,hn⟩:=hB_ok h1
 cases c with
 | co _ _=>cases h3
 | no=>cases h3
 | rg m ops i k' s =>
  cases m with
  | some q=>cases h3
  | none =>
   unfold rdyB at h0
   rw [Bool.and_eq_true,Bool.and_eq_true] at h0
   obtain ⟨⟨_,g2⟩,g3⟩:=h0
   have ho:ops[i]? = some (opC (.rg none ops i k' s)):=by
    obtain ⟨o,ho⟩:=Option.isSome_iff_exists.1 g2
    have ho:ops[i]? = some o:=ho
    unfold opC
    show _=some ((ops[i]?).getD default)
    rw [ho];rfl
   have hg:guardV ops s.L (opC (.rg none ops i k' s))=some true:=by
    split at g3
    ·rename_i b hb;rw [g3] at hb;exact hb
    ·cases g3
   refine ⟨?_⟩
   show WPr X ops (List.range' i (ops.size-i)) (rk X k') s
   rw [range_cons ho]
   exact WPr.rng htt ho hg h4 h2 h5 h6 h7 hn fun b=>(kk b).1
def dNf (c:Cf):Dl:=d1 c (.t [.inl (.b false)])
def nNf (c:Cf):Cf:=goC (dNf c) c
theorem eNf {p:Nat} {m:ByteArray} {c:Cf} (b k0:Nat) (hlt:decide (p < m.size)=false) (k:Wc X (nNf c))
  (hp:(hB X.fn.ntmps c,(opC c).dst,(opC c).op,argV c 0,look (vwC c).M k0)=(true,some (dstC c),.next (argO (opC c).op 0) true,some (.c (.v (.pointer (some ⟨b,0,none⟩)))),some (.abs (itR b m p))):=by kernel_rfl):Wc X c:=by
 simp only [Prod.mk.injEq] at hp
 obtain ⟨h1,h2,h3,h4,h5⟩:=hp
 obtain ⟨h0,hn⟩:=hB_ok h1
 refine Wc.ev (d:=dNf  c) h0 (d1_dst h2 rfl) (fun nk E0 F0 w0 n0 Z rest K ho hg h=>WPr.nxtF (X:=X.var nk E0 F0 w0 n0 Z) k0 hlt ho hg h3 h2 h4 h5 hn h) k
def dNt (b k0:Nat) (m:ByteArray) (p:Nat) (c:Cf):Dl:=⟨[(dstC c,.t [.inl (.b true),.inl (.i .i64 (p:Int)),.inl (.i .i32 ((Utf8.decode m p).1:Int))])],[(k0,.abs (itR b m (p+(Utf8.decode m p).2)))],[],0⟩
def nNt (b k0:Nat) (m:ByteArray) (p:Nat) (c:Cf):Cf:=goC (dNt b k0 m p c) c
theorem eNt {p:Nat} {m:ByteArray} {c:Cf} (b:Nat) (k0:Nat) (hlt:decide (p < m.size)=true) (k:Wc X (nNt b k0 m p c))
  (hp:(hB X.fn.ntmps c,(opC c).dst,(opC c).op,argV c 0,look (vwC c).M k0)=(true,some (dstC c),.next (argO (opC c).op 0) true,some (.c (.v (.pointer (some ⟨b,0,none⟩)))),some (.abs (itR b m p))):=by kernel_rfl):Wc X c:=by
 simp only [Prod.mk.injEq] at hp
 obtain ⟨h1,h2,h3,h4,h5⟩:=hp
 obtain ⟨h0,hn⟩:=hB_ok h1
 refine Wc.ev (d:=dNt b k0 m p c) h0 (d1_dst h2 rfl) (fun nk E0 F0 w0 n0 Z rest K ho hg h=>WPr.nxtT (X:=X.var nk E0 F0 w0 n0 Z) k0 hlt ho hg h3 h2 h4 h5 hn h) k
end
end Go.Kx
end
section
namespace Go.Kx
variable [LxP]
def tabR {α:Type} (R:TRep α) (n1 b p0:Nat) (vs:List Value) (xss:List (List α)) (h:Option Nat):AbsR where
 fp c:=c=b∨∃ (j:Nat) (v:Value),vs[j]? = some v∧h≠some j∧blockOf v=some c
 ok F w:=(∃ arr el fz,w.heap[b]? = some (.cells arr el fz)∧ThawAt fz arr.size∧∀ (j:Nat) (v:Value),vs[j]? = some v→arr[p0+j]? = some v)∧vs.length=xss.length∧n1≤b ∧
  (∀ (j:Nat) v xs,vs[j]? = some v→xss[j]? = some xs→h≠some j→OwnR R F w xs v) ∧
  (∀ (j:Nat) v c,vs[j]? = some v→h≠some j→blockOf v=some c→n1≤c∧c≠b) ∧
  (∀ (i j:Nat) u v c,vs[i]? = some u→vs[j]? = some v→i≠j→h≠some i→h≠some j→blockOf u=some c→blockOf v≠some c)∧∀ v∈vs,v.oneCell'=true
 mono:=fun g hb ⟨⟨arr,el,fz,h1,h2,h3⟩,h4,h5,h6,h7,h8,h9⟩=>⟨⟨arr,el,fz,by rw [hb b (.inl rfl)];exact h1,h2,h3⟩,h4,h5,
  fun j v xs a1 a2 a3=>(h6 j v xs a1 a2 a3).mono g fun c hc=>hb c (.inr ⟨j,v,a1,a3,hc⟩),h7,h8,h9⟩
section
variable {X:Ctx} {s:St} {ops:Array Oper} {todo:Act→World→Prop} {tt:List (Nat × TD)}
theorem Sat.reM {E:Env} {F:FSet} {w:World} {a:Act} (hs:Sat X s E F w a) {M':List (Nat × MO)} (h1:∀ k m,look M' k=some m→k < s.nx∧m.kb s.nx) (h2:∀ k m,look M' k=some m→m.ok E F w k)
  (h3:∀ k m,look M' k=some m→∀ b,m.fp E k b→∃ k0 m0,look s.M k0=some m0∧m0.fp E k0 b)
  (h4:∀ k k' m m',look M' k=some m→look M' k'=some m'→k≠k'→∀ b,m.fp E k b→¬ m'.fp E k' b) (h5:∀ k m,look M' k=some m→m.isFresh=true→∀ b,m.fp E k b→X.n0≤b) :
  Sat X ⟨s.L,M',s.V,s.nx⟩ E F w a:={ hs with
 wf:=⟨hs.wf.hL,h1,hs.wf.hV⟩
 hM:=h2
 dis:=h4
 mF:=fun k m hk b hb=>let ⟨k0,m0,hm,hf⟩:=h3 k m hk b hb;hs.mF k0 m0 hm b hf
 fresh:=h5 }
theorem Sat.addFn {E:Env} {F:FSet} {w:World} {a:Act} (hs:Sat X s E F w a) {k:Nat} {Φ:Value→Prop} (hk:k < s.nx) (h:Φ (E.ρ k)):Sat X ⟨s.L,s.M,(k,.fn Φ)::s.V,s.nx⟩ E F w a:={ hs with
 wf:=⟨hs.wf.hL,hs.wf.hM,fun j f hj=>by
  rw [look_cons] at hj
  split at hj
  ·rename_i e;cases hj;subst e;exact ⟨hk,trivial⟩
  ·exact hs.wf.hV j f hj⟩
 hV:=fun j f hj=>by
  rw [look_cons] at hj
  split at hj
  ·rename_i e;cases hj;subst e;exact h
  ·exact hs.hV j f hj }
theorem Sat.take {α:Type} {R:TRep α} {b p0 j k:Nat} {vs:List Value} {xss:List (List α)} {v:Value} {xs:List α} {E:Env} {F:FSet} {w:World} {a:Act} (hs:Sat X s E F w a) (hM:look s.M k=some (.abs (tabR R X.n0 b p0 vs xss none)))
  (hv:vs[j]? = some v) (hx:xss[j]? = some xs):∃ E',E'.ρ s.nx=v ∧
   Sat X ⟨s.L,(s.nx,.own R xs true)::(k,.abs (tabR R X.n0 b p0 vs xss (some j)))::s.M,(s.nx,.fn (fun u=>vs[j]? = some u))::s.V,s.nx+1⟩ E' F w a:=by
 have hok:(tabR R X.n0 b p0 vs xss none).ok F w:=hs.hM k _ hM
 obtain ⟨o1,o2,o3,o4,o5,o6,o7⟩:=hok
 have hown:=o4 j v xs hv hx (by simp)
 have hE:E.Eqb s.nx (E.setρ s.nx v):=E.eqb_setρ _ _ _ (Nat.le_refl _)
 have hρ:(E.setρ s.nx v).ρ s.nx=v:=by simp [Env.setρ]
 have hkn:=(hs.wf.hM k _ hM).1
 have s1:=(hs.env hE (fun i=>by
  simp only [Env.setρ];split
  ·exact o7 v (List.mem_of_getElem? hv)
  ·exact hs.one i)).nxt (n:=s.nx+1) (Nat.le_succ _)
 have hfpk:∀ c,(tabR R X.n0 b p0 vs xss (some j)).fp c→(tabR R X.n0 b p0 vs xss none).fp c:=fun c hc=>by
  rcases hc with hc | ⟨i,u,h1,h2,h3⟩
  ·exact .inl hc
  ·exact .inr ⟨i,u,h1,by simp,h3⟩
 have hfpo:∀ c,blockOf v=some c→(tabR R X.n0 b p0 vs xss none).fp c:=fun c hc=>.inr ⟨j,v,hv,by simp,hc⟩
 have hcase:∀ {i:Nat} {m:MO},look ((s.nx,MO.own R xs true)::(k,.abs (tabR R X.n0 b p0 vs xss (some j)))::s.M) i=some m →
   (s.nx=i∧m=.own R xs true)∨(k=i∧m=.abs (tabR R X.n0 b p0 vs xss (some j)))∨(i≠s.nx∧i≠k∧look s.M i=some m):=fun {i m} h=>by
  rw [look_cons] at h
  split at h
  ·rename_i e;cases h;exact .inl ⟨e,rfl⟩
  ·rename_i e1
   rw [look_cons] at h
   split at h
   ·rename_i e;cases h;exact .inr (.inl ⟨e,rfl⟩)
   ·rename_i e2;exact .inr (.inr ⟨fun e=>e1 e.symm,fun e=>e2 e.symm,h⟩)
 have s2:=s1.reM (M':=(s.nx,.own R xs true)::(k,.abs (tabR R X.n0 b p0 vs xss (some j)))::s.M) (fun i m h=>by
   rcases hcase h with ⟨rfl,rfl⟩ | ⟨rfl,rfl⟩ | ⟨_,_,h⟩
   ·exact ⟨Nat.lt_succ_self _,trivial⟩
   ·exact ⟨Nat.lt_succ_of_lt hkn,trivial⟩
   ·have:=hs.wf.hM i m h;exact ⟨Nat.lt_succ_of_lt this.1,this.2.mono (Nat.le_succ _)⟩) (fun i m h=>by
   rcases hcase h with ⟨rfl,rfl⟩ | ⟨rfl,rfl⟩ | ⟨_,_,h⟩
   ·show OwnR R F w xs ((E.setρ s.nx v).ρ s.nx);rw [hρ];exact hown
   ·exact ⟨o1,o2,o3,fun i u ys h1 h2 _=>o4 i u ys h1 h2 (by simp),fun i u c h1 _ h3=>o5 i u c h1 (by simp) h3,fun i i' u u' c h1 h2 h3 _ _ h6=>o6 i i' u u' c h1 h2 h3 (by simp) (by simp) h6,o7⟩
   ·exact s1.hM i m h) (fun i m h c hc=>by
   rcases hcase h with ⟨rfl,rfl⟩ | ⟨rfl,rfl⟩ | ⟨_,_,h⟩
   ·have hc:blockOf ((E.setρ s.nx v).ρ s.nx)=some c:=hc
    rw [hρ] at hc
    exact ⟨k,_,hM,hfpo c hc⟩
   ·exact ⟨_,_,hM,hfpk c hc⟩
   ·exact ⟨i,m,h,hc⟩) (fun i i' m m' h h' hne c hc hc'=>by
   have hb:∀ {c},(MO.own R xs true).fp (E.setρ s.nx v) s.nx c→blockOf v=some c:=fun {c} hc=>by
    have hc:blockOf ((E.setρ s.nx v).ρ s.nx)=some c:=hc
    rwa [hρ] at hc
   have hx:∀ {c},blockOf v=some c→(tabR R X.n0 b p0 vs xss (some j)).fp c→False:=fun {c} h1 h2=>by
    rcases h2 with h2 | ⟨i,u,g1,g2,g3⟩
    ·exact (o5 j v c hv (by simp) h1).2 h2
    ·exact o6 j i v u c hv g1 (fun e=>g2 (by rw [e])) (by simp) (by simp) h1 g3
   rcases hcase h with ⟨rfl,rfl⟩ | ⟨rfl,rfl⟩ | ⟨n1,n2,h⟩
   ·rcases hcase h' with ⟨rfl,rfl⟩ | ⟨rfl,rfl⟩ | ⟨n1',n2',h'⟩
    ·exact hne rfl
    ·exact hx (hb hc) hc'
    ·exact s1.dis k i' _ m' hM h' (fun e=>n2' e.symm) c (hfpo c (hb hc)) hc'
   ·rcases hcase h' with ⟨rfl,rfl⟩ | ⟨rfl,rfl⟩ | ⟨n1',n2',h'⟩
    ·exact hx (hb hc') hc
    ·exact hne rfl
    ·exact s1.dis k i' _ m' hM h' hne c (hfpk c hc) hc'
   ·rcases hcase h' with ⟨rfl,rfl⟩ | ⟨rfl,rfl⟩ | ⟨n1',n2',h'⟩
    ·exact s1.dis i k m _ h hM n2 c hc (hfpo c (hb hc'))
    ·exact s1.dis i k m _ h hM hne c hc (hfpk c hc')
    ·exact s1.dis i i' m m' h h' hne c hc hc') (fun i m h hf c hc=>by
   rcases hcase h with ⟨rfl,rfl⟩ | ⟨rfl,rfl⟩ | ⟨_,_,h⟩
   ·have hc:blockOf ((E.setρ s.nx v).ρ s.nx)=some c:=hc
    rw [hρ] at hc
    exact (o5 j v c hv (by simp) hc).1
   ·cases hf
   ·exact s1.fresh i m h hf c hc)
 exact ⟨_,hρ,s2.addFn (k:=s.nx) (Nat.lt_succ_self _) (by rw [hρ];exact hv)⟩
end
end Go.Kx
end
section
namespace Go.Kx
end Go.Kx
end
section
namespace Go.Kx
variable [LxP]
open Go.Proofs
section
variable {X:Ctx} {s:St} {E:Env} {F:FSet} {w:World} {a:Act} {ops:Array Oper} {todo:Act→World→Prop}
end
end Go.Kx
end
section
namespace Go.Kx
variable [LxP]
open Go.Proofs
section
variable {X:Ctx} {tt:List (Nat × TD)}
def sl6 (tt:List (Nat × TD)) (nt:Nat) (c:Cf):Bool:=Nat.blt (dstC c) nt && Nat.beq (tdO tt (tyO (opC c).op)).kd 6
def tailB (ops:Array Oper) (n:Nat):Bool:=Nat.beq ops.size (n+1) && match ops[n]? with
 | some o=>o.after.toList.all (fun d => !Region.binds .any d || Nat.blt d.on n) && (List.range n).all fun j=>o.after.toList.any fun d=>Region.binds .any d && Nat.beq d.on j
 | none=>false
def isT:Cf→Bool
 | .rg (some q) ops i _ _=>Nat.beq i q.2.2.length && tailB ops i
 | _=>false
end
end Go.Kx
end
section
namespace Go.Kx
variable [LxP]
section
variable {X:Ctx} {tt:List (Nat × TD)}
end
end Go.Kx
end
section
namespace Go.Kx
def tabG (P:Program) (g:Nat) (name:String) (k:IntKind) (zs:List Int):AbsR where
 fp _:=False
 ok F w:=F g∧P.globalNamed name=some g∧Lib.TabIs P w name k zs
 mono h _:=fun ⟨h1,h2,h3⟩=>⟨h.sub g h1,h2,by
  unfold Lib.TabIs World.var? at h3 ⊢
  rw [h2] at h3 ⊢
  simp only [Option.bind_some] at h3 ⊢
  rw [h.same g h1]
  exact h3⟩
end Go.Kx
end
section
namespace Go.Kx
variable [LxP]
section
variable {X:Ctx} {s:St} {ops:Array Oper} {todo:Act→World→Prop} {tt:List (Nat × TD)}
theorem WPr.cvi {i:Nat} {rest:List Nat} {o:Oper} {t u d:Nat} {x:Operand} {k k2:IntKind} {n:Int}
  (ho:ops[i]? = some o) (hg:guardV ops s.L o=some true) (hop:o.op=.convert t u x) (hd:o.dst=some d)
  (ht:X.P.underlying t=some (.int k2)) (hu:X.P.underlying u=some .string)
  (hx:evalO s.L x=some (.c (.i k n))) (hn:Nat.blt d X.fn.ntmps=true)
  (kk:WPr X ops rest todo ⟨(d,.c (.s (Utf8.encode n)))::s.L,s.M,s.V,s.nx⟩):WPr X ops (i::rest) todo s:=by
 refine WPr.op ho hg (fun E F w a hs=>?_) kk
 obtain ⟨e1,_⟩:=hs.eval hx
 have hrun:(execOp a.eval o).run X.P w=.ok (.value (.string (Utf8.encode n))) w:=by
  simp only [execOp,hop,e1,denV,den]
  refine exec_v ?_
  simp [convert,run_underlying' ht,run_underlying' hu,Conv.intToString]
 refine wp_value hrun ⟨E,F,?_⟩
 rw [hd]
 exact hs.setL (v:=.c (.s (Utf8.encode n))) trivial (blt_lt hn)
end
section
variable {X:Ctx} {tt:List (Nat × TD)}
def ikV2:Option TypeDesc→IntKind
 | some (.int k)=>k
 | _=>.i64
def dCr (c:Cf):Dl:=d1 c (.c (.s (Utf8.encode (intV (argV c 0)))))
def nCr (c:Cf):Cf:=goC (dCr c) c
theorem eCr {c:Cf} (k:Wc X (nCr c))
  (hp:(hB X.fn.ntmps c,(opC c).dst,(opC c).op,X.P.underlying (tyO (opC c).op),X.P.underlying (tyO2 (opC c).op),argV c 0)=(true,some (dstC c),.convert (tyO (opC c).op) (tyO2 (opC c).op) (argO (opC c).op 0),some (.int (ikV2 (X.P.underlying (tyO (opC c).op)))),some .string,some (.c (.i (ikV (argV c 0)) (intV (argV c 0))))):=by kernel_rfl):Wc X c:=by
 simp only [Prod.mk.injEq] at hp
 obtain ⟨h1,h2,h3,h4,h5,h6⟩:=hp
 obtain ⟨h0,hn⟩:=hB_ok h1
 refine Wc.ev (d:=dCr c) h0 (d1_dst h2 rfl) (fun nk E0 F0 w0 n0 Z rest K ho hg h=>WPr.cvi (X:=X.var nk E0 F0 w0 n0 Z) ho hg h3 h2 h4 h5 h6 hn h) k
end
end Go.Kx
namespace Go.Kx
variable [LxP]
theorem law_callsT {P:Program} {f:FuncId} {c:Ct} {k:Nat} {A:AbsR} (h:Fn P f c) (hM0:c.M0=[(k,.abs A)]) (hres:c.res=.c (.b true)) (hfp:∀ b,¬ A.fp b) {E:Env} {w:World} (hA:A.ok (Old w) w) (hone:∀ k,(E.ρ k).oneCell'=true) (hV:∀ k x,look c.V0 k=some x→x.ok E (Old w) w (E.ρ k)) :
  Calls P f (c.args.map (denV E)).toArray w fun e w'=>e=.returned (.bool true)∧Ext (Old w) w w':=by
 have hn:∀ j m,look c.M0 j=some m→m=.abs A:=fun j m h=>by
  rw [hM0,look_cons] at h
  split at h
  ·cases h;rfl
  ·cases h
 have hp:c.Pre E (Old w) w:=⟨hone,fun _ h=>h,hV,fun j m h=>by rw [hn j m h];exact hA,fun j k' m m' h _ _ b hb=>by rw [hn j m h] at hb;exact absurd hb (hfp b),fun j m h b hb=>by rw [hn j m h] at hb;exact absurd hb (hfp b)⟩
 refine (h.calls E (Old w) w hp).mono fun e w' ⟨E',F',he,hq⟩=>?_
 refine ⟨by rw [he,hres];rfl,hq.ext.mono fun b hb=>⟨hb,?_⟩⟩
 rintro ⟨j,m,hj,hb⟩
 rw [hn j m hj] at hb
 exact hfp b hb
end Go.Kx
namespace Go.Kx
theorem laid_at {P:Program} {w:World} {name:String} {d:DataW Unit}:∀ (l:List (String × DataW Unit)) (ps:List MemPlace),DataW.LaidVars P w l ps→(name,d)∈l →
    ∃ g t cs fuel p,P.globalNamed name=some g∧(P.globals[g]?).map (·.type)=some t∧w.var? P name=some cs∧DataW.trod (fun _=>()) P w 0 (fun _=>true) false fuel t cs.toList=some (d,p)
  | [],_,_,h=>by cases h
  | (n,e)::r,ps,⟨g,t,cs,fuel,p,q,h1,h2,h3,h4,h5,_⟩,h=>by
    rcases List.mem_cons.1 h with e0 | h
    · cases e0
      exact ⟨g,t,cs,fuel,p,h1,h2,h3,h4⟩
    · exact laid_at r q h5 h
theorem tab_laid {P:Program} {W:World} {name:String} {k:IntKind} {zs:List Int} {l:List (String × DataW Unit)} {i:Nat} {g:Nat} {t e:TypeId} {n:Nat} (hl:laidMetH P l W) (hh:(l.filter fun x=>x.2.handleName?.isSome).isEmpty=true)
    (hi:l[i]? = some (name,Lib.tabData k zs)) (hg:P.globalNamed name=some g) (hty:(P.globals[g]?).map (·.type)=some t) (ht:P.underlying t=some (.array n e)) (he:P.underlying e=some (.int k)) (hce:P.cellsOf e=1) (hct:P.cellsOf t=n) :
    (tabG P g name k zs).ok (Old W) W:=by
  have hm:laidMet P l W:=by
    unfold laidMetH at hl
    split at hl
    · exact hl
    · rename_i h;rw [h] at hh;cases hh
  obtain ⟨ps,hv,_⟩:=hm
  obtain ⟨g',t',cs,fuel,p,hg',ht',hvar,hd⟩:=laid_at l ps hv (List.mem_of_getElem? hi)
  obtain rfl:=Option.some.inj (hg.symm.trans hg')
  obtain rfl:=Option.some.inj (hty.symm.trans ht')
  have hT:Lib.TabIs P W name k zs:=by
    unfold Lib.TabIs
    rw [hvar,← Lib.cells_of_tab ht he hce hct hd]
  refine ⟨?_,hg,hT⟩
  show g < W.heap.size
  unfold World.var? at hvar
  rw [hg] at hvar
  simp only [Option.bind_some] at hvar
  split at hvar
  · rename_i h;exact (Array.getElem?_eq_some_iff.1 h).1
  · cases hvar
end Go.Kx
end
section
namespace Go.Kx
variable [LxP]
def apB (s m:ByteArray):Option ByteArray:=bif Nat.ble (s.size+m.size) lim then some (s++m) else none
theorem apB_ok {s m z:ByteArray} (h:apB s m=some z):z=s++m∧s.size+m.size≤lim:=by
 unfold apB at h
 cases hb:Nat.ble (s.size+m.size) lim with
 | false=>rw [hb] at h;cases h
 | true=>rw [hb] at h;cases h;exact ⟨rfl,Nat.le_of_ble_eq_true hb⟩
theorem bytesL_app (s m:ByteArray):bytesL (s++m)=bytesL s++bytesL m:=by
 unfold bytesL
 rw [ByteArray.data_append,Array.toList_append,List.map_append]
def QB (ty:TypeId) (off:Nat) (el:TypeId):Prop:=off=0∧el=ty
theorem BufR.q {ty:TypeId} {F:FSet} {w:World} {s:ByteArray} {v:Value} (h:BufR ty w s v):OwnQ (QB ty) (rI .u8) F w (bytesL s) v:=by
 rcases h with ⟨h,rfl⟩ | ⟨b,cap,arr,fz,hv,h1,h2,h3,h4,h5⟩
 ·refine .inl ⟨List.eq_nil_of_length_eq_zero (by rw [bytesL_len];exact h),rfl⟩
 ·refine .inr ⟨b,0,cap,arr,ty,fz,⟨rfl,rfl⟩,by rw [bytesL_len];exact hv,by rw [bytesL_len];exact h1,?_,h3,h4,fun i x hx=>?_⟩
  ·show 0+cap * 1≤_;omega
  ·refine ⟨[.int .u8 x],rfl,fun j v hj=>?_⟩
   cases j with
   | succ j=>simp at hj
   | zero =>
    simp only [List.getElem?_cons_zero,Option.some.injEq] at hj
    subst hj
    unfold bytesL at hx
    rw [List.getElem?_map,Option.map_eq_some_iff] at hx
    obtain ⟨u,hu,rfl⟩:=hx
    have:=h5 i u hu
    show arr[0+i * 1+0]? = _
    rw [Nat.zero_add,Nat.mul_one,Nat.add_zero]
    exact this
theorem BufR.of {ty:TypeId} {F:FSet} {w:World} {s:ByteArray} {v:Value} (h:OwnQ (QB ty) (rI .u8) F w (bytesL s) v):BufR ty w s v:=by
 rcases h with ⟨h,rfl⟩ | ⟨b,off,cap,arr,el,fz,⟨rfl,rfl⟩,hv,h1,h2,h3,h4,h5⟩
 ·exact .inl ⟨by rw [← bytesL_len,h];rfl,rfl⟩
 ·rw [bytesL_len] at hv h1
  refine .inr ⟨b,cap,arr,fz,hv,h1,?_,h3,h4,fun i u hu=>?_⟩
  ·have h2:0+cap * 1≤arr.size:=h2
   omega
  ·obtain ⟨vs,hr,hc⟩:=h5 i (u.toNat:Int) (by unfold bytesL;rw [List.getElem?_map,hu];rfl)
   have hr:vs=[.int .u8 (u.toNat:Int)]:=hr
   subst hr
   have:=hc 0 _ rfl
   have e:0+i * (rI .u8).sz+0=i:=by show 0+i * 1+0=i;omega
   rw [e] at this
   exact this
section
variable {X:Ctx} {s:St} {ops:Array Oper} {todo:Act→World→Prop} {tt:List (Nat × TD)}
theorem Sat.newBuf {E:Env} {F:FSet} {w:World} {a:Act} {sb:ByteArray} {ty:TypeId} {v:Value} (hs:Sat X s E F w a) (ho:BufR ty w sb v)
  (hfp:∀ b,blockOf v=some b→¬ F b∧¬ X.Z b∧b < w.heap.size∧∀ k m',look s.M k=some m'→¬ m'.fp E k b) :
  ∃ E',E'.ρ s.nx=v∧Sat X ⟨s.L,(s.nx,.buf sb ty)::s.M,s.V,s.nx+1⟩ E' F w a:=by
 have hE:E.Eqb s.nx (E.setρ s.nx v):=E.eqb_setρ _ _ _ (Nat.le_refl _)
 have hv:(E.setρ s.nx v).ρ s.nx=v:=by simp [Env.setρ]
 have h1:=hs.env hE (fun j=>by
  simp only [Env.setρ];split
  ·rcases ho with ⟨_,rfl⟩ | ⟨_,_,_,_,rfl,_⟩<;>rfl
  ·exact hs.one j)
 refine ⟨_,hv,h1.addM' ?_ trivial ?_ (fun h=>by cases h)⟩
 ·show BufR ty w sb ((E.setρ s.nx v).ρ s.nx)
  rw [hv];exact ho
 ·intro b hb
  have hb:blockOf ((E.setρ s.nx v).ρ s.nx)=some b:=hb
  rw [hv] at hb
  obtain ⟨g1,g2,g3,g4⟩:=hfp b hb
  exact ⟨g1,g2,g3,fun k m' hm hf=>g4 k m' hm ((MO.fp_eqb hE (hs.wf.hM k m' hm).1).1 hf)⟩
theorem WPr.apb (htt:TTOk X.P tt) {i:Nat} {rest:List Nat} {o:Oper} {t t2:TypeId} {td td2:TD} {x y:Operand} {d k ty:Nat} {src:SC} {sb z:ByteArray} {ys:List Int}
  (hz:bytesL z=bytesL sb++ys∧sb.size+ys.length≤lim) (hsrc:SrcOk X s (rI .u8) ys src) (ho:ops[i]? = some o) (hg:guardV ops s.L o=some true) (hop:o.op=.call { callee:=.builtin .append,args:=#[x,y],argTypes:=#[t,t2] }) (hd:o.dst=some d)
  (hx:evalO s.L x=some (.c (.sl k))) (hm:look s.M k=some (.buf sb ty)) (hy:evalO s.L y=some (.c src)) (ht:look tt t=some td) (ht2:look tt t2=some td2)
  (hc:(Nat.blt d X.fn.ntmps && Nat.beq td.kd 6 && (Nat.beq td2.kd 6 || Nat.beq td2.kd 2) && Nat.beq td.es 1 && Nat.ble td.eb 32768 && Nat.beq td.el ty)=true)
  (kk:WPr X ops rest todo ⟨(d,.c (.sl s.nx))::s.L,(s.nx,.buf z ty)::(k,.gone)::s.M,s.V,s.nx+1⟩):WPr X ops (i::rest) todo s:=by
 refine WPr.op ho hg (fun E F w a hs=>?_) kk
 simp only [Bool.and_eq_true] at hc
 obtain ⟨⟨⟨⟨⟨c1,c2⟩,c2'⟩,c3⟩,c4⟩,c5⟩:=hc
 have c5:=Nat.eq_of_beq_eq_true c5
 obtain ⟨e1,_⟩:=hs.eval hx
 obtain ⟨e2,_⟩:=hs.eval hy
 have ho:BufR ty w sb (E.ρ k):=hs.hM k _ hm
 have hmf:∀ b,blockOf (E.ρ k)=some b→_:=hs.mF k _ hm
 have hu2:=kd62 (htt.get ht2) c2'
 obtain ⟨v',w',hrun,how,g1,g2,g3,g4,g5,g6⟩:=run_append_ownq (QB ty) (ty:=o.type) ⟨rfl,c5⟩ hu2 (htt.get ht) c2 (R:=rI .u8) (Nat.eq_of_beq_eq_true c3) (ho.q (F:=F)) (hsrc E F w a hs) (fun b hb=>(hmf b hb).1) hs.hF (fun b hb=>(hmf b hb).2.2) (by rw [bytesL_len];exact hz.2) (Nat.le_of_ble_eq_true c4)
 rw [← hz.1] at how
 refine wp_value (v:=v') (w':=w') (exec_call_builtin hop ?_) ?_
 ·simp only [List.map_toArray,List.map_cons,List.map_nil,e1,e2,denV,den]
  exact exec_v hrun
 ·have s1:=hs.setM (m':=.gone) hm g1 g2 g3 g4 (fun b hb hne=>g5 b hb (fun e=>hne e)) (fun _ h=>h.elim) trivial trivial (fun h=>by cases h)
  obtain ⟨E',hv,s2⟩:=s1.newBuf (BufR.of how) (fun b hb=>by
    obtain ⟨h1,h2⟩:=g6 b hb
    rcases h1 with h1 | h1
    ·have:=hmf b h1
     refine ⟨this.1,this.2.1,h2,fun j m' hj hf=>?_⟩
     simp only [look_cons] at hj
     split at hj
     ·cases hj;exact hf.elim
     ·rename_i hne;exact hs.dis k j _ m' hm hj hne b h1 hf
    ·refine ⟨fun hF=>absurd (hs.hF b hF) (Nat.not_lt.2 h1),fun hz=>absurd (Nat.lt_of_lt_of_le (hs.hZ b hz) hs.ext.size) (Nat.not_lt.2 h1),h2,fun j m' hj hf=>?_⟩
     simp only [look_cons] at hj
     split at hj
     ·cases hj;exact hf.elim
     ·exact absurd (hs.mF j m' hj b hf).2.2 (Nat.not_lt.2 h1))
  have s3:=s2.setL (d:=d) (v:=.c (.sl s.nx)) (Nat.lt_succ_self _) (blt_lt c1)
  simp only [denV,den] at s3
  rw [show E'.ρ s.nx=v' from hv] at s3
  rw [hd]
  exact ⟨E',F,s3⟩
theorem WPr.usd {i:Nat} {rest:List Nat} {o:Oper} {x:Operand} {ts:Array TypeId} {d k ty:Nat} {sb:ByteArray}
  (ho:ops[i]? = some o) (hg:guardV ops s.L o=some true) (hop:o.op=.call { callee:=.builtin .unsafeSliceData,args:=#[x],argTypes:=ts }) (hd:o.dst=some d)
  (hx:evalO s.L x=some (.c (.sl k))) (hm:look s.M k=some (.buf sb ty)) (hne:(Nat.beq sb.size 0)=false) (hn:Nat.blt d X.fn.ntmps=true)
  (kk:WPr X ops rest todo ⟨(d,.c (.px k 0))::s.L,s.M,s.V,s.nx⟩):WPr X ops (i::rest) todo s:=by
 refine WPr.val (v:=.c (.px k 0)) (fun E F w a hs=>⟨?_,(hs.wf.hM k _ hm).1⟩) ho hg hd hn kk
 obtain ⟨e1,_⟩:=hs.eval hx
 have hb:BufR ty w sb (E.ρ k):=hs.hM k _ hm
 rcases hb with ⟨h,_⟩ | ⟨b,cap,arr,fz,hv,h1,h2,h3,h4,h5⟩
 ·rw [h] at hne;cases hne
 ·refine exec_call_builtin hop ?_
  simp only [List.map_toArray,List.map_cons,List.map_nil,e1,denV,den,hv]
  have hcap:cap≠0:=by
   intro h;rw [h] at h1
   have:sb.size=0:=by omega
   rw [this] at hne;cases hne
  exact exec_v ((Go.Lib.run_unsafeSliceData_row _ _ _ _ _ _ hcap).trans (by simp [addP]))
theorem WPr.bln (htt:TTOk X.P tt) {i:Nat} {rest:List Nat} {o:Oper} {t:TypeId} {td:TD} {x:Operand} {d k ty:Nat} {sb:ByteArray}
  (ho:ops[i]? = some o) (hg:guardV ops s.L o=some true) (hop:o.op=.call { callee:=.builtin .len,args:=#[x],argTypes:=#[t] }) (hd:o.dst=some d)
  (hx:evalO s.L x=some (.c (.sl k))) (hm:look s.M k=some (.buf sb ty)) (ht:look tt t=some td) (hc:(Nat.blt d X.fn.ntmps && Nat.beq td.kd 6)=true)
  (kk:WPr X ops rest todo ⟨(d,.c (.i .i64 sb.size))::s.L,s.M,s.V,s.nx⟩):WPr X ops (i::rest) todo s:=by
 simp only [Bool.and_eq_true] at hc
 refine WPr.val (v:=.c (.i .i64 sb.size)) (fun E F w a hs=>⟨?_,trivial⟩) ho hg hd hc.1 kk
 obtain ⟨el,hu,hz⟩:=(htt.get ht).sliceOf hc.2
 obtain ⟨e1,_⟩:=hs.eval hx
 have hb:BufR ty w sb (E.ρ k):=hs.hM k _ hm
 refine exec_call_builtin hop ?_
 simp only [List.map_toArray,List.map_cons,List.map_nil,e1,denV,den]
 rcases hb with ⟨h,hv⟩ | ⟨b,cap,arr,fz,hv,_⟩
 ·rw [hv,h];exact exec_v (by simp [Builtin.len_,run_underlying' hu,Builtin.lenOf,goInt])
 ·rw [hv];exact exec_v (by simp [Builtin.len_,run_underlying' hu,Builtin.lenOf,goInt])
theorem freeze_heap {w:World} {b n:Nat} {arr:Array Value} {ty:TypeId} {fz:Nat × Nat} (a:Addr):(w.freeze a n).os=w.os∧(w.freeze a n).tape=w.tape∧(w.freeze a n).output=w.output∧(w.freeze a n).drawn=w.drawn∧(w.freeze a n).heap.size=w.heap.size∧∀ c,c≠a.block→(w.freeze a n).heap[c]? = w.heap[c]? := by
 unfold World.freeze
 split
 ·exact ⟨rfl,rfl,rfl,rfl,rfl,fun _ _=>rfl⟩
 ·refine ⟨rfl,rfl,rfl,rfl,by simp,fun c hc=>?_⟩
  simp only [Array.getElem?_modify]
  rw [if_neg (Ne.symm hc)]
theorem WPr.ust {i:Nat} {rest:List Nat} {o:Oper} {x y:Operand} {pt it:TypeId} {d k ty:Nat} {sb:ByteArray} {n:Int}
  (ho:ops[i]? = some o) (hg:guardV ops s.L o=some true) (hop:o.op=.call { callee:=.builtin .unsafeString,args:=#[x,y],argTypes:=#[pt,it] }) (hd:o.dst=some d)
  (hx:evalO s.L x=some (.c (.px k 0))) (hy:evalO s.L y=some (.c (.i .i64 n))) (hn0:n=(sb.size:Int)) (hm:look s.M k=some (.buf sb ty)) (hne:(Nat.beq sb.size 0 || !(Nat.ble sb.size lim))=false)
  (hpt:X.P.underlying pt=some (.pointer ty)) (hcc:X.P.cellsOf ty=1) (hn:Nat.blt d X.fn.ntmps=true)
  (kk:WPr X ops rest todo ⟨(d,.c (.s sb))::s.L,(k,.gone)::s.M,s.V,s.nx⟩):WPr X ops (i::rest) todo s:=by
 refine WPr.op ho hg (fun E F w a hs=>?_) kk
 obtain ⟨e1,_⟩:=hs.eval hx
 obtain ⟨e2,_⟩:=hs.eval hy
 rw [Bool.or_eq_false_iff,Bool.not_eq_false'] at hne
 obtain ⟨hne,hlim⟩:=hne
 have hlim:=Nat.le_of_ble_eq_true hlim
 have hb:BufR ty w sb (E.ρ k):=hs.hM k _ hm
 rcases hb with ⟨h,_⟩ | ⟨b,cap,arr,fz,hv,h1,h2,h3,h4,h5⟩
 ·rw [h] at hne;cases hne
 have hsz:sb.data.toList.length=sb.size:=by rw [Array.length_toList];rfl
 have hrun:=Lib.run_unsafeString_row (P:=X.P) w pt it o.type ty hpt hcc b arr.size (by simp [World.shape?,h4]) sb.data.toList (fun h=>by rw [← hsz,h] at hne;cases hne) (by rw [hsz];omega) (by rw [hsz];unfold lim at hlim;omega) (fun j x hj=>by
  rw [addr_add,cell_at h4,Nat.zero_add];exact h5 j x hj)
 have e3:(⟨sb.data.toList.toArray⟩:ByteArray)=sb:=by rw [Array.toArray_toList]
 rw [hsz,e3] at hrun
 obtain ⟨f1,f2,f3,f4,f5,f6⟩:=freeze_heap (w:=w) (b:=b) (n:=sb.size) (arr:=arr) (ty:=ty) (fz:=fz) ⟨b,0,none⟩
 refine wp_value (v:=.string sb) (w':=w.freeze ⟨b,0,none⟩ sb.size) (exec_call_builtin hop ?_) ?_
 ·simp only [List.map_toArray,List.map_cons,List.map_nil,e1,e2,denV,den,hv,addP,Nat.add_zero,hn0]
  exact exec_v hrun
 ·have s1:=hs.setM (m':=.gone) (w':=w.freeze ⟨b,0,none⟩ sb.size) hm f1 f2 (.m f3 (by rw [f4];exact Nat.le_refl _)) (by rw [f5];exact Nat.le_refl _) (fun c hc hne'=>f6 c (fun e=>hne' (by show blockOf (E.ρ k)=some c;rw [hv,e];rfl))) (fun _ h=>h.elim) trivial trivial (fun h=>by cases h)
  have s3:=s1.setL (d:=d) (v:=.c (.s sb)) trivial (blt_lt hn)
  rw [hd]
  exact ⟨E,F,s3⟩
theorem WPr.axa (j:Nat) {i:Nat} {rest:List Nat} {o:Oper} {t el len es d:Nat} {x y:Operand} {ik:IntKind} {n:Int} {cs:List SC}
    (hj:n=(j:Int)) (ho:ops[i]? = some o) (hg:guardV ops s.L o=some true) (hop:o.op=.index t x y) (hd:o.dst=some d) (hu:X.P.underlying t=some (.array len el))
    (he:(X.P.info? el).map (·.size)=some es) (ha:aggOf X.P el=true) (hel:(X.P.underlying el).isSome=true) (hlt:Nat.blt j len=true)
    (hx:evalO s.L x=some (.a cs)) (hl:Nat.ble (j * es+es) cs.length=true) (hy:evalO s.L y=some (.c (.i ik n))) (hn:Nat.blt d X.fn.ntmps=true)
    (kk:WPr X ops rest todo ⟨(d,.a ((cs.drop (j * es)).take es))::s.L,s.M,s.V,s.nx⟩):WPr X ops (i::rest) todo s:=by
  refine WPr.val (v:=.a ((cs.drop (j * es)).take es)) (fun E F w a hs=>?_) ho hg hd hn kk
  obtain ⟨e1,k1⟩:=hs.eval hx
  obtain ⟨e2,_⟩:=hs.eval hy
  obtain ⟨ds,hds⟩:=Option.isSome_iff_exists.1 hel
  refine ⟨?_,fun y hy=>k1 y (List.mem_of_mem_drop (List.mem_of_mem_take hy))⟩
  simp only [execOp,hop,e1,e2,denV,den]
  refine exec_v ?_
  have hia:=run_isAgg' w hds
  rw [ha] at hia
  have hz:(sizeOf el).run X.P w=.ok es w:=by
    rw [Option.map_eq_some_iff] at he
    obtain ⟨inf,h3,h4⟩:=he
    simp [sizeOf,typeInfo,h3,h4]
  have hlt:=blt_lt hlt
  have hl:=Nat.le_of_ble_eq_true hl
  subst hj
  have hc:(0≤(j:Int)∧(j:Int) < (len:Int)):=⟨by omega,by omega⟩
  simp only [Instr.index,asIntOf,Sem.run_bind,Sem.run_pure,Result.andThen_ok,run_underlying' hu,hc,and_self,if_true,hz,part,hia,Int.toNat_natCast]
  congr 2
  apply Array.ext'
  rw [Array.toList_extract]
  simp only [List.extract,List.map_take,List.map_drop]
  congr 1
  omega
theorem WPr.pps {i:Nat} {rest:List Nat} {o:Oper} {t el yt d k off:Nat} {x y:Operand}
  (ho:ops[i]? = some o) (hg:guardV ops s.L o=some true) (hop:o.op=.binOp .neq t x y yt) (hd:o.dst=some d) (hu:X.P.underlying t=some (.pointer el)) (hi:(X.P.info? el).isSome=true)
  (hx:evalO s.L x=some (.c (.bp k off))) (hy:evalO s.L y=some (.c (.bp k off))) (hn:Nat.blt d X.fn.ntmps=true)
  (kk:WPr X ops rest todo ⟨(d,.c (.b false))::s.L,s.M,s.V,s.nx⟩):WPr X ops (i::rest) todo s:=by
 refine WPr.val (v:=.c (.b false)) (fun E F w a hs=>?_) ho hg hd hn kk
 obtain ⟨e1,_⟩:=hs.eval hx
 obtain ⟨e2,_⟩:=hs.eval hy
 obtain ⟨j,hj⟩:=Option.isSome_iff_exists.1 hi
 refine ⟨?_,trivial⟩
 simp only [execOp,hop,e1,e2,denV,den]
 refine exec_v ?_
 have:=Lib.run_neq_ptr_same (P:=X.P) w ⟨E.β k,off,none⟩ hu hj
 simp only [eqGuard,Sem.run_bind,Sem.run_pure,Result.andThen_ok]
 exact this
theorem WPr.pnn {i:Nat} {rest:List Nat} {o:Oper} {t el yt d:Nat} {x y:Operand}
  (ho:ops[i]? = some o) (hg:guardV ops s.L o=some true) (hop:o.op=.binOp .eql t x y yt) (hd:o.dst=some d) (hu:X.P.underlying t=some (.pointer el))
  (hx:evalO s.L x=some (.c (.v (.pointer none)))) (hy:evalO s.L y=some (.c (.v (.pointer none)))) (hn:Nat.blt d X.fn.ntmps=true)
  (kk:WPr X ops rest todo ⟨(d,.c (.b true))::s.L,s.M,s.V,s.nx⟩):WPr X ops (i::rest) todo s:=by
 refine WPr.val (v:=.c (.b true)) (fun E F w a hs=>?_) ho hg hd hn kk
 obtain ⟨e1,_⟩:=hs.eval hx
 obtain ⟨e2,_⟩:=hs.eval hy
 refine ⟨?_,trivial⟩
 simp only [execOp,hop,e1,e2,denV,den]
 refine exec_v ?_
 have heq:(Op.equal t (.pointer none) (.pointer none)).run X.P w=.ok true w:=by
  show (Op.equalIn (9999+1) t _ _).run X.P w=.ok true w
  generalize 9999=q
  simp only [Op.equalIn,Sem.run_bind,run_underlying' hu,Result.andThen_ok,Sem.run_pure,Option.isNone_none]
 simp only [eqGuard,Sem.run_bind,Sem.run_pure,Result.andThen_ok]
 show (do pure (Value.bool (← Op.equal t _ _)):Sem Value).run X.P w=_
 simp only [Sem.run_bind,heq,Result.andThen_ok,Sem.run_pure]
theorem shape_box {E:Env} {F:FSet} {w:World} {a:Act} (hs:Sat X s E F w a) {k ty:Nat} {cs:List SC} (hM:look s.M k=some (.box cs ty)):w.shape? (E.β k)=some (ty,cs.length):=by
 have:w.heap[E.β k]? = some (.cells (cs.map (den E)).toArray ty (0,0)):=hs.hM k _ hM
 unfold World.shape?
 rw [this];simp
theorem WPr.cvu {i:Nat} {rest:List Nat} {o:Oper} {src dst t d k off ty:Nat} {x:Operand} {cs:List SC}
  (ho:ops[i]? = some o) (hg:guardV ops s.L o=some true) (hop:o.op=.convert src dst x) (hd:o.dst=some d) (hs0:X.P.underlying src=some (.pointer t)) (hd0:X.P.underlying dst=some .unsafePointer)
  (hi:(X.P.info? t).map (fun j=>Nat.beq j.size 0)=some false) (hx:evalO s.L x=some (.c (.bp k off))) (hM:look s.M k=some (.box cs ty)) (hoff:Nat.blt off cs.length=true) (hn:Nat.blt d X.fn.ntmps=true)
  (kk:WPr X ops rest todo ⟨(d,.c (.bp k off))::s.L,s.M,s.V,s.nx⟩):WPr X ops (i::rest) todo s:=by
 refine WPr.val (v:=.c (.bp k off)) (fun E F w a hs=>?_) ho hg hd hn kk
 obtain ⟨e1,k1⟩:=hs.eval hx
 refine ⟨?_,k1⟩
 rw [Option.map_eq_some_iff] at hi
 obtain ⟨j,hj,hj2⟩:=hi
 simp only [execOp,hop,e1,denV,den]
 refine exec_v ?_
 exact Lib.run_to_unsafe (P:=X.P) w ⟨E.β k,off,none⟩ hs0 hd0 hj (fun h=>by rw [h] at hj2;cases hj2) (shape_box hs hM) (blt_lt hoff)
theorem WPr.cvp {i:Nat} {rest:List Nat} {o:Oper} {src dst t d k off ty:Nat} {x:Operand} {cs:List SC}
  (ho:ops[i]? = some o) (hg:guardV ops s.L o=some true) (hop:o.op=.convert src dst x) (hd:o.dst=some d) (hs0:X.P.underlying src=some .unsafePointer) (hd0:X.P.underlying dst=some (.pointer t))
  (hi:(X.P.info? t).isSome=true) (hx:evalO s.L x=some (.c (.bp k off))) (hM:look s.M k=some (.box cs ty)) (hl:liesAt X.P X.P.depth ty (cs.length / X.P.cellsOf ty) off t 1=true) (hn:Nat.blt d X.fn.ntmps=true)
  (kk:WPr X ops rest todo ⟨(d,.c (.bp k off))::s.L,s.M,s.V,s.nx⟩):WPr X ops (i::rest) todo s:=by
 refine WPr.val (v:=.c (.bp k off)) (fun E F w a hs=>?_) ho hg hd hn kk
 obtain ⟨e1,k1⟩:=hs.eval hx
 refine ⟨?_,k1⟩
 obtain ⟨j,hj⟩:=Option.isSome_iff_exists.1 hi
 simp only [execOp,hop,e1,denV,den]
 refine exec_v ?_
 exact Lib.run_from_unsafe (P:=X.P) w ⟨E.β k,off,none⟩ hs0 hd0 hj (shape_box hs hM) hl
theorem WPr.nes {i:Nat} {rest:List Nat} {o:Oper} {f:FuncId} {fn:Func} {x:Operand} {ts:Array TypeId} {d k off:Nat}
  (hf:X.P.funcs[f]? = some fn) (hname:(fn.name == "runtime.NumGoroutine")=false) (hb:fn.body.isNone=true) (hnx:Extern.findNext fn=none) (he:Extern.find fn=some Extern.AbiNoEscape.same)
  (ho:ops[i]? = some o) (hg:guardV ops s.L o=some true) (hop:o.op=.call { callee:=.value (.func f),args:=#[x],argTypes:=ts }) (hd:o.dst=some d) (hx:evalO s.L x=some (.c (.bp k off))) (hn:Nat.blt d X.fn.ntmps=true)
  (kk:WPr X ops rest todo ⟨(d,.c (.bp k off))::s.L,s.M,s.V,s.nx⟩):WPr X ops (i::rest) todo s:=by
 refine WPr.val (v:=.c (.bp k off)) (fun E F w a hs=>?_) ho hg hd hn kk
 obtain ⟨e1,k1⟩:=hs.eval hx
 refine ⟨?_,k1⟩
 unfold execOp
 simp only [hop,resolve,Deferred.ofValue,Act.eval,invoke,Sem.run_bind,Sem.run_pure,Result.andThen_ok]
 have:(callFunc f #[den E (.bp k off)]).run X.P w=.ok (.value (den E (.bp k off))) w:=by
  rw [run_callFunc_extern hf hname hb hnx he,Lib.run_noEscape];rfl
 have e4:#[x].map a.eval=#[den E (.bp k off)]:=by simp [e1,denV]
 rw [show (#[]:Array Value)++Array.map a.eval #[x]++#[]=#[den E (.bp k off)] by rw [e4];simp]
 exact this
end
section
variable {X:Ctx} {tt:List (Nat × TD)}
def tdC (tt:List (Nat × TD)) (j:Nat) (c:Cf):TD:=tdO tt (match j with | 0=>tyO (opC c).op | _=>tyO2 (opC c).op)
def kd62B (tt:List (Nat × TD)) (c:Cf):Bool:=Nat.beq (tdC tt 0 c).kd 6 && (Nat.beq (tdC tt 1 c).kd 6 || Nat.beq (tdC tt 1 c).kd 2) && Nat.beq (tdC tt 0 c).es 1 && Nat.ble (tdC tt 0 c).eb 32768
theorem kd62B_ok {nt d:Nat} {c:Cf} (h:kd62B tt c=true) (hn:Nat.blt d nt=true):(Nat.blt d nt && Nat.beq (tdC tt 0 c).kd 6 && (Nat.beq (tdC tt 1 c).kd 6 || Nat.beq (tdC tt 1 c).kd 2) && Nat.beq (tdC tt 0 c).es 1 && Nat.ble (tdC tt 0 c).eb 32768)=true:=by
 unfold kd62B at h
 rw [hn]
 simpa using h
def dBa (z:ByteArray) (ty:TypeId) (c:Cf):Dl:=⟨[(dstC c,.c (.sl (vwC c).nx))],[((vwC c).nx,.buf z ty),(keyV (argV c 0),.gone)],[],1⟩
def nBa (z:ByteArray) (ty:TypeId) (c:Cf):Cf:=goC (dBa z ty c) c
theorem eBa {sb z:ByteArray} {ys:List Int} {ty:TypeId} {c:Cf} (htt:TTOk X.P tt) (hz:bytesL z=bytesL sb++ys∧sb.size+ys.length≤lim) (hsrc:∀ nk E0 F0 w0 n0 Z,SrcOk (X.var nk E0 F0 w0 n0 Z) (vwC c) (rI .u8) ys (cellV' (argV c 1))) (k:Wc X (nBa z ty c))
  (hp:(hB X.fn.ntmps c,(opC c).dst,(opC c).op,argV c 0,look (vwC c).M (keyV (argV c 0)),argV c 1,look tt (tyO (opC c).op),look tt (tyO2 (opC c).op),kd62B tt c,(tdC tt 0 c).el)=(true,some (dstC c),.call { callee:=.builtin .append,args:=#[argO (opC c).op 0,argO (opC c).op 1],argTypes:=#[tyO (opC c).op,tyO2 (opC c).op] },some (.c (.sl (keyV (argV c 0)))),some (.buf sb ty),some (.c (cellV' (argV c 1))),some (tdC tt 0 c),some (tdC tt 1 c),true,ty):=by kernel_rfl):Wc X c:=by
 simp only [Prod.mk.injEq] at hp
 obtain ⟨h1,h2,h3,h4,h5,h6,h7,h8,h9,h10⟩:=hp
 obtain ⟨h0,hn⟩:=hB_ok h1
 refine Wc.ev (d:=dBa z ty c) h0 (d1_dst h2 rfl) (fun nk E0 F0 w0 n0 Z rest K ho hg h=>WPr.apb (X:=X.var nk E0 F0 w0 n0 Z) htt hz (hsrc nk E0 F0 w0 n0 Z) ho hg h3 h2 h4 h5 h6 h7 h8 ?_ h) k
 rw [Bool.and_eq_true]
 exact ⟨kd62B_ok h9 hn,by rw [h10];exact Nat.beq_refl _⟩
theorem eBt {sb m z:ByteArray} {ty:TypeId} {c:Cf} (htt:TTOk X.P tt) (hz:apB sb m=some z) (k:Wc X (nBa z ty c))
  (hm:cellV' (argV c 1)=.s m:=by kernel_rfl)
  (hp:(hB X.fn.ntmps c,(opC c).dst,(opC c).op,argV c 0,look (vwC c).M (keyV (argV c 0)),argV c 1,look tt (tyO (opC c).op),look tt (tyO2 (opC c).op),kd62B tt c,(tdC tt 0 c).el)=(true,some (dstC c),.call { callee:=.builtin .append,args:=#[argO (opC c).op 0,argO (opC c).op 1],argTypes:=#[tyO (opC c).op,tyO2 (opC c).op] },some (.c (.sl (keyV (argV c 0)))),some (.buf sb ty),some (.c (cellV' (argV c 1))),some (tdC tt 0 c),some (tdC tt 1 c),true,ty):=by kernel_rfl):Wc X c:=by
 obtain ⟨rfl,h2⟩:=apB_ok hz
 exact eBa (ys:=bytesL m) htt ⟨bytesL_app _ _,by rw [bytesL_len];exact h2⟩ (fun _ _ _ _ _ _=>by rw [hm];exact srcS) k hp
def nUd (c:Cf):Cf:=goC (d1 c (.c (.px (keyV (argV c 0)) 0))) c
theorem eUd {sb:ByteArray} {ty:TypeId} {c:Cf} (hne:(Nat.beq sb.size 0 || !(Nat.ble sb.size lim))=false) (k:Wc X (nUd c))
  (hp:(hB X.fn.ntmps c,(opC c).dst,(opC c).op,argV c 0,look (vwC c).M (keyV (argV c 0)))=(true,some (dstC c),.call { callee:=.builtin .unsafeSliceData,args:=#[argO (opC c).op 0],argTypes:=tysO (opC c).op },some (.c (.sl (keyV (argV c 0)))),some (.buf sb ty)):=by kernel_rfl):Wc X c:=by
 simp only [Prod.mk.injEq] at hp
 obtain ⟨h1,h2,h3,h4,h5⟩:=hp
 obtain ⟨h0,hn⟩:=hB_ok h1
 rw [Bool.or_eq_false_iff] at hne
 exact Wc.ev (d:=d1 c (.c (.px (keyV (argV c 0)) 0))) h0 (d1_dst h2 rfl) (fun nk E0 F0 w0 n0 Z rest K ho hg h=>WPr.usd (X:=X.var nk E0 F0 w0 n0 Z) ho hg h3 h2 h4 h5 hne.1 hn h) k
def nBl (sb:ByteArray) (c:Cf):Cf:=goC (d1 c (.c (.i .i64 sb.size))) c
theorem eBl {sb:ByteArray} {ty:TypeId} {c:Cf} (htt:TTOk X.P tt) (k:Wc X (nBl sb c))
  (hp:(hB X.fn.ntmps c,(opC c).dst,(opC c).op,argV c 0,look (vwC c).M (keyV (argV c 0)),look tt (tyO (opC c).op),sl6 tt X.fn.ntmps c)=(true,some (dstC c),.call { callee:=.builtin .len,args:=#[argO (opC c).op 0],argTypes:=#[tyO (opC c).op] },some (.c (.sl (keyV (argV c 0)))),some (.buf sb ty),some (tdO tt (tyO (opC c).op)),true):=by kernel_rfl):Wc X c:=by
 simp only [Prod.mk.injEq] at hp
 obtain ⟨h1,h2,h3,h4,h5,h6,h7⟩:=hp
 obtain ⟨h0,hn⟩:=hB_ok h1
 exact Wc.ev (d:=d1 c (.c (.i .i64 sb.size))) h0 (d1_dst h2 rfl) (fun nk E0 F0 w0 n0 Z rest K ho hg h=>WPr.bln (X:=X.var nk E0 F0 w0 n0 Z) htt ho hg h3 h2 h4 h5 h6 h7 h) k
def nUs (sb:ByteArray) (c:Cf):Cf:=goC ⟨[(dstC c,.c (.s sb))],[(keyV (argV c 0),.gone)],[],0⟩ c
theorem eUs {sb:ByteArray} {ty:TypeId} {c:Cf} (hne:(Nat.beq sb.size 0 || !(Nat.ble sb.size lim))=false) (k:Wc X (nUs sb c))
  (hp:(hB X.fn.ntmps c,(opC c).dst,(opC c).op,argV c 0,argV c 1,look (vwC c).M (keyV (argV c 0)),X.P.underlying (tyO (opC c).op),X.P.cellsOf ty)=(true,some (dstC c),.call { callee:=.builtin .unsafeString,args:=#[argO (opC c).op 0,argO (opC c).op 1],argTypes:=#[tyO (opC c).op,tyO2 (opC c).op] },some (.c (.px (keyV (argV c 0)) 0)),some (.c (.i .i64 (sb.size:Int))),some (.buf sb ty),some (.pointer ty),1):=by kernel_rfl):Wc X c:=by
 simp only [Prod.mk.injEq] at hp
 obtain ⟨h1,h2,h3,h4,h5,h6,h7,h8⟩:=hp
 obtain ⟨h0,hn⟩:=hB_ok h1
 exact Wc.ev (d:=⟨[(dstC c,.c (.s sb))],[(keyV (argV c 0),.gone)],[],0⟩) h0 (d1_dst h2 rfl) (fun nk E0 F0 w0 n0 Z rest K ho hg h=>WPr.ust (X:=X.var nk E0 F0 w0 n0 Z) ho hg h3 h2 h4 h5 rfl h6 hne h7 h8 hn h) k
def gdB (s:ByteArray):Option Unit:=bif (Nat.beq s.size 0 || !(Nat.ble s.size lim)) then none else some ()
theorem gdB_ok {s:ByteArray} {u:Unit} (h:gdB s=some u):(Nat.beq s.size 0 || !(Nat.ble s.size lim))=false:=by
 unfold gdB at h
 cases hb:(Nat.beq s.size 0 || !(Nat.ble s.size lim)) with
 | false=>rfl
 | true=>rw [hb] at h;cases h
def nUn (c:Cf):Cf:=goC (d1 c (.c (.v (.pointer none)))) c
theorem eUn {c:Cf} (k:Wc X (nUn c))
  (hp:(hB X.fn.ntmps c,(opC c).dst,(opC c).op,argV c 0)=(true,some (dstC c),.call { callee:=.builtin .unsafeSliceData,args:=#[argO (opC c).op 0],argTypes:=tysO (opC c).op },some (.c .nil)):=by kernel_rfl):Wc X c:=by
 simp only [Prod.mk.injEq] at hp
 obtain ⟨h1,h2,h3,h4⟩:=hp
 obtain ⟨h0,hn⟩:=hB_ok h1
 exact Wc.ev (d:=d1 c (.c (.v (.pointer none)))) h0 (d1_dst h2 rfl) (fun nk E0 F0 w0 n0 Z rest K ho hg h=>WPr.val (X:=X.var nk E0 F0 w0 n0 Z) (v:=.c (.v (.pointer none))) (fun E F w a hs=>⟨by
  obtain ⟨e1,_⟩:=hs.eval h4
  refine exec_call_builtin h3 ?_
  simp only [List.map_toArray,List.map_cons,List.map_nil,e1,denV,den]
  exact exec_v (Go.Lib.run_unsafeSliceData_nil _ _ _ _ _),rfl⟩) ho hg h2 hn h) k
def nUz (c:Cf):Cf:=goC (d1 c (.c (.s ByteArray.empty))) c
theorem eUz {c:Cf} (k:Wc X (nUz c))
  (hp:(hB X.fn.ntmps c,(opC c).dst,(opC c).op,argV c 0,argV c 1)=(true,some (dstC c),.call { callee:=.builtin .unsafeString,args:=#[argO (opC c).op 0,argO (opC c).op 1],argTypes:=#[tyO (opC c).op,tyO2 (opC c).op] },some (.c (.v (.pointer none))),some (.c (.i .i64 0))):=by kernel_rfl):Wc X c:=by
 simp only [Prod.mk.injEq] at hp
 obtain ⟨h1,h2,h3,h4,h5⟩:=hp
 obtain ⟨h0,hn⟩:=hB_ok h1
 exact Wc.ev (d:=d1 c (.c (.s ByteArray.empty))) h0 (d1_dst h2 rfl) (fun nk E0 F0 w0 n0 Z rest K ho hg h=>WPr.val (X:=X.var nk E0 F0 w0 n0 Z) (v:=.c (.s ByteArray.empty)) (fun E F w a hs=>⟨by
  obtain ⟨e1,_⟩:=hs.eval h4
  obtain ⟨e2,_⟩:=hs.eval h5
  refine exec_call_builtin h3 ?_
  simp only [List.map_toArray,List.map_cons,List.map_nil,e1,e2,denV,den]
  exact exec_v (Lib.run_unsafeString_none w _ _ _ none),trivial⟩) ho hg h2 hn h) k
def nAa (P:Program) (j:Nat) (c:Cf):Cf:=goC (d1 c (.a (((aggV (argV c 0)).drop (j * szT P (elT P (tyO (opC c).op)))).take (szT P (elT P (tyO (opC c).op)))))) c
theorem eAa {m:Int} {c:Cf} (j:Nat) (hj:m=(j:Int)) (k:Wc X (nAa X.P j c))
    (hp:(hB X.fn.ntmps c,(opC c).dst,(opC c).op,X.P.underlying (tyO (opC c).op),(X.P.info? (elT X.P (tyO (opC c).op))).map (·.size),aggOf X.P (elT X.P (tyO (opC c).op)),(X.P.underlying (elT X.P (tyO (opC c).op))).isSome,Nat.blt j (arrN X.P (tyO (opC c).op)),argV c 0,Nat.ble (j * szT X.P (elT X.P (tyO (opC c).op))+szT X.P (elT X.P (tyO (opC c).op))) (aggV (argV c 0)).length,argV c 1)=(true,some (dstC c),.index (tyO (opC c).op) (argO (opC c).op 0) (argO (opC c).op 1),some (.array (arrN X.P (tyO (opC c).op)) (elT X.P (tyO (opC c).op))),some (szT X.P (elT X.P (tyO (opC c).op))),true,true,true,some (.a (aggV (argV c 0))),true,some (.c (.i (ikV (argV c 1)) m))):=by kernel_rfl):Wc X c:=by
  simp only [Prod.mk.injEq] at hp
  obtain ⟨h1,h2,h3,h4,h5,h6,h7,h8,h9,h10,h11⟩:=hp
  obtain ⟨h0,hn⟩:=hB_ok h1
  exact Wc.ev (d:=d1 c (.a (((aggV (argV c 0)).drop (j * szT X.P (elT X.P (tyO (opC c).op)))).take (szT X.P (elT X.P (tyO (opC c).op)))))) h0 (d1_dst h2 rfl) (fun nk E0 F0 w0 n0 Z rest K ho hg h=>WPr.axa (X:=X.var nk E0 F0 w0 n0 Z) j hj ho hg h3 h2 h4 h5 h6 h7 h8 h9 h10 h11 hn h) k
def nBo (b:Bool) (c:Cf):Cf:=goC (d1 c (.c (.b b))) c
theorem ePs {c:Cf} (k:Wc X (nBo false c))
  (hp:(hB X.fn.ntmps c,(opC c).dst,(opC c).op,X.P.underlying (tyO (opC c).op),(X.P.info? (elT X.P (tyO (opC c).op))).isSome,argV c 0,argV c 1)=(true,some (dstC c),.binOp .neq (tyO (opC c).op) (argO (opC c).op 0) (argO (opC c).op 1) (tyO2 (opC c).op),some (.pointer (elT X.P (tyO (opC c).op))),true,some (.c (.bp (keyV (argV c 0)) (offV (argV c 0)))),some (.c (.bp (keyV (argV c 0)) (offV (argV c 0))))):=by kernel_rfl):Wc X c:=by
 simp only [Prod.mk.injEq] at hp
 obtain ⟨h1,h2,h3,h4,h5,h6,h7⟩:=hp
 obtain ⟨h0,hn⟩:=hB_ok h1
 exact Wc.ev (d:=d1 c (.c (.b false))) h0 (d1_dst h2 rfl) (fun nk E0 F0 w0 n0 Z rest K ho hg h=>WPr.pps (X:=X.var nk E0 F0 w0 n0 Z) ho hg h3 h2 h4 h5 h6 h7 hn h) k
theorem ePz {c:Cf} (k:Wc X (nBo true c))
  (hp:(hB X.fn.ntmps c,(opC c).dst,(opC c).op,X.P.underlying (tyO (opC c).op),argV c 0,argV c 1)=(true,some (dstC c),.binOp .eql (tyO (opC c).op) (argO (opC c).op 0) (argO (opC c).op 1) (tyO2 (opC c).op),some (.pointer (elT X.P (tyO (opC c).op))),some (.c (.v (.pointer none))),some (.c (.v (.pointer none)))):=by kernel_rfl):Wc X c:=by
 simp only [Prod.mk.injEq] at hp
 obtain ⟨h1,h2,h3,h4,h5,h6⟩:=hp
 obtain ⟨h0,hn⟩:=hB_ok h1
 exact Wc.ev (d:=d1 c (.c (.b true))) h0 (d1_dst h2 rfl) (fun nk E0 F0 w0 n0 Z rest K ho hg h=>WPr.pnn (X:=X.var nk E0 F0 w0 n0 Z) ho hg h3 h2 h4 h5 h6 hn h) k
def nSm (c:Cf):Cf:=goC (d1 c (.c (.bp (keyV (argV c 0)) (offV (argV c 0))))) c
theorem eCu {c:Cf} (k:Wc X (nSm c))
  (hp:(hB X.fn.ntmps c,(opC c).dst,(opC c).op,X.P.underlying (tyO (opC c).op),X.P.underlying (tyO2 (opC c).op),(X.P.info? (elT X.P (tyO (opC c).op))).map (fun j=>Nat.beq j.size 0),argV c 0,look (vwC c).M (keyV (argV c 0)),Nat.blt (offV (argV c 0)) (boxC (look (vwC c).M (keyV (argV c 0)))).length)=(true,some (dstC c),.convert (tyO (opC c).op) (tyO2 (opC c).op) (argO (opC c).op 0),some (.pointer (elT X.P (tyO (opC c).op))),some .unsafePointer,some false,some (.c (.bp (keyV (argV c 0)) (offV (argV c 0)))),some (.box (boxC (look (vwC c).M (keyV (argV c 0)))) (boxT (look (vwC c).M (keyV (argV c 0))))),true):=by kernel_rfl):Wc X c:=by
 simp only [Prod.mk.injEq] at hp
 obtain ⟨h1,h2,h3,h4,h5,h6,h7,h8,h9⟩:=hp
 obtain ⟨h0,hn⟩:=hB_ok h1
 exact Wc.ev (d:=d1 c (.c (.bp (keyV (argV c 0)) (offV (argV c 0))))) h0 (d1_dst h2 rfl) (fun nk E0 F0 w0 n0 Z rest K ho hg h=>WPr.cvu (X:=X.var nk E0 F0 w0 n0 Z) ho hg h3 h2 h4 h5 h6 h7 h8 h9 hn h) k
theorem eCq {c:Cf} (k:Wc X (nSm c))
  (hp:(hB X.fn.ntmps c,(opC c).dst,(opC c).op,X.P.underlying (tyO (opC c).op),X.P.underlying (tyO2 (opC c).op),(X.P.info? (elT X.P (tyO2 (opC c).op))).isSome,argV c 0,look (vwC c).M (keyV (argV c 0)),liesAt X.P X.P.depth (boxT (look (vwC c).M (keyV (argV c 0)))) ((boxC (look (vwC c).M (keyV (argV c 0)))).length / X.P.cellsOf (boxT (look (vwC c).M (keyV (argV c 0))))) (offV (argV c 0)) (elT X.P (tyO2 (opC c).op)) 1)=(true,some (dstC c),.convert (tyO (opC c).op) (tyO2 (opC c).op) (argO (opC c).op 0),some .unsafePointer,some (.pointer (elT X.P (tyO2 (opC c).op))),true,some (.c (.bp (keyV (argV c 0)) (offV (argV c 0)))),some (.box (boxC (look (vwC c).M (keyV (argV c 0)))) (boxT (look (vwC c).M (keyV (argV c 0))))),true):=by kernel_rfl):Wc X c:=by
 simp only [Prod.mk.injEq] at hp
 obtain ⟨h1,h2,h3,h4,h5,h6,h7,h8,h9⟩:=hp
 obtain ⟨h0,hn⟩:=hB_ok h1
 exact Wc.ev (d:=d1 c (.c (.bp (keyV (argV c 0)) (offV (argV c 0))))) h0 (d1_dst h2 rfl) (fun nk E0 F0 w0 n0 Z rest K ho hg h=>WPr.cvp (X:=X.var nk E0 F0 w0 n0 Z) ho hg h3 h2 h4 h5 h6 h7 h8 h9 hn h) k
theorem eNe {f:FuncId} {fn:Func} {c:Cf} (hf:X.P.funcs[f]? = some fn) (hname:(fn.name == "runtime.NumGoroutine")=false) (hb:fn.body.isNone=true) (hnx:Extern.findNext fn=none) (he:Extern.find fn=some Extern.AbiNoEscape.same) (k:Wc X (nSm c))
  (hp:(hB X.fn.ntmps c,(opC c).dst,(opC c).op,argV c 0)=(true,some (dstC c),.call { callee:=.value (.func f),args:=#[argO (opC c).op 0],argTypes:=tysO (opC c).op },some (.c (.bp (keyV (argV c 0)) (offV (argV c 0))))):=by kernel_rfl):Wc X c:=by
 simp only [Prod.mk.injEq] at hp
 obtain ⟨h1,h2,h3,h4⟩:=hp
 obtain ⟨h0,hn⟩:=hB_ok h1
 exact Wc.ev (d:=d1 c (.c (.bp (keyV (argV c 0)) (offV (argV c 0))))) h0 (d1_dst h2 rfl) (fun nk E0 F0 w0 n0 Z rest K ho hg h=>WPr.nes (X:=X.var nk E0 F0 w0 n0 Z) hf hname hb hnx he ho hg h3 h2 h4 hn h) k
def plC (c:Cf):Cf:=.co (.code (lpC c)::.inLoop (lpC c)::c.kk) c.st
def isLp:Cf→Bool
 | .co (.code (.loop _)::_) _=>true
 | _=>false
theorem ePl {c:Cf} (k:Wc X (plC c)) (hp:isLp c=true:=by kernel_rfl):Wc X c:=by
 cases c with
 | no=>cases hp
 | rg _ _ _ _ _=>cases hp
 | co l s =>
  cases l with
  | nil=>cases hp
  | cons x l =>
   cases x with
   | code y =>
    cases y with
    | loop z=>exact ⟨WP.loop k.1⟩
    | _=>cases hp
   | _=>cases hp
def lnC (c:Cf):Code:=match c with
 | .co (.inLoop x::_) _=>x
 | _=>.skip
def lnS (c:Cf) (s:St):Cf:=.co (.code (lnC c)::.inLoop (lnC c)::c.kk) s
def lnK (c:Cf):List Item:=.inLoop (lnC c)::c.kk
theorem eLoopI {σ ρ:Type} {r:ρ} (H:σ→St) (p:Nat→σ→Option ρ) (h0:∀ st,p 0 st=none) {c:Cf}
  (step:∀ n,(∀ st,p n st=some r→WP X (lnK c) (H st))→∀ st,p (n+1) st=some r→Wc X (lnS c (H st)))
  (h:(∀ n st,p n st=some r→WP X (lnK c) (H st))→Wc X c):Wc X c:=by
 have key:∀ n st,p n st=some r→WP X (lnK c) (H st):=by
  intro n
  induction n with
  | zero=>intro st hp;rw [h0] at hp;cases hp
  | succ n ih=>exact fun st hq=>WP.inLoop (step n ih st hq).1
 exact h key
end
end Go.Kx
end
section
namespace Go.Kx
variable [LxP]
open Go
structure MonoR {α β:Type} (Φ:TRep α→TRep β):Prop where
 sz:∀ R R',R.sz=R'.sz→(Φ R).sz=(Φ R').sz
 sub:∀ R R',R.sz=R'.sz→(∀ F w x vs,R.rep F w x vs→R'.rep F w x vs)→∀ F w x vs,(Φ R).rep F w x vs→(Φ R').rep F w x vs
theorem mono_id {α:Type}:MonoR (fun R:TRep α=>R):=⟨fun _ _ h=>h,fun _ _ _ h=>h⟩
theorem mono_const {α β:Type} (S:TRep β):MonoR (fun _:TRep α=>S):=⟨fun _ _ _=>rfl,fun _ _ _ _ _ _ _ _ h=>h⟩
theorem mono_M {α β γ:Type} (f:γ→β) {Φ:TRep α→TRep β} (h:MonoR Φ):MonoR (fun R=>rM f (Φ R)) :=
 ⟨fun R R' e=>h.sz R R' e,fun R R' e s F w x vs hr=>h.sub R R' e s F w (f x) vs hr⟩
theorem mono_P {α β γ:Type} {Φ:TRep α→TRep β} {Ψ:TRep α→TRep γ} (h:MonoR Φ) (k:MonoR Ψ):MonoR (fun R=>rP (Φ R) (Ψ R)):=by
 refine ⟨fun R R' e=>?_,fun R R' e s F w x vs hr=>?_⟩
 ·show (Φ R).sz+(Ψ R).sz=(Φ R').sz+(Ψ R').sz
  rw [h.sz R R' e,k.sz R R' e]
 ·obtain ⟨a,b,h1,h2,h3⟩:=hr
  exact ⟨a,b,h1,h.sub R R' e s _ _ _ _ h2,k.sub R R' e s _ _ _ _ h3⟩
theorem SlR.more {α:Type} {R R':TRep α} (e:R.sz=R'.sz) (s:∀ F w x vs,R.rep F w x vs→R'.rep F w x vs) {F:FSet} {w:World} {xs:List α} {v:Value} (h:SlR R F w xs v):SlR R' F w xs v:=by
 rcases h with h | ⟨b,off,cap,arr,el,fz,h1,h2,h3,h4,h5⟩
 ·exact .inl h
 ·refine .inr ⟨b,off,cap,arr,el,fz,h1,h2,h3,h4,fun i x hx=>?_⟩
  obtain ⟨vs,hr,hv⟩:=h5 i x hx
  exact ⟨vs,s _ _ _ _ hr,fun j v hj=>by rw [← e];exact hv j v hj⟩
theorem mono_Sl {α β:Type} {Φ:TRep α→TRep β} (h:MonoR Φ):MonoR (fun R=>rSl (Φ R)):=by
 refine ⟨fun _ _ _=>rfl,fun R R' e s F w xs vs hr=>?_⟩
 obtain ⟨v,h1,h2⟩:=hr
 exact ⟨v,h1,SlR.more (h.sz R R' e) (h.sub R R' e s) h2⟩
def rTop (α:Type) (n:Nat) (hn:0 < n):TRep α where
 sz:=n
 pos:=hn
 rep _ _ _ vs:=vs.length=n∧∀ v∈vs,v.oneCell'=true
 len h:=h.1
 mono _ h:=h
 one h:=h.2
def rFix {α:Type} (Φ:TRep α→TRep α) (n:Nat) (hn:0 < n) (hs:∀ R,R.sz=n→(Φ R).sz=n):TRep α where
 sz:=n
 pos:=hn
 rep F w x vs:=∀ R:TRep α,R.sz=n→(∀ F w x vs,(Φ R).rep F w x vs→R.rep F w x vs)→R.rep F w x vs
 len h:=(h (rTop α n hn) rfl (fun _ _ _ _ k=>⟨by rw [(Φ _).len k];exact hs _ rfl,(Φ _).one k⟩)).1
 mono g h:=fun R e k=>R.mono g (h R e k)
 one h:=(h (rTop α n hn) rfl (fun _ _ _ _ k=>⟨by rw [(Φ _).len k];exact hs _ rfl,(Φ _).one k⟩)).2
theorem rFix_iff {α:Type} {Φ:TRep α→TRep α} {n:Nat} {hn:0 < n} {hs:∀ R,R.sz=n→(Φ R).sz=n} (hm:MonoR Φ) (F:FSet) (w:World) (x:α) (vs:List Value) :
  (rFix Φ n hn hs).rep F w x vs↔(Φ (rFix Φ n hn hs)).rep F w x vs:=by
 have fold:∀ F w x vs,(Φ (rFix Φ n hn hs)).rep F w x vs→(rFix Φ n hn hs).rep F w x vs:=by
  intro F w x vs h R e k
  exact k _ _ _ _ (hm.sub (rFix Φ n hn hs) R e.symm (fun _ _ _ _ q=>q R e k) _ _ _ _ h)
 refine ⟨fun h=>?_,fold F w x vs⟩
 exact h (Φ (rFix Φ n hn hs)) (hs _ rfl) (fun _ _ _ _ q=>hm.sub _ _ (hs _ rfl) fold _ _ _ _ q)
def Opn.of {α:Type} {R R':TRep α} (h:∀ F w x vs,R.rep F w x vs↔R'.rep F w x vs) (o:Opn R'):Opn R where
 nk:=o.nk
 cells:=o.cells
 facts:=o.facts
 ok hr:=o.ok ((h _ _ _ _).1 hr)
 chk:=o.chk
 cok hc E F w hV:=(h _ _ _ _).2 (o.cok hc E F w hV)
 T:=o.T
 lq:=o.lq
 rq:=o.rq
 eqn:=o.eqn
end Go.Kx
end
section
namespace Go.Kx
variable [LxP]
def wsum {α:Type} (f:α→Nat):List α→Nat
 | []=>0
 | x::l=>f x+wsum f l
def RdbW (P:Program) (B:Bulk) (m:Nat) (t:TypeId) {α:Type} (R:TRep α) (ok:α→Prop) (wt:α→Nat):Prop:=R.sz=P.cellsOf t ∧
 ∀ {H:Type} (enc:TypeId × Value→H) (w:World) (fuel:Nat) (cs:List Value) (x:DataW H × List MemPlace),fuel≤m→DataW.trod enc P w 0 (fun _=>true) true fuel t cs=some x→B.f x.1≤bd →
  ∃ a,R.rep (Old w) w a cs∧ok a∧wt a≤B.f x.1
section
variable {P:Program} {B:Bulk} {t:TypeId}
theorem RdbW.of {m:Nat} {α:Type} {R:TRep α} {ok:α→Prop} (h:Rdb P B t R ok):RdbW P B m t R ok (fun _=>0) :=
 ⟨h.1,fun enc w fuel cs x _ hx hb=>by obtain ⟨a,h1,h2⟩:=h.2 enc w fuel cs x hx hb;exact ⟨a,h1,h2,Nat.zero_le _⟩⟩
theorem RdbW.zero {α:Type} {R:TRep α} {ok:α→Prop} {wt:α→Nat} (h:R.sz=P.cellsOf t):RdbW P B 0 t R ok wt :=
 ⟨h,fun enc w fuel cs x hm hx hb=>by
  obtain rfl:fuel=0:=by omega
  simp [DataW.trod] at hx⟩
theorem RdbW.less {m n:Nat} {α:Type} {R:TRep α} {ok:α→Prop} {wt:α→Nat} (h:RdbW P B m t R ok wt) (hn:n≤m):RdbW P B n t R ok wt :=
 ⟨h.1,fun enc w fuel cs x hm hx hb=>h.2 enc w fuel cs x (by omega) hx hb⟩
theorem RdbW.conv {m:Nat} {α:Type} {R R':TRep α} {ok ok':α→Prop} {wt wt':α→Nat} (h:RdbW P B m t R ok wt) (hs:R'.sz=R.sz) (hr:∀ F w x vs,R.rep F w x vs→R'.rep F w x vs) (hk:∀ a,ok a→ok' a) (hw:∀ a,wt' a≤wt a):RdbW P B m t R' ok' wt' :=
 ⟨by rw [hs];exact h.1,fun enc w fuel cs x hm hx hb=>by
  obtain ⟨a,h1,h2,h3⟩:=h.2 enc w fuel cs x hm hx hb
  exact ⟨a,hr _ _ _ _ h1,hk a h2,Nat.le_trans (hw a) h3⟩⟩
theorem Rdb.ofW {α:Type} {R:TRep α} {ok:α→Prop} {wt:α→Nat} (h:∀ m,RdbW P B m t R ok wt):Rdb P B t R (fun x=>ok x∧wt x≤bd) :=
 ⟨(h 0).1,fun enc w fuel cs x hx hb=>by
  obtain ⟨a,h1,h2,h3⟩:=(h fuel).2 enc w fuel cs x (Nat.le_refl _) hx hb
  exact ⟨a,h1,h2,Nat.le_trans h3 hb⟩⟩
theorem wsum_le {B:Bulk} {H:Type} {α:Type} {wt:α→Nat}:∀ {xs:List α} {es:List (DataW H × List MemPlace)},xs.length=es.length→(∀ (i:Nat) (x:α),xs[i]? = some x→∃ y:DataW H × List MemPlace,es[i]? = some y∧wt x≤B.f y.1)→wsum wt xs≤B.all (es.map (·.1))
  | [],_,_,_=>Nat.zero_le _
  | x::xs,[],h,_=>by cases h
  | x::xs,e::es,h,hx=>by
    obtain ⟨y,hy,h1⟩:=hx 0 x rfl
    simp only [List.getElem?_cons_zero,Option.some.injEq] at hy
    subst hy
    have:=wsum_le (B:=B) (wt:=wt) (xs:=xs) (es:=es) (by simpa using h) fun i x' hi=>by have:=hx (i+1) x' (by simpa using hi);simpa using this
    rw [List.map_cons,B.cons]
    show wt x+wsum wt xs≤_
    omega
theorem RdbW.slice {m:Nat} {α:Type} {R:TRep α} {ok:α→Prop} {wt:α→Nat} {e:TypeId} (hu:P.underlying t=some (.slice e)) (hc:P.cellsOf t=1) (he:RdbW P B m e R ok wt) :
    RdbW P B (m+1) t (rSl R) (fun xs=>xs.length≤bd∧∀ x∈xs,ok x) (wsum wt):=⟨hc.symm,fun enc w fuel cs x hm h hb=>by
  rcases DataW.trod_slice hu h with ⟨rfl,_⟩ | ⟨a,len,cap,elems,rest,n,hn,rfl,rfl,_,hlc,_,hel,hx,_⟩
  · exact ⟨[],⟨_,rfl,.inl ⟨rfl,_,_,rfl⟩⟩,⟨by simp [bd],by simp⟩,Nat.zero_le _⟩
  · simp only at hb
    rw [B.slice] at hb
    have hlen:=B.len (elems.map (·.1))
    rw [List.length_map,hel] at hlen
    have hpos:0 < P.cellsOf e:=by rw [← he.1];exact R.pos
    have key:∀ i,i < len→∃ x,∃ cs y,w.cells? 0 (a.add (i * P.cellsOf e)) (P.cellsOf e)=some cs∧elems[i]? = some y∧R.rep (Old w) w x cs∧ok x∧wt x≤B.f y.1:=fun i hi=>by
      have h1:=hx i hi
      have hlt:i < elems.length:=by omega
      rw [List.getElem?_eq_getElem hlt,Option.bind_eq_some_iff] at h1
      obtain ⟨cs,h2,h3⟩:=h1
      have hme:elems[i].1∈elems.map (·.1):=List.mem_map.2 ⟨_,List.getElem_mem hlt,rfl⟩
      obtain ⟨x,h4,h5,h6⟩:=he.2 enc w n cs _ (by omega) h3 (by have:=B.mem hme;omega)
      exact ⟨x,cs,_,h2,List.getElem?_eq_getElem hlt,h4,h5,h6⟩
    obtain ⟨xs,hl,hq⟩:=exists_list key
    have hok:∀ x∈xs,ok x:=fun x hm=>by
      obtain ⟨i,hi⟩:=List.mem_iff_getElem?.1 hm
      obtain ⟨_,_,_,_,_,h,_⟩:=hq i x hi
      exact h
    have hws:wsum wt xs≤B.all (elems.map (·.1)):=wsum_le (by rw [hl,hel]) fun i x hi=>by
      obtain ⟨_,y,_,hy,_,_,h⟩:=hq i x hi
      exact ⟨y,hy,h⟩
    have hwt:wsum wt xs≤B.f (DataW.slice (elems.map (·.1)) (rest.map (·.1))):=by rw [B.slice];omega
    refine ⟨xs,⟨_,rfl,?_⟩,⟨by omega,hok⟩,hwt⟩
    rcases Nat.eq_zero_or_pos len with h0 | h0
    · subst h0
      have:xs=[]:=List.eq_nil_of_length_eq_zero hl
      subst this
      exact .inl ⟨rfl,_,_,rfl⟩
    · -- the block
      have hcell:∀ i j cs,i < len→w.cells? 0 (a.add (i * P.cellsOf e)) (P.cellsOf e)=some cs→j < P.cellsOf e→w.cell? ((a.add (i * P.cellsOf e)).add j)=cs[j]? := fun i j cs _ hc hj=>by
        unfold World.cells? at hc
        rw [if_pos (Nat.zero_le _)] at hc
        have:=mapM_some_get hc j j (by simp [hj])
        exact this
      have hcl:∀ i cs,w.cells? 0 (a.add (i * P.cellsOf e)) (P.cellsOf e)=some cs→cs.length=P.cellsOf e:=fun i cs hc=>by
        unfold World.cells? at hc
        rw [if_pos (Nat.zero_le _)] at hc
        simpa using mapM_some_length hc
      obtain ⟨x0,hx0⟩:∃ x0,xs[0]? = some x0:=⟨_,List.getElem?_eq_getElem (by omega)⟩
      obtain ⟨cs0,y0,hc0,_,_,_,_⟩:=hq 0 x0 hx0
      have h00:=hcell 0 0 cs0 h0 hc0 hpos
      have hadd0:(a.add (0 * P.cellsOf e)).add 0=a:=by unfold Addr.add;simp
      rw [hadd0,List.getElem?_eq_getElem (by rw [hcl 0 cs0 hc0];exact hpos)] at h00
      unfold World.cell? at h00
      split at h00
      · rename_i arr ty fz hh
        cases hsp:a.spot with
        | some s=>rw [hsp] at h00;simp at h00
        | none =>
          have ha:a=⟨a.block,a.off,none⟩:=by cases a;simp at hsp;simp [hsp]
          have hlt:a.block < w.heap.size:=(Array.getElem?_eq_some_iff.1 hh).1
          refine .inr ⟨a.block,a.off,cap,arr,ty,fz,by rw [hl,← ha],by omega,hlt,hh,fun i x hi=>?_⟩
          obtain ⟨cs,y,hcs,_,hrep,_,_⟩:=hq i x hi
          have hil:i < len:=by have:=(List.getElem?_eq_some_iff.1 hi).1;omega
          refine ⟨cs,hrep,fun j v hj=>?_⟩
          have hjl:j < P.cellsOf e:=by have:=(List.getElem?_eq_some_iff.1 hj).1;rw [hcl i cs hcs] at this;exact this
          have:=hcell i j cs hil hcs hjl
          rw [ha,addr_add,addr_add,cell_at hh,hj] at this
          rw [he.1]
          exact this
      · cases h00⟩
def RdFW (P:Program) (B:Bulk) (m:Nat) (fs:List Field) (off:Nat) {β:Type} (R:TRep β) (ok:β→Prop) (wt:β→Nat):Prop :=
  ∀ {H:Type} (enc:TypeId × Value→H) (w:World) (n:Nat) (cs:List Value) (xs:List (DataW H × List MemPlace)),n≤m→xs.length=fs.length →
    (∀ (i:Nat) (f:Field),fs[i]? = some f→DataW.trod enc P w 0 (fun _=>true) true n f.type ((cs.drop f.offset).take (P.cellsOf f.type))=xs[i]?)→B.all (xs.map (·.1))≤bd →
    ∃ y,R.rep (Old w) w y ((cs.drop off).take R.sz)∧ok y∧wt y≤B.all (xs.map (·.1))
theorem RdFW.one {m:Nat} {f:Field} {α:Type} {R:TRep α} {ok:α→Prop} {wt:α→Nat} (h:RdbW P B m f.type R ok wt):RdFW P B m [f] f.offset R ok wt:=fun enc w n cs xs hm hl hx hb=>by
 obtain ⟨x,rfl⟩:=List.length_eq_one_iff.1 hl
 have h0:=hx 0 f rfl
 simp only [List.getElem?_cons_zero] at h0
 simp only [List.map_cons,List.map_nil] at hb
 rw [B.cons,B.nil] at hb
 obtain ⟨a,h1,h2,h3⟩:=h.2 enc w n _ x hm h0 (by omega)
 rw [h.1]
 refine ⟨a,h1,h2,?_⟩
 simp only [List.map_cons,List.map_nil]
 rw [B.cons,B.nil];omega
theorem RdFW.cons {m:Nat} {f:Field} {fs:List Field} {off:Nat} {α β:Type} {R1:TRep α} {R2:TRep β} {ok1:α→Prop} {ok2:β→Prop} {wt1:α→Nat} {wt2:β→Nat} (h1:RdbW P B m f.type R1 ok1 wt1) (h2:RdFW P B m fs off R2 ok2 wt2) (ho:off=f.offset+R1.sz) :
  RdFW P B m (f::fs) f.offset (rP R1 R2) (fun y=>ok1 y.1∧ok2 y.2) (fun y=>wt1 y.1+wt2 y.2):=fun enc w n cs xs hm hl hx hb=>by
 cases xs with
 | nil=>cases hl
 | cons x xs =>
  have h0:=hx 0 f rfl
  simp only [List.getElem?_cons_zero] at h0
  simp only [List.map_cons] at hb
  rw [B.cons] at hb
  obtain ⟨a,g1,g2,g5⟩:=h1.2 enc w n _ x hm h0 (by omega)
  obtain ⟨b,g3,g4,g6⟩:=h2 enc w n cs xs hm (by simpa using hl) (fun i f' hf=>by have:=hx (i+1) f' (by simpa using hf);simpa using this) (by omega)
  rw [← h1.1] at g1
  refine ⟨(a,b),⟨_,_,?_,g1,g3⟩,⟨g2,g4⟩,by simp only [List.map_cons];rw [B.cons];omega⟩
  rw [ho,← List.drop_drop]
  exact List.take_add
theorem RdbW.struct {m:Nat} {α β:Type} {f:α→β} {g:β→α} {R:TRep β} {ok:β→Prop} {wt:β→Nat} {fs:List Field} (hu:P.underlying t=some (.struct fs.toArray)) (hc:P.cellsOf t=R.sz) (hfg:∀ y,f (g y)=y) (h:RdFW P B m fs 0 R ok wt) :
    RdbW P B (m+1) t (rM f R) (fun x=>ok (f x)) (fun x=>wt (f x)+1):=⟨hc.symm,fun enc w fuel cs x hm hx hb=>by
  obtain ⟨xs,n,hn2,rfl,hl,hn,hf⟩:=DataW.trod_struct hu hx
  simp only at hb
  rw [B.agg] at hb
  obtain ⟨y,h1,h2,h3⟩:=h enc w n cs xs (by omega) (by simpa using hn) (fun i f' hi=>hf i f' (by simpa using hi)) (by omega)
  rw [List.drop_zero,← hc,← hl,List.take_length] at h1
  refine ⟨g y,?_,?_,?_⟩
  · show R.rep _ _ (f (g y)) cs
    rw [hfg];exact h1
  · show ok (f (g y));rw [hfg];exact h2
  · show wt (f (g y))+1≤B.f (DataW.agg (xs.map (·.1)));rw [hfg,B.agg];omega⟩
end
end Go.Kx
end
section
namespace Go.Kx
variable [LxP]
theorem clear_ok {α:Type} {P:Program} {t ty:TypeId} {td:TD} (ok:TD.Ok P t td) (hk:Nat.beq td.kd 6=true) {R:TRep α} (hR:td.es=R.sz) {F:FSet} {w:World} {xs:List α} {v zv:Value} {l h:Option Int} {p:Nat × Nat} {z:α} {ns:List Value}
  (ho:OwnR R F w xs v) (hp:bnd l h xs.length=some p) (hzv:∀ w,(zeroValue td.el).run P w=.ok zv w) (hns:(Builtin.zeroCells zv.cells (p.2-p.1)).toList=ns) (hrow:RowL R F w (List.replicate (p.2-p.1) z) ns)
  (hone:∀ u∈ns,u.oneCell'=true) (hF:∀ b,blockOf v=some b→¬ F b) :
  ∃ w',(Builtin.clear_ #[t] ty #[vwf l h R.sz v]).run P w=.ok (.tuple #[]) w'∧OwnR R F w' (xs.take p.1++List.replicate (p.2-p.1) z++xs.drop p.2) v∧w'.os=w.os∧w'.tape=w.tape∧Oq w w'∧w.heap.size≤w'.heap.size ∧
   (∀ b,blockOf v≠some b→w'.heap[b]? = w.heap[b]?):=by
 obtain ⟨i,hu,hi,hsz,_⟩:=ok.slc hk
 obtain ⟨q1,q2,q3,q4⟩:=bnd_ok hp
 obtain ⟨hp1,hp2⟩:=bnd_hi hp
 have hle:p.1≤p.2:=by rw [q4];simp;omega
 have hle2:p.2≤xs.length:=by rw [q4];simp;omega
 by_cases hn0:p.2-p.1=0
 ·have e12:p.2=p.1:=by omega
  refine ⟨w,?_,by rw [hn0,e12];simpa using ho,rfl,rfl,.m,Nat.le_refl _,fun _ _=>rfl⟩
  obtain ⟨a,c,hv⟩:=OwnR_len ho
  have hcl:∃ a' c',vwf l h R.sz v=.slice a' 0 c':=by
   rw [hv,vwf_slice,← hp1,← hp2,hn0]
   exact ⟨_,_,rfl⟩
  obtain ⟨a',c',hcl⟩:=hcl
  rw [hcl]
  cases a'<;>simp [Builtin.clear_,run_underlying' hu]
 ·rcases ho with ⟨rfl,rfl⟩ | ⟨b,off,cap,arr,el,fz,rfl,hc,hs,ht,hh,hr⟩
  ·simp at hle2
   exact absurd (by omega) hn0
  ·have hcapne:cap≠p.1:=fun e=>by omega
   have hcl:vwf l h R.sz (.slice (some ⟨b,off,none⟩) xs.length cap)=.slice (some ⟨b,off+p.1 * R.sz,none⟩) (p.2-p.1) (cap-p.1):=by
    rw [vwf_slice,← hp1,← hp2]
    simp [hcapne,addr_add]
   have hvl:ns.length=(p.2-p.1) * R.sz:=by rw [hrow.1,List.length_replicate]
   have hcapmul:p.2 * R.sz≤cap * R.sz:=Nat.mul_le_mul_right _ (by omega)
   have hsum:p.1 * R.sz+(p.2-p.1) * R.sz=p.2 * R.sz:=by rw [← Nat.add_mul];congr 1;omega
   have hst:=run_storeCells_thaw (P:=P) b (off+p.1 * R.sz) el fz ns 0 arr w hh ht (by rw [hvl];omega) hone
   let arr':=(arr.toList.take (off+p.1 * R.sz+0)++ns++arr.toList.drop (off+p.1 * R.sz+0+ns.length)).toArray
   have hsize:arr'.size=arr.size:=by
    simp only [arr',List.size_toArray,List.length_append,List.length_take,List.length_drop,Array.length_toList]
    omega
   have hg:Grow F w F (w.setRow b arr'):=⟨fun _ h=>h,fun b' hb'=>setRow_other w b b' _ (fun e=>hF b rfl (e ▸ hb'))⟩
   obtain ⟨ms,hms,hmc,_⟩:=hr.cellsOf
   have hnew:RowL R F (w.setRow b arr') (xs.take p.1++List.replicate (p.2-p.1) z++xs.drop p.2) (ms.take (p.1 * R.sz)++ns++ms.drop (p.2 * R.sz)) :=
    ((((hms.take (by omega)).append hrow).append (hms.drop _)).mono hg)
   have hmsl:(ms.take (p.1 * R.sz)).length=p.1 * R.sz:=by
    rw [List.length_take,hms.1];exact Nat.min_eq_left (Nat.mul_le_mul_right _ (by omega))
   have hcell:∀ (j:Nat) u,(ms.take (p.1 * R.sz)++ns++ms.drop (p.2 * R.sz))[j]? = some u→arr'[off+j]? = some u:=by
    intro j u hj
    have hal:arr.toList.length=arr.size:=Array.length_toList
    simp only [arr',List.getElem?_toArray,Nat.add_zero]
    rw [List.append_assoc] at hj ⊢
    have htl:(arr.toList.take (off+p.1 * R.sz)).length=off+p.1 * R.sz:=by rw [List.length_take,hal];omega
    by_cases hj1:j < p.1 * R.sz
    ·rw [List.getElem?_append_left (by rw [hmsl];exact hj1),List.getElem?_take,if_pos hj1] at hj
     rw [List.getElem?_append_left (by rw [htl];omega),List.getElem?_take,if_pos (by omega)]
     have:=hmc j u hj
     simpa using this
    ·rw [List.getElem?_append_right (by rw [hmsl];omega),hmsl] at hj
     rw [List.getElem?_append_right (by rw [htl];omega),htl]
     have e2:off+j-(off+p.1 * R.sz)=j-p.1 * R.sz:=by omega
     rw [e2]
     by_cases hj2:j-p.1 * R.sz < (p.2-p.1) * R.sz
     ·rw [List.getElem?_append_left (by rw [hvl];exact hj2)] at hj ⊢
      exact hj
     ·rw [List.getElem?_append_right (by rw [hvl];omega),hvl] at hj ⊢
      rw [List.getElem?_drop] at hj ⊢
      have e3:p.2 * R.sz+(j-p.1 * R.sz-(p.2-p.1) * R.sz)=j:=by omega
      rw [e3] at hj
      have e4:off+p.1 * R.sz+(p.2-p.1) * R.sz+(j-p.1 * R.sz-(p.2-p.1) * R.sz)=off+j:=by omega
      rw [e4]
      have:=hmc j u hj
      simpa using this
   have hlen:(xs.take p.1++List.replicate (p.2-p.1) z++xs.drop p.2).length=xs.length:=by simp;omega
   refine ⟨w.setRow b arr',?_,.inr ⟨b,off,cap,arr',el,fz,by rw [hlen],by rw [hlen];exact hc,by rw [hsize];exact hs,by rw [hsize];exact ht,setRow_heap w b arr _ el fz hh,hnew.row hcell⟩,rfl,rfl,.m,by simp,fun b' hb'=>setRow_other w b b' _ (fun e=>hb' (by rw [e];rfl))⟩
   rw [hcl]
   obtain ⟨m,hm⟩:∃ m,p.2-p.1=m+1:=⟨p.2-p.1-1,by omega⟩
   rw [hm] at hns ⊢
   simp only [Nat.add_zero] at hst
   simp [Builtin.clear_,run_underlying' hu,hzv,hns,hst,arr']
section
variable {X:Ctx} {s:St} {ops:Array Oper} {todo:Act→World→Prop} {tt:List (Nat × TD)}
def clL {α:Type} (z:α) (xs:List α) (l h:Option Int):Option (List α):=(bnd l h xs.length).map fun p=>xs.take p.1++List.replicate (p.2-p.1) z++xs.drop p.2
structure ZeroR {α:Type} (P:Program) (R:TRep α) (el:TypeId) (z:α) (zv:Value):Prop where
 run:∀ w,(zeroValue el).run P w=.ok zv w
 row:∀ n F w,RowL R F w (List.replicate n z) (Builtin.zeroCells zv.cells n).toList
 one:∀ n,∀ u∈(Builtin.zeroCells zv.cells n).toList,u.oneCell'=true
theorem WPr.clr {α:Type} {R:TRep α} (htt:TTOk X.P tt) {i:Nat} {rest:List Nat} {o:Oper} {t:TypeId} {td:TD} {x:Operand} {k K:Nat} {fr:Bool} {xs r:List α} {l h:Option Int} {z:α} {zv:Value}
  (hz:clL z xs l h=some r) (hZ:ZeroR X.P R td.el z zv) (ho:ops[i]? = some o) (hg:guardV ops s.L o=some true) (hop:o.op=.call { callee:=.builtin .clear,args:=#[x],argTypes:=#[t] }) (hd:o.dst=none)
  (hx:evalO s.L x=some (.c (.sl K))) (hV:look s.V K=some (.vw k l h R.sz)∨(K=k∧l=none∧h=none)) (hm:look s.M k=some (.own R xs fr)) (ht:look tt t=some td)
  (hc:(Nat.beq td.kd 6 && Nat.beq td.es R.sz)=true)
  (kk:WPr X ops rest todo ⟨s.L,(k,.own R r fr)::s.M,s.V,s.nx⟩):WPr X ops (i::rest) todo s:=by
 refine WPr.op ho hg (fun E F w a hs=>?_) kk
 simp only [Bool.and_eq_true] at hc
 obtain ⟨c2,c3⟩:=hc
 obtain ⟨e1,_⟩:=hs.eval hx
 have hmf:=hs.mF k _ hm
 have hown:OwnR R F w xs (E.ρ k):=hs.hM k _ hm
 have hvw:E.ρ K=vwf l h R.sz (E.ρ k):=by
  rcases hV with h | ⟨rfl,rfl,rfl⟩
  ·exact hs.hV K _ h
  ·obtain ⟨b,c,hv⟩:=OwnR_len hown
   rw [hv]
   rw [vwf_slice]
   simp only [hiN,Option.getD_none,Int.toNat_zero,Nat.sub_zero,Nat.zero_mul]
   cases b with
   | none=>simp
   | some b =>
    have:b.add 0=b:=by unfold Addr.add;simp
    simp [this]
 unfold clL at hz
 rw [Option.map_eq_some_iff] at hz
 obtain ⟨p,hp,rfl⟩:=hz
 obtain ⟨w',hrun,how,g1,g2,g3,g4,g5⟩:=clear_ok (ty:=o.type) (htt.get ht) c2 (Nat.eq_of_beq_eq_true c3) hown hp hZ.run rfl (hZ.row _ _ _) (hZ.one _) (fun b hb=>(hmf b hb).1)
 refine wp_value (v:=.tuple #[]) (w':=w') (exec_call_builtin hop ?_) ?_
 ·simp only [List.map_toArray,List.map_cons,List.map_nil,e1,denV]
  have:den E (.sl K)=vwf l h R.sz (E.ρ k):=hvw
  rw [this]
  exact exec_v hrun
 ·have s1:=hs.setM (m':=.own R (xs.take p.1++List.replicate (p.2-p.1) z++xs.drop p.2) fr) hm g1 g2 g3 g4 (fun b _ hne=>g5 b (fun e=>hne e)) (fun b hb=>hb) how trivial (fun h=>h)
  rw [hd]
  exact ⟨E,F,s1⟩
end
end Go.Kx
end
section
namespace Go.Kx
variable [LxP]
theorem zeroR_str {P:Program} {el:TypeId} {te:TD} (h:TD.Ok P el te) {z:ByteArray} (hz:te.z=[.s z]):∃ zv,ZeroR P rS el z zv:=by
 obtain ⟨i,zv,h1,_,_,h4,h5⟩:=h.info
 have hc:zv.cells=#[.string z]:=by
  have:=h5 ⟨fun _=>.bool true,fun _=>0⟩
  rw [hz] at this
  simpa [den] using this
 have hl:∀ n,(Builtin.zeroCells zv.cells n).toList=List.replicate n (.string z):=by
  intro n
  unfold Builtin.zeroCells
  rw [hc]
  apply List.ext_getElem?
  intro j
  rw [Array.getElem?_toList,Array.getElem?_map,List.getElem?_replicate]
  by_cases hj:j < n
  ·rw [if_pos hj,Array.getElem?_eq_getElem (by simpa using hj)]
   simp [Nat.mod_one]
  ·rw [if_neg hj,Array.getElem?_eq_none (by simpa using hj)]
   rfl
 refine ⟨zv,?_,?_,?_⟩
 ·intro w
  simp [zeroValue,typeInfo,h1,h4]
 ·intro n F w
  rw [hl]
  refine ⟨by simp [rS],fun j x hx=>?_⟩
  rw [List.getElem?_replicate] at hx
  split at hx
  ·cases hx
   rename_i hj
   refine ⟨[.string z],rfl,fun k v hk=>?_⟩
   cases k with
   | succ k=>simp at hk
   | zero =>
    simp only [List.getElem?_cons_zero,Option.some.injEq] at hk
    subst hk
    show (List.replicate n (Value.string z))[j * 1+0]? = _
    rw [List.getElem?_replicate,if_pos (by omega)]
  ·cases hx
 ·intro n u hu
  rw [hl] at hu
  rw [List.eq_of_mem_replicate hu];rfl
section
variable {X:Ctx} {tt:List (Nat × TD)}
def dCe (r:List ByteArray) (c:Cf):Dl:=⟨[],[((elK (look (vwC c).V (keyV (argV c 0)))),.own rS r (fwM (look (vwC c).M (elK (look (vwC c).V (keyV (argV c 0)))))))],[],0⟩
def nCe (r:List ByteArray) (c:Cf):Cf:=goC (dCe r c) c
theorem eCe {xs:List ByteArray} {lo hi:Option Int} {r:List ByteArray} {c:Cf} (htt:TTOk X.P tt) (hz:clL (str []) xs lo hi=some r) (k:Wc X (nCe r c))
  (hp:(rdyB c,(opC c).dst,(opC c).op,argV c 0,look (vwC c).M (elK (look (vwC c).V (keyV (argV c 0)))),look tt (tyO (opC c).op),(Nat.beq (tdO tt (tyO (opC c).op)).kd 6 && Nat.beq (tdO tt (tyO (opC c).op)).es 1),look (vwC c).V (keyV (argV c 0)),look tt (tdO tt (tyO (opC c).op)).el,(tdO tt (tdO tt (tyO (opC c).op)).el).z) =
   (true,none,.call { callee:=.builtin .clear,args:=#[argO (opC c).op 0],argTypes:=#[tyO (opC c).op] },some (.c (.sl (keyV (argV c 0)))),some (.own rS xs (fwM (look (vwC c).M (elK (look (vwC c).V (keyV (argV c 0))))))),some (tdO tt (tyO (opC c).op)),true,some (.vw (elK (look (vwC c).V (keyV (argV c 0)))) lo hi 1),some (tdO tt (tdO tt (tyO (opC c).op)).el),[.s (str [])]):=by kernel_rfl):Wc X c:=by
 simp only [Prod.mk.injEq] at hp
 obtain ⟨h1,h2,h3,h4,h5,h6,h7,h8,h9,h10⟩:=hp
 obtain ⟨zv,hZ⟩:=zeroR_str (htt.get h9) h10
 refine Wc.ev (d:=dCe r c) h1 (by rw [h2];rfl) (fun nk E0 F0 w0 n0 Z rest K ho hg h=>WPr.clr (X:=X.var nk E0 F0 w0 n0 Z) (R:=rS) htt hz hZ ho hg h3 h2 h4 (.inl h8) h5 h6 h7 h) k
end
end Go.Kx
end
section
namespace Go.Kx
open Go.Proofs
def txs (xs:List ByteArray):List (List UInt8):=xs.map (·.data.toList)
theorem encStr_txt (x:ByteArray):encStr x.data.toList=.string x:=by
 show Value.string ⟨x.data.toList.toArray⟩=.string x
 rw [Array.toArray_toList]
theorem heap_rowS {w:World} {blk off n:Nat} {D:List (List UInt8)} {os:Array Obj} {arr:Array Value} {el:TypeId} {fz:Nat × Nat} (hb:w.heap[blk]? = some (.cells arr el fz)) :
  (Go.Sort.grow (Go.Sort.putRow encStr (Go.Sort.ahead w n) blk off D.toArray) os).heap[blk]? = some (.cells (Go.Sort.putCells encStr off D.toArray arr) el fz):=by
 have hlt:blk < w.heap.size:=(Array.getElem?_eq_some_iff.1 hb).1
 rw [Go.Sort.heap_grow_old _ _ (by simpa [Go.Sort.putRow,Go.Sort.mapBlock,Go.Sort.ahead] using hlt)]
 simp [Go.Sort.putRow,Go.Sort.mapBlock,Go.Sort.ahead,Array.getElem?_modify,hb,Go.Sort.onCells]
theorem heap_rowS' {w:World} {blk off n b:Nat} {D:List (List UInt8)} {os:Array Obj} (hb:b < w.heap.size) (hne:b≠blk) :
  (Go.Sort.grow (Go.Sort.putRow encStr (Go.Sort.ahead w n) blk off D.toArray) os).heap[b]? = w.heap[b]? := by
 rw [Go.Sort.heap_grow_old _ _ (by simpa [Go.Sort.putRow,Go.Sort.mapBlock,Go.Sort.ahead] using hb)]
 have:¬ blk=b:=fun e=>hne e.symm
 simp [Go.Sort.putRow,Go.Sort.mapBlock,Go.Sort.ahead,Array.getElem?_modify,this]
theorem size_rowS {w:World} {blk off n:Nat} {D:List (List UInt8)} {os:Array Obj}:w.heap.size≤(Go.Sort.grow (Go.Sort.putRow encStr (Go.Sort.ahead w n) blk off D.toArray) os).heap.size:=by
 simp [Go.Sort.grow,Go.Sort.putRow,Go.Sort.mapBlock,Go.Sort.ahead]
theorem holdsS {F:FSet} {w:World} {xs:List ByteArray} {b off cap:Nat} {arr:Array Value} {el:TypeId} {fz:Nat × Nat} (hc:xs.length≤cap) (ha:off+cap * rS.sz≤arr.size) (ht:ThawAt fz arr.size)
  (hh:w.heap[b]? = some (.cells arr el fz)) (hr:Row rS F w xs arr off):Go.Sort.Holds encStr w b off (txs xs).toArray:=by
 intro j hj
 have hj':j < xs.length:=by simpa [txs] using hj
 obtain ⟨vs,h1,h2⟩:=hr j xs[j] (List.getElem?_eq_getElem hj')
 have h1:vs=[.string xs[j]]:=h1
 subst h1
 have h3:=h2 0 _ rfl
 have ha:off+cap≤arr.size:=by simpa [rS] using ha
 refine ⟨?_,?_⟩
 ·unfold World.cell?
  rw [hh]
  have:(txs xs).toArray[j]! = xs[j].data.toList:=by
   rw [getElem!_pos _ j hj];simp [txs]
  show arr[off+j]? = some (encStr _)
  rw [this,encStr_txt]
  simpa [rS] using h3
 ·unfold World.frozen?
  rw [hh]
  exact ht (off+j) (by omega)
theorem ownS {F:FSet} {w:World} {ds:List ByteArray} {D:List (List UInt8)} {b off cap n:Nat} {os:Array Obj} {arr:Array Value} {el:TypeId} {fz:Nat × Nat} (hD:∀ (i:Nat) x,ds[i]? = some x→D[i]? = some x.data.toList) (hc:D.length≤cap) (hc2:ds.length≤cap)
  (ha:off+cap * rS.sz≤arr.size) (ht:ThawAt fz arr.size) (hh:w.heap[b]? = some (.cells arr el fz)) :
  OwnR rS F (Go.Sort.grow (Go.Sort.putRow encStr (Go.Sort.ahead w n) b off D.toArray) os) ds (.slice (some ⟨b,off,none⟩) ds.length cap):=by
 refine .inr ⟨b,off,cap,Go.Sort.putCells encStr off D.toArray arr,el,fz,rfl,hc2,by simpa [Go.Sort.putCells] using ha,by simpa [Go.Sort.putCells] using ht,heap_rowS hh,fun i x hx=>⟨[.string x],rfl,fun j v hj=>?_⟩⟩
 cases j with
 | succ j=>simp at hj
 | zero =>
  simp only [List.getElem?_cons_zero,Option.some.injEq] at hj
  subst hj
  have hi:=hD i x hx
  have hiD:i < D.length:=(List.getElem?_eq_some_iff.1 hi).1
  have ha:off+cap≤arr.size:=by simpa [rS] using ha
  have hlt:off+i * 1+0 < arr.size:=by omega
  show (Go.Sort.putCells encStr off D.toArray arr)[off+i * 1+0]? = _
  unfold Go.Sort.putCells
  rw [Array.getElem?_mapIdx,Array.getElem?_eq_getElem hlt]
  have h1:off≤off+i * 1+0∧off+i * 1+0 < off+D.toArray.size:=⟨by omega,by simp;omega⟩
  have h2:off+i * 1+0-off=i:=by omega
  have h3:D.toArray[i]! = x.data.toList:=by
   rw [getElem!_pos _ i (by simpa using hiD)]
   have:=(List.getElem?_eq_some_iff.1 hi).2
   simpa using this
  simp only [Option.map_some,h1,and_self,if_true,h2,h3,encStr_txt]
variable [LxP]
theorem mutFn {P:Program} {f:FuncId} {xs ds:List ByteArray} (hcal:Callable P f) (hlen:ds.length=xs.length)
  (hrun:∀ b off cap w,Go.Sort.Holds encStr w b off (txs xs).toArray→b < w.heap.size→xs.length≤cap→Calls P f #[.slice (some ⟨b,off,none⟩) xs.length cap] w fun e w'=>e=.returned (.tuple #[])∧∃ n os,w'=Go.Sort.grow (Go.Sort.putRow encStr (Go.Sort.ahead w n) b off (txs ds).toArray) os)
  (hnone:xs=[]→∀ p cap w,Calls P f #[.slice p 0 cap] w fun e w'=>e=.returned (.tuple #[])∧w'=w) :
  Fn P f ⟨1,[.c (.sl 0)],[],[(0,.own rS xs false)],1,.t [],[],[(0,.own rS ds false)]⟩:=by
 refine ⟨hcal,fun E F w hp=>?_⟩
 have hown:OwnR rS F w xs (E.ρ 0):=hp.M 0 (.own rS xs false) rfl
 have hfp:=hp.mF 0 (.own rS xs false) rfl
 have fin:∀ w',OwnR rS F w' ds (E.ρ 0)→Ext (fun b=>b < w.heap.size∧¬ Ct.fp0 ⟨1,[.c (.sl 0)],[],[(0,.own rS xs false)],1,.t [],[],[(0,.own rS ds false)]⟩ E b) w w' →
   Ct.Post ⟨1,[.c (.sl 0)],[],[(0,.own rS xs false)],1,.t [],[],[(0,.own rS ds false)]⟩ E F w E F w':=fun w' ho hx=>{
  env:=Env.Eqb.refl _ _
  one:=hp.one
  V:=fun k f h=>nomatch h
  M:=fun k m h=>by
   rw [look_cons] at h;split at h
   ·rename_i e;cases h;subst e;exact ho
   ·cases h
  dis:=fun k k' m m' h h' hne=>by
   rw [look_cons] at h h';split at h
   ·split at h'
    ·rename_i e1 e2;exact absurd (e1.symm.trans e2) hne
    ·cases h'
   ·cases h
  mF:=fun k m h b hb=>by
   rw [look_cons] at h;split at h
   ·rename_i e;cases h;subst e
    exact ⟨(hfp b hb).1,Nat.lt_of_lt_of_le (hfp b hb).2 hx.size,.inl ⟨0,_,rfl,hb⟩⟩
   ·cases h
  fresh:=fun k m h hf=>by
   rw [look_cons] at h;split at h
   ·cases h;cases hf
   ·cases h
  F0:=fun _ h=>h
  F1:=fun _ h=>.inl h
  Fs:=fun b h=>Nat.lt_of_lt_of_le (hp.hF b h) hx.size
  ext:=hx }
 show Calls P f #[E.ρ 0] w _
 by_cases hne:xs=[]
 ·have hd:ds=[]:=List.eq_nil_of_length_eq_zero (by rw [hlen,hne];rfl)
  have hr:∃ p cap,E.ρ 0=.slice p 0 cap:=by
   rcases hown with ⟨_,h⟩ | ⟨b,off,cap,_,_,_,h,_⟩
   ·exact ⟨_,_,h⟩
   ·rw [hne] at h;exact ⟨_,_,h⟩
  obtain ⟨p,cap,hr⟩:=hr
  have:=hnone hne p cap w
  rw [← hr] at this
  refine this.mono ?_
  rintro e w' ⟨rfl,rfl⟩
  exact ⟨E,F,rfl,fin _ (by rw [hd,← hne];exact hown) (Ext.refl _ _)⟩
 ·rcases hown with ⟨h,_⟩ | ⟨b,off,cap,arr,el,fz,hv,hc,ha,ht,hh,hr⟩
  ·exact absurd h hne
  ·have hb:b < w.heap.size:=(Array.getElem?_eq_some_iff.1 hh).1
   have:=hrun b off cap w (holdsS hc ha ht hh hr) hb hc
   rw [← hv] at this
   refine this.mono ?_
   rintro e w' ⟨rfl,n,os,rfl⟩
   refine ⟨E,F,rfl,fin _ ?_ ⟨rfl,rfl,⟨rfl,.inr (Nat.le_add_right _ _)⟩,size_rowS,fun b' hb'=>heap_rowS' hb'.1 fun e=>hb'.2 ⟨0,_,rfl,?_⟩⟩⟩
   ·rw [hv,← hlen]
    exact ownS (fun i x hx=>by simp [txs,hx]) (by simp [txs];omega) (by omega) ha ht hh
   ·show blockOf (E.ρ 0)=some b'
    rw [hv,e];rfl
theorem takeFn {P:Program} {f:FuncId} {xs ds:List ByteArray} (hcal:Callable P f) (hlen:ds.length≤xs.length)
  (hrun:∀ b off cap w,Go.Sort.Holds encStr w b off (txs xs).toArray→b < w.heap.size→xs.length≤cap→Calls P f #[.slice (some ⟨b,off,none⟩) xs.length cap] w fun e w'=>e=.returned (.slice (some ⟨b,off,none⟩) ds.length cap)∧∃ n os,∃ D:List (List UInt8),w'=Go.Sort.grow (Go.Sort.putRow encStr (Go.Sort.ahead w n) b off D.toArray) os∧D.length≤xs.length∧∀ (i:Nat) x,ds[i]? = some x→D[i]? = some x.data.toList)
  (hnone:xs=[]→∀ p cap w,Calls P f #[.slice p 0 cap] w fun e w'=>e=.returned (.slice p 0 cap)∧w'=w) :
  Fn P f ⟨1,[.c (.sl 0)],[],[(0,.own rS xs false)],2,.c (.sl 1),[],[(1,.own rS ds false),(0,.gone)]⟩:=by
 refine ⟨hcal,fun E F w hp=>?_⟩
 have hown:OwnR rS F w xs (E.ρ 0):=hp.M 0 (.own rS xs false) rfl
 have hfp:=hp.mF 0 (.own rS xs false) rfl
 have fin:∀ v w',(∀ b,blockOf v=some b→blockOf (E.ρ 0)=some b)→OwnR rS F w' ds v→Ext (fun b=>b < w.heap.size∧¬ Ct.fp0 ⟨1,[.c (.sl 0)],[],[(0,.own rS xs false)],2,.c (.sl 1),[],[(1,.own rS ds false),(0,.gone)]⟩ E b) w w' →
   ∃ E' F',v=denV E' (.c (.sl 1))∧Ct.Post ⟨1,[.c (.sl 0)],[],[(0,.own rS xs false)],2,.c (.sl 1),[],[(1,.own rS ds false),(0,.gone)]⟩ E F w E' F' w':=fun v w' hbl ho hx=>by
  have hv:(E.setρ 1 v).ρ 1=v:=by simp [Env.setρ]
  refine ⟨E.setρ 1 v,F,by show v=(E.setρ 1 v).ρ 1;rw [hv],{
   env:=E.eqb_setρ _ _ _ (Nat.le_refl _)
   one:=fun k=>by
    simp only [Env.setρ];split
    ·exact OwnR_one ho
    ·exact hp.one k
   V:=fun k f h=>nomatch h
   M:=fun k m h=>by
    rw [look_cons] at h;split at h
    ·rename_i e;cases h;subst e
     show OwnR rS F w' ds ((E.setρ 1 v).ρ 1)
     rw [hv];exact ho
    ·rw [look_cons] at h;split at h
     ·cases h;trivial
     ·cases h
   dis:=fun k k' m m' h h' hne=>by
    rw [look_cons] at h h';split at h
    ·split at h'
     ·rename_i e1 e2;exact absurd (e1.symm.trans e2) hne
     ·rw [look_cons] at h';split at h'
      ·cases h';exact fun b _ hb=>hb
      ·cases h'
    ·rw [look_cons] at h;split at h
     ·cases h;exact fun b hb=>hb.elim
     ·cases h
   mF:=fun k m h b hb=>by
    rw [look_cons] at h;split at h
    ·rename_i e;cases h;subst e
     have hb:blockOf ((E.setρ 1 v).ρ 1)=some b:=hb
     rw [hv] at hb
     have hb0:=hbl b hb
     exact ⟨(hfp b hb0).1,Nat.lt_of_lt_of_le (hfp b hb0).2 hx.size,.inl ⟨0,_,rfl,hb0⟩⟩
    ·rw [look_cons] at h;split at h
     ·cases h;exact hb.elim
     ·cases h
   fresh:=fun k m h hf=>by
    rw [look_cons] at h;split at h
    ·cases h;cases hf
    ·rw [look_cons] at h;split at h
     ·cases h;cases hf
     ·cases h
   F0:=fun _ h=>h
   F1:=fun _ h=>.inl h
   Fs:=fun b h=>Nat.lt_of_lt_of_le (hp.hF b h) hx.size
   ext:=hx }⟩
 show Calls P f #[E.ρ 0] w _
 by_cases hne:xs=[]
 ·have hd:ds=[]:=List.eq_nil_of_length_eq_zero (by rw [hne] at hlen;simpa using hlen)
  have hr:∃ p cap,E.ρ 0=.slice p 0 cap:=by
   rcases hown with ⟨_,h⟩ | ⟨b,off,cap,_,_,_,h,_⟩
   ·exact ⟨_,_,h⟩
   ·rw [hne] at h;exact ⟨_,_,h⟩
  obtain ⟨p,cap,hr⟩:=hr
  have:=hnone hne p cap w
  rw [← hr] at this
  refine this.mono ?_
  rintro e w' ⟨rfl,rfl⟩
  obtain ⟨E',F',h1,h2⟩:=fin _ _ (fun b h=>h) (by rw [hd,← hne];exact hown) (Ext.refl _ _)
  exact ⟨E',F',congrArg _ h1,h2⟩
 ·rcases hown with ⟨h,_⟩ | ⟨b,off,cap,arr,el,fz,hv,hc,ha,ht,hh,hr⟩
  ·exact absurd h hne
  ·have hb:b < w.heap.size:=(Array.getElem?_eq_some_iff.1 hh).1
   have:=hrun b off cap w (holdsS hc ha ht hh hr) hb hc
   rw [← hv] at this
   refine this.mono ?_
   rintro e w' ⟨rfl,n,os,D,rfl,hD1,hD2⟩
   obtain ⟨E',F',h1,h2⟩:=fin _ _ (fun b' h=>by rw [hv];exact h) (ownS hD2 (by omega) (by omega) ha ht hh) ⟨rfl,rfl,⟨rfl,.inr (Nat.le_add_right _ _)⟩,size_rowS,fun b' hb'=>heap_rowS' hb'.1 fun e=>hb'.2 ⟨0,_,rfl,(by show blockOf (E.ρ 0)=some b';rw [hv,e];rfl)⟩⟩
   exact ⟨E',F',congrArg _ h1,h2⟩
end Go.Kx
end
section
namespace Go.Kx
def mkT (l:List UInt8):ByteArray:=⟨l.toArray⟩
theorem mkT_txt (x:ByteArray):mkT x.data.toList=x:=by
 unfold mkT
 rw [Array.toArray_toList]
theorem txt_mkT (l:List UInt8):(mkT l).data.toList=l:=by simp [mkT]
theorem txs_map (l:List (List UInt8)):txs (l.map mkT)=l:=by
 unfold txs
 rw [List.map_map]
 conv=>rhs;rw [← List.map_id l]
 exact List.map_congr_left fun x _=>txt_mkT x
theorem map_txs (xs:List ByteArray):(txs xs).map mkT=xs:=by
 unfold txs
 rw [List.map_map]
 conv=>rhs;rw [← List.map_id xs]
 exact List.map_congr_left fun x _=>mkT_txt x
def sortS (xs:List ByteArray):List ByteArray:=bif Nat.ble xs.length 1 then xs else ((txs xs).mergeSort fun x y=>decide (x≤y)).map mkT
theorem txs_sortS (xs:List ByteArray):txs (sortS xs)=(txs xs).mergeSort fun x y=>decide (x≤y):=by
 unfold sortS
 match xs with
 | []=>simp [txs]
 | [x]=>show txs [x]=_;simp [txs]
 | x::y::r =>
  have:Nat.ble (x::y::r).length 1=false:=by
   cases h:Nat.ble (x::y::r).length 1 with
   | false=>rfl
   | true=>have:=Nat.le_of_ble_eq_true h;simp at this
  rw [this,cond_false,txs_map]
theorem sortS_perm (xs:List ByteArray):(sortS xs).Perm xs:=by
 have h:=(List.mergeSort_perm (txs xs) fun x y=>decide (x≤y)).map mkT
 rw [← txs_sortS,map_txs,map_txs] at h
 exact h
theorem sortS_len (xs:List ByteArray):(sortS xs).length=xs.length:=(sortS_perm xs).length_eq
def compS (xs:List ByteArray):List ByteArray:=bif Nat.ble xs.length 1 then xs else (Go.Lib.compact (txs xs)).map mkT
theorem txs_compS (xs:List ByteArray):txs (compS xs)=Go.Lib.compact (txs xs):=by
 unfold compS
 match xs with
 | []=>rfl
 | [x] =>
  show txs [x]=_
  rw [Go.Lib.compact_all]
  intro j hj
  exact Go.Lib.keeps_lt_one _ j (by simpa [txs] using hj)
 | x::y::r =>
  have:Nat.ble (x::y::r).length 1=false:=by
   cases h:Nat.ble (x::y::r).length 1 with
   | false=>rfl
   | true=>have:=Nat.le_of_ble_eq_true h;simp at this
  rw [this,cond_false,txs_map]
theorem compact_len {α:Type} [Inhabited α] [DecidableEq α] (zs:List α):(Go.Lib.compact zs).length≤zs.length:=by
 unfold Go.Lib.compact Go.Lib.compactUpTo
 rw [List.length_map]
 refine Nat.le_trans (List.length_filter_le _ _) ?_
 simp
theorem compS_len (xs:List ByteArray):(compS xs).length≤xs.length:=by
 have h:=compact_len (txs xs)
 rw [← txs_compS] at h
 simpa [txs] using h
theorem mem_compact {α:Type} [Inhabited α] [DecidableEq α] (zs:List α) (x:α):x∈Go.Lib.compact zs↔x∈zs:=by
 unfold Go.Lib.compact Go.Lib.compactUpTo
 constructor
 ·intro h
  rw [List.mem_map] at h
  obtain ⟨j,hj,rfl⟩:=h
  have hj:=List.mem_range.1 (List.mem_filter.1 hj).1
  have:zs.toArray[j]! = zs[j]:=by rw [getElem!_pos _ j (by simpa using hj)];simp
  rw [this]
  exact List.getElem_mem hj
 ·intro h
  obtain ⟨i,hi,rfl⟩:=List.getElem_of_mem h
  rw [List.mem_map]
  have key:∀ i,∀ hi:i < zs.length,∃ j,j∈(List.range zs.length).filter (Go.Lib.keeps zs.toArray)∧zs.toArray[j]! = zs[i]:=by
   intro i
   induction i with
   | zero =>
    intro hi
    refine ⟨0,List.mem_filter.2 ⟨List.mem_range.2 hi,Go.Lib.keeps_lt_one _ 0 (by omega)⟩,?_⟩
    rw [getElem!_pos _ 0 (by simpa using hi)];simp
   | succ i ih =>
    intro hi
    by_cases hk:Go.Lib.keeps zs.toArray (i+1)=true
    ·refine ⟨i+1,List.mem_filter.2 ⟨List.mem_range.2 hi,hk⟩,?_⟩
     rw [getElem!_pos _ (i+1) (by simpa using hi)];simp
    ·have he:zs.toArray[i+1]! = zs.toArray[i+1-1]! := by
      refine Classical.byContradiction fun hne=>hk (Go.Lib.keeps_pos hne)
     obtain ⟨j,hj,e⟩:=ih (by omega)
     refine ⟨j,hj,e.trans ?_⟩
     have e1:zs.toArray[i+1]! = zs[i+1]:=by rw [getElem!_pos _ (i+1) (by simpa using hi)];simp
     have e2:zs.toArray[i+1-1]! = zs[i]:=by
      rw [Nat.add_sub_cancel,getElem!_pos _ i (show i < zs.toArray.size by simp;omega)];simp
     rw [e1,e2] at he
     exact he.symm
  exact key i hi
theorem mem_compS (xs:List ByteArray) (x:ByteArray):x∈compS xs↔x∈xs:=by
 have h:=mem_compact (txs xs) x.data.toList
 rw [← txs_compS] at h
 have key:∀ l:List ByteArray,x.data.toList∈txs l↔x∈l:=by
  intro l
  unfold txs
  rw [List.mem_map]
  constructor
  ·rintro ⟨y,hy,e⟩
   have:mkT y.data.toList=mkT x.data.toList:=by rw [e]
   rw [mkT_txt,mkT_txt] at this
   rw [← this];exact hy
  ·exact fun h=>⟨x,h,rfl⟩
 rw [key,key] at h
 exact h
end Go.Kx
end
section
namespace Go.Kx
variable [LxP]
section
variable {X:Ctx} {s:St} {ops:Array Oper} {todo:Act→World→Prop} {tt:List (Nat × TD)}
end
end Go.Kx
end
