/- Aids for the walks, part 3: a symbolic state of the machine, and that each step of the machine keeps it. -/
import Derived.WalkKit
import Derived.ProofKit
import Derived.OpenShut
import Derived.JoinedCond
import Derived.Deep.DeepHandedRow
import Derived.KernelRfl
import Derived.Sort.AssemblyPlain
import Derived.Shelf.SlSortCmp.Insertion
import Derived.Shelf.SlSortCmp.NoneTotal
import Derived.Lib.LaidTab
import Derived.Test.YtdlhgdfjpilcjaaGreatDoorExplainWhyCore2
set_option linter.all false
section
namespace Go.Kx
variable [LxP]
open Go.ChangeShapes Go.WideShapes
structure Bulk where
 f:{H:Type}→DataW H→Nat
 all:{H:Type}→List (DataW H)→Nat
 str:∀ {H:Type} (b:List UInt8),f (.lit (.string b):DataW H)=b.length+1
 slice:∀ {H:Type} (e s:List (DataW H)),f (.slice e s)=all e+all s+1
 agg:∀ {H:Type} (l:List (DataW H)),f (.agg l)=all l+1
 nil:∀ {H:Type},all ([]:List (DataW H))=0
 cons:∀ {H:Type} (d:DataW H) l,all (d::l)=f d+all l
 one:∀ {H:Type} (d:DataW H),1≤f d
def bd:Nat:=1048576
theorem Bulk.mem (B:Bulk) {H:Type} {d:DataW H}:∀ {l:List (DataW H)},d∈l→B.f d≤B.all l
 | x::l,h=>by
  rw [B.cons]
  rcases List.mem_cons.1 h with rfl | h
  ·omega
  ·have:=B.mem h;omega
theorem Bulk.len (B:Bulk) {H:Type}:∀ (l:List (DataW H)),l.length≤B.all l
 | []=>by simp
 | x::l=>by rw [B.cons,Zg];have:=B.len l;have:=B.one x;omega
abbrev Ur (w:World):ZU:=fun b=>b < w.heap.size
def Rdb (P:Program) (B:Bulk) (t:TypeId) {α:Type} (R:TRep α) (ok:α→Prop):Prop:=R.sz=P.cellsOf t ∧
 ∀ {H:Type} (enc:TypeId × Value→H) (w:World) (fuel:Nat) (cs:List Value) (x:DataW H × List MemPlace),DataW.trod enc P w 0 (fun _=>true) true fuel t cs=some x→B.f x.1≤bd →
  ∃ a,R.rep (Ur w) w a cs∧ok a
section
variable {P:Program} {B:Bulk} {t:TypeId}
theorem Rdb.int {k:IntKind} (hu:P.underlying t=some (.int k)) (hc:P.cellsOf t=1):Rdb P B t (rI k) (fun n=>(Lit.int k n).wf=true) :=
 ⟨hc.symm,fun enc w fuel cs x h _=>by obtain ⟨n,rfl,_,hw⟩:=DataW.trod_int hu h;exact ⟨n,rfl,hw⟩⟩
theorem Rdb.bool (hu:P.underlying t=some .bool) (hc:P.cellsOf t=1):Rdb P B t rB (fun _=>True) :=
 ⟨hc.symm,fun enc w fuel cs x h _=>by obtain ⟨n,rfl,_⟩:=DataW.trod_bool hu h;exact ⟨n,rfl,trivial⟩⟩
theorem Rdb.str (hu:P.underlying t=some .string) (hc:P.cellsOf t=1):Rdb P B t rS (fun s=>s.size≤bd) :=
 ⟨hc.symm,fun enc w fuel cs x h hb=>by
  obtain ⟨n,rfl,rfl,_⟩:=DataW.trod_string hu h
  refine ⟨n,rfl,?_⟩
  rw [B.str] at hb
  have e:n.data.toList.length=n.size:=by rw [Array.length_toList];rfl
  omega⟩
theorem Zh5 {α:Type} {Q:Nat→α→Prop}:∀ {n:Nat},(∀ i,i < n→∃ x,Q i x)→∃ xs:List α,xs.length=n∧∀ i x,xs[i]? = some x→Q i x
 | 0,_=>⟨[],rfl,by simp⟩
 | n+1,h=>by
  obtain ⟨xs,hl,hx⟩:=Zh5 (n:=n) fun i hi=>h i (by omega)
  obtain ⟨y,hy⟩:=h n (by omega)
  refine ⟨xs++[y],by simp [hl],fun i x hi=>?_⟩
  rw [List.getElem?_append] at hi
  split at hi
  ·exact hx i x hi
  ·rename_i hge
   have hlt:=(List.getElem?_eq_some_iff.1 hi).1
   simp only [List.length_singleton] at hlt
   have e:i=n:=by omega
   subst e
   rw [hl,Nat.sub_self] at hi
   simp only [List.getElem?_cons_zero,Option.some.injEq] at hi
   subst hi;exact hy
theorem Rdb.slice {α:Type} {R:TRep α} {ok:α→Prop} {e:TypeId} (hu:P.underlying t=some (.slice e)) (hc:P.cellsOf t=1) (he:Rdb P B e R ok) :
    Rdb P B t (YP R) (fun xs=>xs.length≤bd∧∀ x∈xs,ok x):=⟨hc.symm,fun enc w fuel cs x h hb=>by
  rcases DataW.trod_slice hu h with ⟨rfl,_⟩ | ⟨a,len,cap,elems,rest,n,rfl,rfl,rfl,_,hlc,_,hel,hx,_⟩
  · exact ⟨[],⟨_,rfl,.inl ⟨rfl,_,_,rfl⟩⟩,by simp [bd],by simp⟩
  · simp only at hb
    rw [B.slice] at hb
    have hlen:=B.len (elems.map (·.1))
    rw [List.length_map,hel] at hlen
    have hpos:0 < P.cellsOf e:=by rw [← he.1];exact R.pos
    have key:∀ i,i < len→∃ x,∃ cs y,w.cells? 0 (a.add (i * P.cellsOf e)) (P.cellsOf e)=some cs∧elems[i]? = some y∧R.rep (Ur w) w x cs∧ok x:=fun i hi=>by
      have h1:=hx i hi
      have hlt:i < elems.length:=by omega
      rw [Za hlt,Option.bind_eq_some_iff] at h1
      obtain ⟨cs,h2,h3⟩:=h1
      have hm:elems[i].1∈elems.map (·.1):=List.mem_map.2 ⟨_,List.getElem_mem hlt,rfl⟩
      obtain ⟨x,h4,h5⟩:=he.2 enc w n cs _ h3 (by have:=B.mem hm;omega)
      exact ⟨x,cs,_,h2,Za hlt,h4,h5⟩
    obtain ⟨xs,hl,hq⟩:=Zh5 key
    have hok:∀ x∈xs,ok x:=fun x hm=>by
      obtain ⟨i,hi⟩:=List.mem_iff_getElem?.1 hm
      obtain ⟨_,_,_,_,_,h⟩:=hq i x hi
      exact h
    refine ⟨xs,⟨_,rfl,?_⟩,by omega,hok⟩
    rcases Nat.eq_zero_or_pos len with h0 | h0
    · subst h0
      have:xs=[]:=List.eq_nil_of_length_eq_zero hl
      subst this
      exact .inl ⟨rfl,_,_,rfl⟩
    · -- the block
      have hcell:∀ i j cs,i < len→w.cells? 0 (a.add (i * P.cellsOf e)) (P.cellsOf e)=some cs→j < P.cellsOf e→w.cell? ((a.add (i * P.cellsOf e)).add j)=cs[j]? := fun i j cs _ hc hj=>by
        unfold World.cells? at hc
        rw [if_pos (Nat.zero_le _)] at hc
        have:=mapM_some_get hc j j (by simp [hj])
        exact this
      have hcl:∀ i cs,w.cells? 0 (a.add (i * P.cellsOf e)) (P.cellsOf e)=some cs→cs.length=P.cellsOf e:=fun i cs hc=>by
        unfold World.cells? at hc
        rw [if_pos (Nat.zero_le _)] at hc
        simpa using mapM_some_length hc
      obtain ⟨x0,hx0⟩:∃ x0,xs[0]? = some x0:=⟨_,Za (by omega)⟩
      obtain ⟨cs0,y0,hc0,_,_,_⟩:=hq 0 x0 hx0
      have h00:=hcell 0 0 cs0 h0 hc0 hpos
      have hadd0:(a.add (0 * P.cellsOf e)).add 0=a:=by unfold Addr.add;simp
      rw [hadd0,Za (by rw [hcl 0 cs0 hc0];exact hpos)] at h00
      unfold World.cell? at h00
      split at h00
      · rename_i arr ty fz hh
        cases hsp:a.spot with
        | some s=>rw [hsp] at h00;simp at h00
        | none =>
          have ha:a=⟨a.block,a.off,none⟩:=by cases a;simp at hsp;simp [hsp]
          have hlt:a.block < w.heap.size:=(Array.getElem?_eq_some_iff.1 hh).1
          refine .inr ⟨a.block,a.off,cap,arr,ty,fz,by rw [hl,← ha],by omega,hlt,hh,fun i x hi=>?_⟩
          obtain ⟨cs,y,hcs,_,hrep,_⟩:=hq i x hi
          have hil:i < len:=by have:=(List.getElem?_eq_some_iff.1 hi).1;omega
          refine ⟨cs,hrep,fun j v hj=>?_⟩
          have hjl:j < P.cellsOf e:=by have:=(List.getElem?_eq_some_iff.1 hj).1;rw [hcl i cs hcs] at this;exact this
          have:=hcell i j cs hil hcs hjl
          rw [ha,WG,WG,P4 hh,hj] at this
          rw [he.1]
          exact this
      · cases h00⟩
def RdF (P:Program) (B:Bulk) (fs:List Field) (off:Nat) {β:Type} (R:TRep β) (ok:β→Prop):Prop :=
  ∀ {H:Type} (enc:TypeId × Value→H) (w:World) (n:Nat) (cs:List Value) (xs:List (DataW H × List MemPlace)),xs.length=fs.length →
    (∀ (i:Nat) (f:Field),fs[i]? = some f→DataW.trod enc P w 0 (fun _=>true) true n f.type ((cs.drop f.offset).take (P.cellsOf f.type))=xs[i]?)→B.all (xs.map (·.1))≤bd →
    ∃ y,R.rep (Ur w) w y ((cs.drop off).take R.sz)∧ok y
theorem RdF.one {f:Field} {α:Type} {R:TRep α} {ok:α→Prop} (h:Rdb P B f.type R ok):RdF P B [f] f.offset R ok:=fun enc w n cs xs hl hx hb=>by
 obtain ⟨x,rfl⟩:=List.length_eq_one_iff.1 hl
 have h0:=hx 0 f rfl
 simp only [List.getElem?_cons_zero] at h0
 simp only [List.map_cons,List.map_nil] at hb
 rw [B.cons,B.nil] at hb
 obtain ⟨a,h1,h2⟩:=h.2 enc w n _ x h0 (by omega)
 rw [h.1]
 exact ⟨a,h1,h2⟩
theorem RdF.cons {f:Field} {fs:List Field} {off:Nat} {α β:Type} {R1:TRep α} {R2:TRep β} {ok1:α→Prop} {ok2:β→Prop} (h1:Rdb P B f.type R1 ok1) (h2:RdF P B fs off R2 ok2) (ho:off=f.offset+R1.sz) :
  RdF P B (f::fs) f.offset (rP R1 R2) (fun y=>ok1 y.1∧ok2 y.2):=fun enc w n cs xs hl hx hb=>by
 cases xs with
 | nil=>cases hl
 | cons x xs =>
  have h0:=hx 0 f rfl
  simp only [List.getElem?_cons_zero] at h0
  simp only [List.map_cons] at hb
  rw [B.cons] at hb
  obtain ⟨a,g1,g2⟩:=h1.2 enc w n _ x h0 (by omega)
  obtain ⟨b,g3,g4⟩:=h2 enc w n cs xs (by simpa using hl) (fun i f' hf=>by have:=hx (i+1) f' (by simpa using hf);simpa using this) (by omega)
  rw [← h1.1] at g1
  refine ⟨(a,b),⟨_,_,?_,g1,g3⟩,g2,g4⟩
  rw [ho,← List.drop_drop]
  exact List.take_add
theorem Rdb.struct {α β:Type} {f:α→β} {g:β→α} {R:TRep β} {ok:β→Prop} {fs:List Field} (hu:P.underlying t=some (.struct fs.toArray)) (hc:P.cellsOf t=R.sz) (hfg:∀ y,f (g y)=y) (h:RdF P B fs 0 R ok) :
  Rdb P B t (rM f R) (fun x=>ok (f x)):=⟨hc.symm,fun enc w fuel cs x hx hb=>by
 obtain ⟨xs,n,rfl,rfl,hl,hn,hf⟩:=DataW.trod_struct hu hx
 simp only at hb
 rw [B.agg] at hb
 obtain ⟨y,h1,h2⟩:=h enc w n cs xs (by simpa using hn) (fun i f' hi=>hf i f' (by simpa using hi)) (by omega)
 rw [List.drop_zero,← hc,← hl,List.take_length] at h1
 refine ⟨g y,?_,?_⟩
 ·show R.rep _ _ (f (g y)) cs
  rw [hfg];exact h1
 ·show ok (f (g y));rw [hfg];exact h2⟩
def RdA (P:Program) (B:Bulk) (e:TypeId) (m off:Nat) {β:Type} (R:TRep β) (ok:β→Prop):Prop :=
  ∀ {H:Type} (enc:TypeId × Value→H) (w:World) (n:Nat) (cs:List Value) (xs:List (DataW H × List MemPlace)),xs.length=m →
    (∀ (i:Nat),i < m→DataW.trod enc P w 0 (fun _=>true) true n e ((cs.drop ((off+i) * P.cellsOf e)).take (P.cellsOf e))=xs[i]?)→B.all (xs.map (·.1))≤bd →
    ∃ y,R.rep (Ur w) w y ((cs.drop (off * P.cellsOf e)).take R.sz)∧ok y
theorem RdA.one {e off:Nat} {α:Type} {R:TRep α} {ok:α→Prop} (h:Rdb P B e R ok):RdA P B e 1 off R ok:=fun enc w n cs xs hl hx hb=>by
 obtain ⟨x,rfl⟩:=List.length_eq_one_iff.1 hl
 have h0:=hx 0 (by omega)
 simp only [List.getElem?_cons_zero,Nat.add_zero] at h0
 simp only [List.map_cons,List.map_nil] at hb
 rw [B.cons,B.nil] at hb
 obtain ⟨a,h1,h2⟩:=h.2 enc w n _ x h0 (by omega)
 rw [h.1]
 exact ⟨a,h1,h2⟩
theorem RdA.cons {e off m:Nat} {α β:Type} {R1:TRep α} {R2:TRep β} {ok1:α→Prop} {ok2:β→Prop} (h1:Rdb P B e R1 ok1) (h2:RdA P B e m (off+1) R2 ok2):RdA P B e (m+1) off (rP R1 R2) (fun y=>ok1 y.1∧ok2 y.2) :=
 fun enc w n cs xs hl hx hb=>by
 cases xs with
 | nil=>cases hl
 | cons x xs =>
  have h0:=hx 0 (by omega)
  simp only [List.getElem?_cons_zero,Nat.add_zero] at h0
  simp only [List.map_cons] at hb
  rw [B.cons] at hb
  obtain ⟨a,g1,g2⟩:=h1.2 enc w n _ x h0 (by omega)
  obtain ⟨b,g3,g4⟩:=h2 enc w n cs xs (by simpa using hl) (fun i hi=>by have:=hx (i+1) (by omega);rw [show off+(i+1)=off+1+i by omega] at this;simpa using this) (by omega)
  rw [← h1.1] at g1
  refine ⟨(a,b),⟨_,_,?_,g1,g3⟩,g2,g4⟩
  rw [Nat.add_mul,Nat.one_mul,← h1.1,← List.drop_drop]
  exact List.take_add
theorem Rdb.array {β:Type} {R:TRep β} {ok:β→Prop} {m e:Nat} (hu:P.underlying t=some (.array m e)) (hc:P.cellsOf t=R.sz) (h:RdA P B e m 0 R ok):Rdb P B t R ok:=⟨hc.symm,fun enc w fuel cs x hx hb=>by
 obtain ⟨xs,n,rfl,rfl,hl,hn,hf⟩:=DataW.trod_array hu hx
 simp only at hb
 rw [B.agg] at hb
 obtain ⟨y,h1,h2⟩:=h enc w n cs xs hn (fun i hi=>by have:=hf i hi;rw [Nat.zero_add];exact this) (by omega)
 rw [Nat.zero_mul,List.drop_zero,← hc,← hl,List.take_length] at h1
 exact ⟨y,h1,h2⟩⟩
end
section
variable {P:Program} {H:Type} {enc:TypeId × Value→H}
theorem ZiT {w:World} {b t:Nat} {v:Value} (ha:Xf P t=true) (h:Value.okWide P w .any b t v):∃ cs,v=.agg cs:=by
 unfold Xf at ha
 unfold Value.okWide at h
 split at ha
 ·rename_i hu;rw [hu] at h;obtain ⟨cs,h,_⟩:=h;exact ⟨cs,h⟩
 ·rename_i hu;rw [hu] at h;obtain ⟨cs,h,_⟩:=h;exact ⟨cs,h⟩
 ·cases ha
theorem ZkS {w:World} {b t:Nat} {v:Value} (ha:(match P.underlying t with | some (.int _) | some .bool | some .string | some (.slice _)=>true | _=>false)=true) (h:Value.okWide P w .any b t v):v.cells=#[v]:=by
 unfold Value.okWide at h
 split at ha
 ·rename_i hu;rw [hu] at h;simp only [Cell.okWide,Cell.ok,hu] at h;cases v<;>first | rfl | (simp at h)
 ·rename_i hu;rw [hu] at h;simp only [Cell.okWide,Cell.ok,hu] at h;cases v<;>first | rfl | (simp at h)
 ·rename_i hu;rw [hu] at h;simp only [Cell.okWide,Cell.ok,hu] at h;cases v<;>first | rfl | (simp at h)
 ·rename_i hu;rw [hu] at h;simp only [Cell.okWide,Cell.ok,hu] at h;cases v<;>first | rfl | (simp at h)
 ·cases ha
theorem Zfx (hl:laidOutB P=true) {W W':World} {sp:Nat→Bool}:∀ {ts:List TypeId} {vs:List Value} {ds:List (DataW H)} {ps:List MemPlace},ts.all (fun t=>P.readableRec t && decide (t < P.types.size))=true →
  DataW.TrodAll enc P W 0 (fun _=>true) true ts vs ds ps→(∀ p∈ps,W.sameAt W' p)→(∀ p∈ps,sp p.block=true)→DataW.TrodAll enc P W' 0 sp true ts vs ds ps
 | [],vs,ds,ps,_,h,_,_=>by
  cases vs<;>cases ds<;>simp only [DataW.TrodAll] at h ⊢<;>first | exact h | exact h.elim
 | t::ts,vs,ds,ps,ht,h,hs,hp=>by
  obtain ⟨v,vs',d,ds',p,q,rfl,rfl,rfl,h1,h2⟩:=trodAll_cons h
  simp only [List.all_cons,Zc,decide_eq_true_eq] at ht
  exact trodAll_cons_mk (WideElems.Trod_stays hl ht.1.1 ht.1.2 h1 (fun x hx=>hs x (List.mem_append.2 (.inl hx))) fun x hx=>hp x (List.mem_append.2 (.inl hx)))
   (Zfx hl ht.2 h2 (fun x hx=>hs x (List.mem_append.2 (.inr hx))) fun x hx=>hp x (List.mem_append.2 (.inr hx)))
theorem Zq6 {f:Func} {s:ChangeSpec} {apart fresh handsOn again:Bool} {W W':World} {args:Array Value} {ds:List (DataW H)} {before:List MemPlace} {tb:TypeId} (hl:laidOutB P=true)
  (hts:f.params.toList.all (fun t=>P.readableRec t && decide (t < P.types.size))=true) (hvs:s.vars=[]) (hr:f.resultTypes=#[tb]) (htb:P.underlying tb=some .bool)
  (hW:DataW.Whole enc P f.params.toList s.vars apart W args.toList ds [] before) (hfn:s.fn H (ds++[])={ results:=[.lit (.bool true)],args:=ds }) (he:Ext (Ur W) W W') :
  s.post enc P f apart fresh handsOn again W args (.bool true) W':=by
 have hlt:=hW.lt
 have hsame:∀ p∈before,W.sameAt W' p:=fun p hp=>by
  cases p with
  | cell b off =>
   have:=he.block b (hlt _ hp)
   show W'.cell? ⟨b,off,none⟩=W.cell? ⟨b,off,none⟩
   unfold World.cell?;simp only [this]
  | map b=>exact he.block b (hlt _ hp)
 have hold:∀ p∈before,(fun b=>decide (b < W.heap.size)) p.block=true:=fun p hp=>by simpa using hlt p hp
 obtain ⟨p,q,hA,hV,rfl,hz,hn⟩:=id hW
 rw [hvs] at hV
 have hq:q=[]:=hV
 subst hq
 rw [List.append_nil] at hsame hold hz hn
 have hres:∀ (b:Nat) (sp:Nat→Bool) (hd:Bool),DataW.TrodAll enc P W' b sp hd f.resultTypes.toList ((Value.bool true).resultList f.resultTypes.size) [.lit (.bool true)] []:=fun b sp hd=>by
  rw [hr];exact trodAll_cons_mk (RowKit.shut_bool htb true) trodAll_mk0
 have hargs:∀ sp:Nat→Bool,(∀ x∈p,sp x.block=true)→DataW.TrodAll enc P W' 0 sp true f.params.toList args.toList ds p:=fun sp hsp=>Zfx hl hts hA hsame hsp
 refine ⟨ds,[],p++[],[],p,[],hW,?_,?_,?_,?_,fun _=>⟨?_,[.lit (.bool true)]++ds,[],([]++p)++[],⟨[]++p,[],trodAll_append (hargs _ (fun _ _=>rfl)) (hres _ _ _),by rw [hvs];rfl,rfl,?_,?_⟩,?_⟩⟩
 ·rw [hfn];exact hres _ _ _
 ·rw [hfn];exact hargs _ hold
 ·rw [hfn,hvs];rfl
 ·refine ⟨he.os,he.output.out,fun i hi=>?_⟩
  rw [he.block i hi]
  cases hh:W.heap[i]? with
  | none=>trivial
  | some o =>
   cases o with
   | cells c ty fr=>exact ⟨rfl,rfl,rfl,fun _ _=>rfl⟩
   | map es clock=>exact .inr ⟨rfl,rfl⟩
   | _=>rfl
 ·exact RowKit.ok_one hr rfl (RowKit.okWide_bool_mk htb true)
 ·intro b off hp
  simp only [List.nil_append,List.append_nil] at hp
  have:=hz b off hp
  have hb:=he.block b (of_decide_eq_true (hold _ hp))
  unfold World.frozen? at this ⊢
  rw [hb];exact this
 ·intro ha
  simpa using hn ha
 ·intro x hx _
  simpa using hx
structure Opened (F:ZU) (w:World) (n:Nat) (fs:List (Nat × VF)) (az:List (List SC × List Value)) (E:Env):Prop where
 one:∀ k,(E.ρ k).oneCell'=true
 facts:∀ p∈fs,p.1 < n∧p.2.plain=true∧p.2.ok E F w (E.ρ p.1)
 args:∀ q∈az,q.1.map (Zt E)=q.2∧∀ c∈q.1,SC.kb n c
theorem Opened.start (F:ZU) (w:World):Opened F w 0 [] [] E00:=⟨fun _=>rfl,by simp,by simp⟩
theorem Zqx {E E':Env} {F:ZU} {w:World} {v:Value}:∀ {f:VF},f.plain=true→f.ok E F w v→f.ok E' F w v
 | .sl _ _,_,h=>h
 | .fn _,_,h=>h
 | .pl _,h,_ | .el _ _,h,_ | .vw _ _ _ _,h,_=>by cases h
theorem Opened.step {F:ZU} {w:World} {n:Nat} {fs:List (Nat × VF)} {az:List (List SC × List Value)} {E:Env} (h:Opened F w n fs az E) {α:Type} {R:TRep α} (O:Ya R) {x:α} {vs:List Value} (hr:R.rep F w x vs) :
  ∃ E',Opened F w (n+O.nk) (fs++O.facts n x) (az++[(O.cells n x,vs)]) E':=by
 obtain ⟨E',h1,_,_,h2,h3,h4,h5⟩:=O.ok hr n E h.one
 refine ⟨E',h2,fun p hp=>?_,fun q hq=>?_⟩
 ·rcases List.mem_append.1 hp with hp | hp
  ·obtain ⟨g1,g2,g3⟩:=h.facts p hp
   exact ⟨by omega,g2,by rw [(h1 p.1 g1).1];exact Zqx g2 g3⟩
  ·obtain ⟨_,g1,g2,g3⟩:=h4 p hp
   exact ⟨g1,g2,g3⟩
 ·rcases List.mem_append.1 hq with hq | hq
  ·obtain ⟨g1,g2⟩:=h.args q hq
   exact ⟨by rw [Pw h1 g2];exact g1,fun c hc=>(g2 c hc).mono (Nat.le_add_right _ _)⟩
  ·rw [List.mem_singleton.1 hq]
   exact ⟨h3.symm,h5⟩
theorem Opened.V {F:ZU} {w:World} {n:Nat} {fs V0:List (Nat × VF)} {az:List (List SC × List Value)} {E:Env} (h:Opened F w n fs az E) (hV:V0=fs):∀ k x,Zk V0 k=some x→x.ok E F w (E.ρ k) :=
 fun k x hk=>(h.facts (k,x) (hV ▸ Ye hk)).2.2
def Lz:Nat→DataW Unit→List Value
 | 0,_=>[]
 | _+1,.lit l=>[l.value]
 | n+1,.agg l=>l.flatMap (Lz n)
 | _+1,_=>[]
end
end Go.Kx
end
section
namespace Go.Kx
variable [LxP]
structure Dl:Type 1 where
 dL:List (Nat × SV)
 dM:List (Nat × MO)
 dV:List (Nat × VF)
 n:Nat
def Dl.ap (d:Dl) (s:St):St:=⟨d.dL++s.L,d.dM++s.M,d.dV++s.V,s.nx+d.n⟩
inductive Cf:Type 1
 | co (k:List Item) (s:St)
 | rg (m:Option (Nat × St × List Ent)) (ops:Array Oper) (i:Nat) (k:List Item) (s:St)
 | no
def Wd (X:Ctx):Cf→Prop
 | .co k s=>WP X k s
 | .rg none ops i k s=>WPr X ops (List.range' i (ops.size-i)) (rk X k) s
 | .rg (some q) ops i k _=>AllLS X ops 0 q.2.2→q.2.2.length=i→WP X (.code (.region q.1 ops true)::k) q.2.1
 | .no=>False
structure Wc (X:Ctx) (c:Cf):Prop where
 h:Wd X c
def ZrY (ops:Array Oper) (o:Oper):List Nat:=(match o.guard with
 | none=>[]
 | some (j,_)=>match ops[j]? with
  | some oj=>oj.dst.toList
  | none=>[])++tmpsO o.op.operands.toList
where tmpsO:List Operand→List Nat
 | []=>[]
 | .tmp t::r=>t::tmpsO r
 | _::r=>tmpsO r
def Zeu (L:List (Nat × SV)):List Nat→List (Nat × SV)
 | []=>[]
 | d::r=>match Zk L d with
  | some v=>(d,v)::Zeu L r
  | none=>Zeu L r
def Zq5:SC→List Nat
 | .bp k _ | .sp k _ _ _ | .sl k | .px k _=>[k]
 | .cl _ fs ks=>fs++ks
 | _=>[]
def ZaT:List SC→List Nat
 | []=>[]
 | c::r=>Zq5 c++ZaT r
def ZnC:SV→List SC
 | .c x=>[x]
 | .a cs=>cs
 | .t vs=>vs.flatMap fun v=>match v with | .inl x=>[x] | .inr cs=>cs
 | .u=>[]
def Zds:List (Nat × SV)→List Nat
 | []=>[]
 | q::r=>ZaT (ZnC q.2)++Zds r
def Zcp {α:Type _} (ks:List Nat):List (Nat × α)→List Nat→List (Nat × α)
 | [],_=>[]
 | (k,v)::r,seen=>bif S9 k ks && !(S9 k seen) then (k,v)::Zcp ks r (k::seen) else Zcp ks r seen
def Bg (V:List (Nat × VF)):List Nat→List Nat
 | []=>[]
 | k::r=>match Zk V k with
  | some (.el j _)=>k::j::Bg V r
  | some (.vw j _ _ _)=>k::j::Bg V r
  | _=>k::Bg V r
def ZcW (M:List (Nat × MO)) (V:List (Nat × VF)):Nat→List Nat→List Nat→List Nat
 | 0,_,acc=>acc
 | _+1,[],acc=>acc
 | n+1,k::r,acc=>bif S9 k acc then ZcW M V n r acc else
  ZcW M V n ((match Zk M k with | some (.box cs _)=>ZaT cs | _=>[])++(match Zk V k with | some (.el j _)=>[j] | some (.vw j _ _ _)=>[j] | some (.pl cs)=>ZaT cs | _=>[])++r) (k::acc)
def Zoz:Op→Bool
 | .call c=>match c.callee with
  | .value _=>true
  | _=>false
 | _=>false
def Zrk:Op→Bool
 | .move _ | .assign _ | .pick _ _ _ | .unOp _ _ _ | .extract _ _ | .field _ _ _ | .build _ _ | .alloc _ | .box _ _ | .nilCheck _ | .fieldAddr _ _ _ | .makeFunc _ _ _=>true
 | _=>false
def ZoT (o:Oper) (L:List (Nat × SV)) (s:St):List Nat:=match o.op with
 | .load _ x=>match ZE L x with
  | some (.c (.v _))=>(s.M.filterMap fun p=>match p.2 with | .abs _=>some p.1 | _=>none)++s.V.filterMap fun p=>match p.2 with | .fn _=>some p.1 | _=>none
  | _=>[]
 | _=>[]
def Zet:List (Nat × MO)→List Nat
 | []=>[]
 | (k,.abs _)::r=>k::Zet r
 | _::r=>Zet r
def ZoL (ops:Array Oper) (o:Oper) (s:St):St :=
 let L:=Zeu s.L (ZrY ops o)
 let ks:=bif Zoz o.op then ZcW s.M s.V 10000 (Zds L) []++Zet s.M else Bg s.V (Zds L)++ZoT o L s
 ⟨L,bif Zrk o.op then [] else Zcp ks s.M [],Zcp ks s.V [],s.nx⟩
def Bx (sv:St) (d:Dl):Ent:=⟨sv.L,sv.V,sv.M.filter (fun q=>Vi q.1 d.dM),sv.M.filter (fun q => !(Vi q.1 d.dM)),sv.nx,d.dL,d.dV,d.dM,sv.nx+d.n⟩
def UX (m:Option (Nat × St × List Ent)) (ops:Array Oper) (o:Oper) (s:St):St:=match m with
 | none=>s
 | some _=>ZoL ops o s
def Dv (m:Option (Nat × St × List Ent)) (ops:Array Oper) (i:Nat) (k:List Item) (s sv:St) (d:Dl):Cf:=match m with
 | none=>.rg none ops (i+1) k (d.ap s)
 | some q=>.rg (some (q.1,q.2.1,q.2.2++[Bx sv d])) ops (i+1) k (d.ap s)
theorem AllLS.snoc {X:Ctx} {ops:Array Oper}:∀ {l:List Ent} {i:Nat} {e:Ent},AllLS X ops i l→LS X ops (i+l.length) e→AllLS X ops i (l++[e])
 | [],i,e,_,h=>.cons h .nil
 | x::l,i,e,.cons h1 h2,h=>.cons h1 (AllLS.snoc h2 (by rw [show i+1+l.length=i+(x::l).length by simp;omega];exact h))
theorem DI {α:Type _} {p:Nat→Bool}:∀ {l:List (Nat × α)} {k:Nat},Zk (l.filter fun q=>p q.1) k=bif p k then Zk l k else none
 | [],k=>by cases p k<;>rfl
 | (j,u)::r,k=>by
  rw [List.filter_cons]
  simp only []
  rw [ZQ]
  split
  ·rename_i hj
   rw [ZQ,DI]
   split
   ·rename_i e;subst e;rw [hj];rfl
   ·rfl
  ·rename_i hj
   rw [DI]
   split
   ·rename_i e;subst e;simp only [Bool.not_eq_true] at hj;rw [hj];rfl
   ·rfl
theorem LS.ent {X:Ctx} {ops:Array Oper} {i:Nat} {o:Oper} {sv:St} {d:Dl} (ho:ops[i]? = some o) (hg:ZR ops sv.L o=some true) (hd:d.dL.map (·.1)=o.dst.toList)
    (st:∀ nk E0 F0 w0 n0 Z E F w a,Sat (X.var nk E0 F0 w0 n0 Z) sv E F w a→o.wp X.P a w (fun a' w'=>∃ E' F',Sat (X.var nk E0 F0 w0 n0 Z) (d.ap sv) E' F' w' a') (fun _ _ _=>False)):LS X ops i (Bx sv d):=by
  refine ⟨o,ho,hd,.inl ⟨hg,fun nk E0 F0 w0 n0 Z E F w a hs=>?_⟩⟩
  have key:∀ k m,Zk sv.M k=some m→Zk ((Bx sv d).W++(Bx sv d).R) k=some m:=fun k m h=>by
    show Zk (sv.M.filter (fun q=>Vi q.1 d.dM)++sv.M.filter (fun q => !(Vi q.1 d.dM))) k=some m
    rw [YX,DI (p:=fun k=>Vi k d.dM),DI (p:=fun k => !(Vi k d.dM))]
    cases hq:Vi k d.dM with
    | true=>simp only [cond_true,h]
    | false=>simp only [cond_false,Bool.not_false,cond_true,h]
  have hs1:Sat (X.var nk E0 F0 w0 n0 Z) sv E F w a:=hs.weaken rfl (fun _ _ h=>h) key (fun _ _ h=>h)
  refine Oper.wp_imp (fun a' w' hq=>?_) (st nk E0 F0 w0 n0 Z E F w a hs1)
  obtain ⟨E',F',hs2⟩:=hq
  refine ⟨E',F',hs2.weaken rfl (fun e v h=>?_) (fun k m h=>?_) (fun k f h=>?_)⟩
  · have h:Zk d.dL e=some v:=h
    show Zk (d.dL++sv.L) e=some v
    rw [YX,h]
  · have h:Zk (d.dM++sv.M.filter (fun q => !(Vi q.1 d.dM))) k=some m:=h
    show Zk (d.dM++sv.M) k=some m
    rw [YX] at h ⊢
    cases hl:Zk d.dM k with
    | some v=>rw [hl] at h;exact h
    | none =>
      rw [hl] at h
      simp only [] at h ⊢
      rw [DI (p:=fun k => !(Vi k d.dM))] at h
      cases hq:Vi k d.dM with
      | true=>rw [hq] at h;cases h
      | false=>rw [hq] at h;exact h
  · have h:Zk d.dV k=some f:=h
    show Zk (d.dV++sv.V) k=some f
    rw [YX,h]
section
variable {X:Ctx} {tt:List (Nat × TD)}
theorem H8 {ops:Array Oper} {i:Nat} {o:Oper} (h:ops[i]? = some o):List.range' i (ops.size-i)=i::List.range' (i+1) (ops.size-(i+1)):=by
 have:=(Array.getElem?_eq_some_iff.1 h).1
 rw [show ops.size-i=(ops.size-(i+1))+1 by omega,List.range'_succ]
theorem Zfw {m:Option (Nat × St × List Ent)} {ops:Array Oper} {i:Nat} {k:List Item} {s:St} {o:Oper} {d:Dl} (ho:ops[i]? = some o) (hg:ZR ops (UX m ops o s).L o=some true) (hd:d.dL.map (·.1)=o.dst.toList)
    (st:∀ nk E0 F0 w0 n0 Z E F w a,Sat (X.var nk E0 F0 w0 n0 Z) (UX m ops o s) E F w a→o.wp X.P a w (fun a' w'=>∃ E' F',Sat (X.var nk E0 F0 w0 n0 Z) (d.ap (UX m ops o s)) E' F' w' a') (fun _ _ _=>False))
    (h:Wc X (Dv m ops i k s (UX m ops o s) d)):Wc X (.rg m ops i k s):=by
  obtain ⟨h⟩:=h
  refine ⟨?_⟩
  cases m with
  | none =>
    show WPr X ops (List.range' i (ops.size-i)) (rk X k) s
    rw [H8 ho]
    exact WPr.op ho hg (st X.nk X.E0 X.F0 X.w0 X.n0 X.Z) h
  | some q =>
    intro hA hl
    refine h (hA.snoc ?_) (by simp [hl])
    rw [Nat.zero_add,hl]
    exact LS.ent ho hg hd st
theorem Zng {m:Option (Nat × St × List Ent)} {ops:Array Oper} {i:Nat} {k:List Item} {s:St} {o:Oper} {d:Nat} (ho:ops[i]? = some o) (hg:ZR ops (UX m ops o s).L o=some false) (hd:o.dst=some d) (hn:Nat.blt d X.fn.ntmps=true)
  (h:Wc X (Dv m ops i k s (UX m ops o s) ⟨[(d,.u)],[],[],0⟩)):Wc X (.rg m ops i k s):=by
 obtain ⟨h⟩:=h
 refine ⟨?_⟩
 cases m with
 | none =>
  show WPr X ops (List.range' i (ops.size-i)) (rk X k) s
  rw [H8 ho]
  exact WPr.skip ho hg hd (Z3 hn) h
 | some q =>
  intro hA hl
  refine h (hA.snoc ?_) (by simp [hl])
  rw [Nat.zero_add,hl]
  exact ⟨o,ho,by show [d]=_;rw [hd];rfl,.inr ⟨hg,fun d' v hm=>by
   have hm:(d',v)∈[(d,SV.u)]:=hm
   simp only [List.mem_singleton,Prod.mk.injEq] at hm
   exact ⟨hm.2,by rw [hm.1];exact Z3 hn⟩,rfl,rfl⟩⟩
def Ze5 (tt:List (Nat × TD)) (n:Nat) (o:Oper):St→Option Dl
 | ⟨L,M,V,nx⟩=>match o.op with
  | .alloc t=>match Zk tt t with
   | some d=>match o.dst with
    | some x=>bif Nat.blt x n then some ⟨[(x,.c (.bp nx 0))],[(nx,.box d.z t)],[],1⟩ else none
    | none=>none
   | none=>none
  | .box t v=>match ZE L v with
   | some sv=>match W5 sv with
    | some cs=>match o.dst with
     | some x=>bif Nat.blt x n then some ⟨[(x,.c (.bp nx 0))],[(nx,.box cs t)],[],1⟩ else none
     | none=>none
    | none=>none
   | none=>none
  | .store t ad v=>match Zk tt t with
   | some d=>match ZE L ad with
    | some (.c (.bp k off))=>match ZE L v with
     | some sv=>match W5 sv with
      | some ps=>match Zk M k with
       | some (.box cs t')=>bif (Nat.beq ps.length d.sz && Nat.ble (off+ps.length) cs.length) then (match o.dst with
        | none=>some ⟨[],[(k,.box (cs.take off++ps++cs.drop (off+ps.length)) t')],[],0⟩
        | some _=>none) else none
       | _=>none
      | none=>none
     | none=>none
    | _=>none
   | none=>none
  | op=>match sval tt ⟨L,M,V,nx⟩ op with
   | some v=>match o.dst with
    | some x=>bif Nat.blt x n then some ⟨[(x,v)],[],[],0⟩ else none
    | none=>none
   | none=>none
theorem Zpv {n:Nat} {o:Oper} {s:St} {d:Dl} (h:Ze5 tt n o s=some d):Zck tt n o s=some (d.ap s)∧d.dL.map (·.1)=o.dst.toList:=by
  obtain ⟨L,M,V,nx⟩:=s
  obtain ⟨dst,op,ty,pos,aft,g⟩:=o
  unfold Ze5 at h
  unfold Zck
  simp only [] at h ⊢
  split at h
  · rename_i t
    cases hd:Zk tt t with
    | none=>rw [hd] at h;cases h
    | some td =>
      rw [hd] at h
      simp only [] at h ⊢
      cases dst with
      | none=>cases h
      | some x =>
        simp only [] at h ⊢
        cases hb:Nat.blt x n with
        | false=>rw [hb] at h;cases h
        | true=>rw [hb] at h;cases h;refine ⟨?_,rfl⟩;simp only [hd,hb,cond_true];rfl
  · rename_i t v
    cases hv:ZE L v with
    | none=>rw [hv] at h;cases h
    | some sv =>
      rw [hv] at h
      simp only [] at h ⊢
      cases hc:W5 sv with
      | none=>rw [hc] at h;cases h
      | some cs =>
        rw [hc] at h
        simp only [] at h ⊢
        cases dst with
        | none=>cases h
        | some x =>
          simp only [] at h ⊢
          cases hb:Nat.blt x n with
          | false=>rw [hb] at h;cases h
          | true=>rw [hb] at h;cases h;refine ⟨?_,rfl⟩;simp only [hv,hc,hb,cond_true];rfl
  · rename_i t ad v
    cases hd:Zk tt t with
    | none=>rw [hd] at h;cases h
    | some td =>
      rw [hd] at h
      simp only [] at h ⊢
      split at h
      · rename_i k off had
        cases hv:ZE L v with
        | none=>rw [hv] at h;cases h
        | some sv =>
          rw [hv] at h
          simp only [] at h ⊢
          cases hc:W5 sv with
          | none=>rw [hc] at h;cases h
          | some ps =>
            rw [hc] at h
            simp only [] at h ⊢
            split at h
            · rename_i cs t' hm
              cases hb:(Nat.beq ps.length td.sz && Nat.ble (off+ps.length) cs.length) with
              | false=>rw [hb] at h;cases h
              | true =>
                rw [hb] at h
                simp only [cond_true] at h ⊢
                cases dst with
                | some x=>cases h
                | none =>
                  cases h
                  refine ⟨?_,rfl⟩;simp only [hd,had,hv,hc,hm,hb,cond_true];rfl
            · cases h
      · cases h
  · rename_i h1 h2 h3
    cases hv:sval tt ⟨L,M,V,nx⟩ op with
    | none=>rw [hv] at h;cases h
    | some v =>
      rw [hv] at h
      simp only [] at h
      cases dst with
      | none=>cases h
      | some x =>
        simp only [] at h
        cases hb:Nat.blt x n with
        | false=>rw [hb] at h;cases h
        | true =>
          rw [hb] at h;cases h
          refine ⟨?_,rfl⟩
          split
          · exact (h1 _ rfl).elim
          · exact (h2 _ _ rfl).elim
          · exact (h3 _ _ _ rfl).elim
          · simp only [hv,hb,cond_true];rfl
def a1 (tt:List (Nat × TD)) (nt:Nat):Cf→Cf
 | .co k s=>match k with
  | .inBlock _::k'=>.co k' s
  | .code c::k'=>match c with
   | .seq x y=>.co (.code x::.code y::k') s
   | .skip=>.co k' s
   | .label _=>.co k' s
   | .block id x=>.co (.code x::.inBlock id::k') s
   | .exit id=>match exitTo id k' with
    | some k2=>.co k2 s
    | none=>.no
   | .region id ops dr=>match dr with
    | true=>.rg (some (id,s,[])) ops 0 k' s
    | false=>.rg none ops 0 k' s
   | .cond x y z=>match x with
    | .tmp d=>match Zk s.L d with
     | some (.c (.b t))=>match t with
      | true=>.co (.code y::k') s
      | false=>.co (.code z::k') s
     | _=>.no
    | .const (.bool t)=>match t with
     | true=>.co (.code y::k') s
     | false=>.co (.code z::k') s
    | _=>.no
   | _=>.no
  | _=>.no
 | .rg m ops i k s=>match ops[i]? with
  | none=>match m with
   | none=>bif Nat.beq i ops.size then .co k s else .no
   | some _=>.no
  | some o=>match ZR ops (UX m ops o s).L o with
   | some true=>match Ze5 tt nt o (UX m ops o s) with
    | some d=>Dv m ops i k s (UX m ops o s) d
    | none=>.no
   | some false=>match o.dst with
    | some d=>bif Nat.blt d nt then Dv m ops i k s (UX m ops o s) ⟨[(d,.u)],[],[],0⟩ else .no
    | none=>.no
   | none=>.no
 | .no=>.no
def Xm (tt:List (Nat × TD)) (nt:Nat):Nat→Cf→Cf
 | 0,c=>c
 | n+1,c=>Xm tt nt n (a1 tt nt c)
theorem Zfy (htt:TTOk X.P tt) {c:Cf} (h:Wc X (a1 tt X.fn.ntmps c)):Wc X c:=by
 unfold a1 at h
 split at h
 ·split at h
  ·exact ⟨WP.inBlock h.1⟩
  ·split at h
   ·exact ⟨WP.seq h.1⟩
   ·exact ⟨WP.skip h.1⟩
   ·exact ⟨WP.label h.1⟩
   ·exact ⟨WP.block h.1⟩
   ·split at h
    ·rename_i he;exact ⟨WP.exit he h.1⟩
    ·exact h.1.elim
   ·split at h
    ·exact ⟨h.1 .nil rfl⟩
    ·refine ⟨WP.region ?_⟩
     have h:WPr X _ (List.range' 0 (_-0)) _ _:=h.1
     rw [List.range_eq_range'];exact h
   ·split at h
    ·split at h
     ·rename_i hl
      split at h
      ·exact ⟨WP.condT rfl hl h.1⟩
      ·exact ⟨WP.condF rfl hl h.1⟩
     ·exact h.1.elim
    ·split at h
     ·exact ⟨WP.condCT h.1⟩
     ·exact ⟨WP.condCF h.1⟩
    ·exact h.1.elim
   ·exact h.1.elim
  ·exact h.1.elim
 ·rename_i m ops i k s
  split at h
  ·rename_i ho
   split at h
   ·cases hb:Nat.beq i ops.size with
    | false=>rw [hb] at h;exact h.1.elim
    | true =>
     rw [hb] at h
     refine ⟨?_⟩
     show WPr X ops (List.range' i (ops.size-i)) (rk X k) s
     rw [Zd hb,Nat.sub_self]
     exact WPr.nil h.1
   ·exact h.1.elim
  ·rename_i o ho
   split at h
   ·rename_i hg
    split at h
    ·rename_i d hd
     obtain ⟨h1,h2⟩:=Zpv hd
     exact Zfw ho hg h2 (fun nk E0 F0 w0 n0 Z=>ZrS (X:=X.var nk E0 F0 w0 n0 Z) htt h1) h
    ·exact h.1.elim
   ·rename_i hg
    split at h
    ·rename_i d hd
     cases hb:Nat.blt d X.fn.ntmps with
     | false=>rw [hb] at h;exact h.1.elim
     | true=>rw [hb] at h;exact Zng ho hg hd hb h
    ·exact h.1.elim
   ·exact h.1.elim
 ·exact h.1.elim
theorem ZjS (htt:TTOk X.P tt):∀ (n:Nat) {c:Cf},Wc X (Xm tt X.fn.ntmps n c)→Wc X c
 | 0,_,h=>h
 | n+1,_,h=>Zfy htt (ZjS htt n h)
end
end Go.Kx
end
section
namespace Go.Kx
variable [LxP]
open Go
def WE (b:Nat) (s:ByteArray) (p:Nat):Mx where
 fp:=fun x=>x=b
 ok:=fun _ w=>w.heap[b]? = some (.stringIter s p)
 mono:=fun _ hb h=>by rw [hb b rfl];exact h
section
variable {X:Ctx} {s:St} {ops:Array Oper} {todo:Act→World→Prop} {tt:List (Nat × TD)}
theorem WPr.rng (htt:TTOk X.P tt) {i:Nat} {rest:List Nat} {o:Oper} {t:TypeId} {td:TD} {x:Operand} {d:Nat} {m:ByteArray}
  (ho:ops[i]? = some o) (hg:ZR ops s.L o=some true) (hop:o.op=.range t x) (hd:o.dst=some d) (ht:Zk tt t=some td) (hkd:Nat.beq td.kd 2=true)
  (hx:ZE s.L x=some (.c (.s m))) (hn:Nat.blt d X.fn.ntmps=true)
  (kk:∀ b,WPr X ops rest todo ⟨(d,.c (.v (.pointer (some ⟨b,0,none⟩))))::s.L,(s.nx,.abs (WE b m 0))::s.M,s.V,s.nx+1⟩):WPr X ops (i::rest) todo s:=by
 intro E F w a hs
 simp only [wpOps,ho,UO hs hg,if_true]
 obtain ⟨e1,_⟩:=hs.eval hx
 have hu:X.P.underlying t=some .string:=by
  have h2:=(htt.get ht).2.1
  have hkd:=Zd hkd
  unfold W3 at h2
  split at h2<;>simp_all
 have hsz:w.heap.size≤(w.alloc (.stringIter m 0)).heap.size:=by simp
 have h1:=hs.world (w':=w.alloc (.stringIter m 0)) rfl rfl .m hsz (fun b hb=>heap_alloc_old w _ hb)
 have h2:=h1.addM' (m:=.abs (WE w.heap.size m 0)) (heap_alloc_new w _) trivial (fun b hb=>by
  have e:b=w.heap.size:=hb
  subst e
  refine ⟨fun hF=>absurd (hs.hF _ hF) (Nat.lt_irrefl _),fun hZ=>?_,by simp,fun k m' hm hf=>absurd (hs.mF k m' hm _ hf).2.2 (Nat.lt_irrefl _)⟩
  have:=hs.hZ _ hZ
  have:=hs.ext.size
  omega) (fun h=>by cases h)
 refine .inl (Xg (w':=w.alloc (.stringIter m 0)) (v:=.pointer (some ⟨w.heap.size,0,none⟩)) ?_ (kk w.heap.size E F _ _ ?_))
 ·simp only [execOp,hop,e1,Zy,Zt]
  refine Yc ?_
  simp only [Instr.range,Sem.run_bind,Yk hu,Result.andThen_ok,Sem.run_pure,run_newObj]
  rfl
 ·rw [hd]
  exact h2.setL (d:=d) (v:=.c (.v (.pointer (some ⟨w.heap.size,0,none⟩)))) (by first | trivial | rfl) (Z3 hn)
theorem WPr.nxtF {i:Nat} {rest:List Nat} {o:Oper} {x:Operand} {d b p:Nat} (k:Nat) {m:ByteArray}
  (hlt:decide (p < m.size)=false) (ho:ops[i]? = some o) (hg:ZR ops s.L o=some true) (hop:o.op=.next x true) (hd:o.dst=some d)
  (hx:ZE s.L x=some (.c (.v (.pointer (some ⟨b,0,none⟩))))) (hm:Zk s.M k=some (.abs (WE b m p))) (hn:Nat.blt d X.fn.ntmps=true)
  (kk:WPr X ops rest todo ⟨(d,.t [.inl (.b false)])::s.L,s.M,s.V,s.nx⟩):WPr X ops (i::rest) todo s:=by
 refine WPr.op ho hg (fun E F w a hs=>?_) kk
 obtain ⟨e1,_⟩:=hs.eval hx
 have hb:w.heap[b]? = some (.stringIter m p):=hs.hM k _ hm
 have hlt:¬ p < m.size:=of_decide_eq_false hlt
 refine Xg (w':=w) (v:=.tuple #[.bool false]) ?_ ⟨E,F,?_⟩
 ·simp only [execOp,hop,e1,Zy,Zt]
  refine Yc ?_
  simp [Instr.next,getObj,Sem.run,hb,hlt]
 ·rw [hd]
  exact hs.setL (d:=d) (v:=.t [.inl (.b false)]) (fun v hv=>by simp at hv;subst hv;trivial) (Z3 hn)
theorem WPr.nxtT {i:Nat} {rest:List Nat} {o:Oper} {x:Operand} {d b p:Nat} (k:Nat) {m:ByteArray}
  (hlt:decide (p < m.size)=true) (ho:ops[i]? = some o) (hg:ZR ops s.L o=some true) (hop:o.op=.next x true) (hd:o.dst=some d)
  (hx:ZE s.L x=some (.c (.v (.pointer (some ⟨b,0,none⟩))))) (hm:Zk s.M k=some (.abs (WE b m p))) (hn:Nat.blt d X.fn.ntmps=true)
  (kk:WPr X ops rest todo ⟨(d,.t [.inl (.b true),.inl (.i .i64 (p:Int)),.inl (.i .i32 ((Utf8.decode m p).1:Int))])::s.L,(k,.abs (WE b m (p+(Utf8.decode m p).2)))::s.M,s.V,s.nx⟩):WPr X ops (i::rest) todo s:=by
 refine WPr.op ho hg (fun E F w a hs=>?_) kk
 obtain ⟨e1,_⟩:=hs.eval hx
 have hb:w.heap[b]? = some (.stringIter m p):=hs.hM k _ hm
 have hlt:p < m.size:=of_decide_eq_true hlt
 have hbs:b < w.heap.size:=by
  rcases Nat.lt_or_ge b w.heap.size with h | h
  ·exact h
  ·rw [Array.getElem?_eq_none h] at hb;cases hb
 have h1:=hs.setM (m':=.abs (WE b m (p+(Utf8.decode m p).2))) (w':={ w with heap:=w.heap.setIfInBounds b (.stringIter m (p+(Utf8.decode m p).2)) }) hm rfl rfl .m (by simp)
  (fun c hc hne=>by
   have:c≠b:=fun e=>hne e
   simp only [Array.getElem?_setIfInBounds]
   rw [if_neg (fun e=>this e.symm)])
  (fun _ h=>h) (by
   show (w.heap.setIfInBounds b _)[b]? = _
   simp [hbs]) trivial (fun h=>by cases h)
 refine Xg (w':={ w with heap:=w.heap.setIfInBounds b (.stringIter m (p+(Utf8.decode m p).2)) }) (v:=.tuple #[.bool true,goInt (p:Int),.int .i32 ((Utf8.decode m p).1:Int)]) ?_ ⟨E,F,?_⟩
 ·simp only [execOp,hop,e1,Zy,Zt]
  refine Yc ?_
  simp [Instr.next,getObj,setObj,Sem.run,hb,hlt]
 ·rw [hd]
  exact h1.setL (d:=d) (v:=.t [.inl (.b true),.inl (.i .i64 (p:Int)),.inl (.i .i32 ((Utf8.decode m p).1:Int))]) (fun v hv=>by
   simp at hv
   rcases hv with rfl | rfl | rfl<;>trivial) (Z3 hn)
end
end Go.Kx
end
section
namespace Go.Kx
variable [LxP]
section
variable {X:Ctx} {s:St} {tt:List (Nat × TD)} {ops:Array Oper} {todo:Act→World→Prop}
end
end Go.Kx
end
section
namespace Go.Kx
variable [LxP]
def Cf.ops:Cf→Array Oper
 | .rg _ o _ _ _=>o
 | _=>#[]
def Cf.i:Cf→Nat
 | .rg _ _ i _ _=>i
 | _=>0
def Cf.md:Cf→Option (Nat × St × List Ent)
 | .rg m _ _ _ _=>m
 | _=>none
def Cf.kk:Cf→List Item
 | .rg _ _ _ k _=>k
 | .co (_::k) _=>k
 | _=>[]
def Cf.st:Cf→St
 | .rg _ _ _ _ s=>s
 | .co _ s=>s
 | .no=>⟨[],[],[],0⟩
def Cf.isR:Cf→Bool
 | .rg _ _ _ _ _=>true
 | _=>false
def Zl (c:Cf):Oper:=(c.ops[c.i]?).getD default
def Zp (c:Cf):St:=UX c.md c.ops (Zl c) c.st
def Ym (d:Dl) (c:Cf):Cf:=Dv c.md c.ops c.i c.kk c.st (Zp c) d
def Ti (c:Cf):Bool:=c.isR && (c.ops[c.i]?).isSome && (match ZR c.ops (Zp c).L (Zl c) with | some b=>b | none=>false)
def ZV (c:Cf):Nat:=(Zl c).dst.getD 0
def VV (s:St):List Nat→List (Nat × MO) × List (Nat × VF)
 | []=>([],[])
 | k::r=>match Zk s.M k with
  | some (.own R xs _)=>match VV s r with
   | q=>((k,.gone)::q.1,(k,.sl R xs)::q.2)
  | _=>([],[])
def ZN (s:St) (fz:List Nat):St:=⟨s.L,(VV s fz).1++s.M,(VV s fz).2++s.V,s.nx⟩
def Tc (s:St) (fz:List Nat):Bool:=Y8 fz && fz.all fun k=>match Zk s.M k with
 | some (.own _ _ fr)=>fr
 | _=>false
def Dl.fz (d:Dl) (s:St) (fz:List Nat):Dl:=⟨d.dL,d.dM++(VV s fz).1,d.dV++(VV s fz).2,d.n⟩
theorem Dl.fz_ap (d:Dl) (s:St) (fz:List Nat):(d.fz s fz).ap s=d.ap (ZN s fz):=by
 simp [Dl.fz,Dl.ap,ZN]
theorem Zhq {s:St} {k:Nat}:∀ {fz:List Nat},k ∉ fz→Zk (VV s fz).1 k=none
 | [],_=>rfl
 | j::r,h=>by
  unfold VV
  split
  ·simp only []
   rw [ZQ,if_neg fun e=>h (by rw [e];exact List.mem_cons_self)]
   exact Zhq fun hm=>h (List.mem_cons_of_mem _ hm)
  ·rfl
theorem ZcV {X:Ctx} {s:St} {E F w a} (hs:Sat X s E F w a):∀ {fz:List Nat},Tc s fz=true→∃ F',Sat X (ZN s fz) E F' w a
 | [],_=>⟨F,hs⟩
 | k::r,h=>by
  unfold Tc at h
  simp only [Zc,List.all_cons] at h
  obtain ⟨h1,h2,h3⟩:=h
  have hk:k ∉ r∧Y8 r=true:=by
   have:=Pe h1
   rw [List.nodup_cons] at this
   refine ⟨this.1,?_⟩
   unfold Y8 at h1
   rw [Zc] at h1
   exact h1.2
  obtain ⟨F1,hs1⟩:=ZcV hs (fz:=r) (by unfold Tc;rw [Zc];exact ⟨hk.2,h3⟩)
  split at h2
  ·rename_i α R xs fr hm
   subst h2
   have hm':Zk (ZN s r).M k=some (.own R xs true):=by
    show Zk ((VV s r).1++s.M) k=_
    rw [YX,Zhq hk.1];exact hm
   refine ⟨fun b=>F1 b∨Z6 (E.ρ k)=some b,?_⟩
   have:=hs1.freeze hm'
   have e:VV s (k::r)=((k,.gone)::(VV s r).1,(k,.sl R xs)::(VV s r).2):=by
    conv=>lhs;unfold VV
    rw [hm]
   unfold ZN
   rw [e]
   exact this
  ·cases h2
section
variable {X:Ctx} {tt:List (Nat × TD)}
theorem Stp.of {ops:Array Oper} {i:Nat} {o:Oper} {s s1:St} (ho:ops[i]? = some o) (hg:ZR ops s.L o=some true) (r:∀ K,WPr X ops [] K s1→WPr X ops [i] K s) :
  ∀ E F w a,Sat X s E F w a→o.wp X.P a w (fun a' w'=>∃ E' F',Sat X s1 E' F' w' a') (fun _ _ _=>False):=fun E F w a hs=>by
 have h:=r (fun a' w'=>∃ E' F',Sat X s1 E' F' w' a') (fun E F w a hs=>⟨rfl,E,F,hs⟩) E F w a hs
 have hgk:=UO hs hg
 simp only [wpOps,ho,hgk,if_true] at h
 rcases h with h | ⟨_,h⟩
 ·unfold Oper.wp at h ⊢
  unfold Oper.upon at h ⊢
  split at h
  ·exact h.2
  ·exact h.2
  ·exact h.2
  ·refine Calls.mono h fun e w' hr=>?_
   split at hr
   ·exact hr.2
   ·cases hr.1
   ·obtain ⟨a1,w1,hf⟩:=hr;cases hf.1
  ·exact Rows.mono h fun v w' hr=>hr.2
  ·cases h.1
  ·exact h.elim
 ·obtain ⟨a1,w1,hf⟩:=h;cases hf.1
theorem Wc.ev {c:Cf} {d:Dl} (hr:Ti c=true) (hd:d.dL.map (·.1)=(Zl c).dst.toList)
    (r:∀ nk E0 F0 w0 n0 Z rest K,c.ops[c.i]? = some (Zl c)→ZR c.ops (Zp c).L (Zl c)=some true→WPr (X.var nk E0 F0 w0 n0 Z) c.ops rest K (d.ap (Zp c))→WPr (X.var nk E0 F0 w0 n0 Z) c.ops (c.i::rest) K (Zp c))
    (k:Wc X (Ym d c)):Wc X c:=by
  unfold Ti at hr
  rw [Zc,Zc] at hr
  obtain ⟨⟨h1,h2⟩,h3⟩:=hr
  cases c with
  | co k s=>cases h1
  | no=>cases h1
  | rg m ops i k' s =>
    have ho:ops[i]? = some (Zl (.rg m ops i k' s)):=by
      obtain ⟨o,ho⟩:=Option.isSome_iff_exists.1 h2
      have ho:ops[i]? = some o:=ho
      unfold Zl
      show _=some ((ops[i]?).getD default)
      rw [ho];rfl
    have hg:ZR ops (Zp (.rg m ops i k' s)).L (Zl (.rg m ops i k' s))=some true:=by
      split at h3
      · rename_i b hb;rw [h3] at hb;exact hb
      · cases h3
    exact Zfw ho hg hd (fun nk E0 F0 w0 n0 Z=>Stp.of (X:=X.var nk E0 F0 w0 n0 Z) ho hg (fun K=>r nk E0 F0 w0 n0 Z [] K ho hg)) k
theorem Wc.evz {c:Cf} {d:Dl} (fz:List Nat) (hr:Ti c=true) (hz:Tc (Zp c) fz=true) (hd:d.dL.map (·.1)=(Zl c).dst.toList)
    (r:∀ nk E0 F0 w0 n0 Z rest K,c.ops[c.i]? = some (Zl c)→ZR c.ops (ZN (Zp c) fz).L (Zl c)=some true→WPr (X.var nk E0 F0 w0 n0 Z) c.ops rest K (d.ap (ZN (Zp c) fz))→WPr (X.var nk E0 F0 w0 n0 Z) c.ops (c.i::rest) K (ZN (Zp c) fz))
    (k:Wc X (Ym (d.fz (Zp c) fz) c)):Wc X c:=by
  refine Wc.ev (d:=d.fz (Zp c) fz) hr hd (fun nk E0 F0 w0 n0 Z rest K ho hg h=>?_) k
  rw [Dl.fz_ap] at h
  have:=r nk E0 F0 w0 n0 Z rest K ho hg h
  intro E F w a hs
  obtain ⟨F',hs'⟩:=ZcV hs hz
  exact this E F' w a hs'
def ZM:Op→Nat→Operand
 | .indexAddr _ x y,j | .index _ x y,j | .store _ x y,j | .binOp _ _ x y _,j | .makeSlice _ x y,j=>match j with
  | 0=>x
  | _=>y
 | .load _ x,_ | .slice _ x _ _ _,_ | .convert _ _ x,_ | .range _ x,_ | .next x _,_=>x
 | .call c,j=>(c.args.toList[j]?).getD (.const (.bool true))
 | _,_=>.const (.bool true)
def Zz:Op→TypeId
 | .indexAddr t _ _ | .index t _ _ | .store t _ _ | .binOp _ t _ _ _ | .makeSlice t _ _ | .load t _ | .slice t _ _ _ _ | .convert t _ _ | .range t _ | .buildSlice t _ _=>t
 | .call c=>(c.argTypes.toList[0]?).getD 0
 | _=>0
def Yu:Op→TypeId
 | .convert _ t _ | .binOp _ _ _ _ t=>t
 | .call c=>(c.argTypes.toList[1]?).getD 0
 | _=>0
def V4:Op→Option Operand
 | .slice _ _ l _ _=>l
 | _=>none
def V5:Op→Option Operand
 | .slice _ _ _ h _=>h
 | _=>none
def Ug:Op→Operand
 | .call c=>match c.callee with
  | .value f=>f
  | _=>.const (.bool true)
 | _=>.const (.bool true)
def Lr:Op→Array Operand
 | .call c=>c.args
 | _=>#[]
def Ma:Op→Array TypeId
 | .call c=>c.argTypes
 | _=>#[]
def Vy:Op→Nat
 | .buildSlice _ n _=>n
 | _=>0
def Mi:Op→Array (Nat × Operand)
 | .buildSlice _ _ p=>p
 | _=>#[]
def Zr (c:Cf) (j:Nat):Option SV:=ZE (Zp c).L (ZM (Zl c).op j)
def ZP (tt:List (Nat × TD)) (t:TypeId):TD:=(Zk tt t).getD ⟨0,0,false,[],[],0,0,0,none,0,0⟩
def ZG:Option SV→Nat
 | some (.c (.sl k)) | some (.c (.px k _)) | some (.c (.bp k _))=>k
 | _=>0
def Xl:Option SV→Nat
 | some (.c (.px _ o)) | some (.c (.bp _ o))=>o
 | _=>0
def Uh:Option SV→IntKind
 | some (.c (.i k _))=>k
 | _=>.i64
def WO:Option SV→SC
 | some (.c x)=>x
 | _=>.nil
def TC:Option SV→List SC
 | some (.a cs)=>cs
 | _=>[]
def LV:Option SV→SV
 | some v=>v
 | none=>.u
def Ro (v:Option SV):List SC:=((W5 (LV v)).getD [])
def Zjq:Option SV→Int
 | some (.c (.i _ n))=>n
 | _=>0
def Zjh:Option SV→ByteArray
 | some (.c (.s m))=>m
 | _=>⟨#[]⟩
def Y9:Option MO→Bool
 | some (.own _ _ fr)=>fr
 | _=>false
def YL:Option VF→Nat
 | some (.el k _)=>k
 | some (.vw k _ _ _)=>k
 | _=>0
structure SlF:Type 1 where
 {α:Type}
 R:TRep α
 xs:List α
def Dz (s:St):SC→Option SlF
 | .sl k=>match Zk s.M k with
  | some (.own R xs _)=>some ⟨R,xs⟩
  | _=>match Zk s.V k with
   | some (.sl R xs)=>some ⟨R,xs⟩
   | _=>none
 | _=>none
theorem ZhY {s:St} {c:SC} {α:Type} {R:TRep α} {xs:List α} (h:Dz s c=some ⟨R,xs⟩):∃ k,c=.sl k∧(Zk s.V k=some (.sl R xs)∨∃ fr,Zk s.M k=some (.own R xs fr)):=by
 unfold Dz at h
 split at h
 ·rename_i k
  refine ⟨k,rfl,?_⟩
  split at h
  ·rename_i hm;cases h;exact .inr ⟨_,hm⟩
  ·split at h
   ·rename_i hv;cases h;exact .inl hv
   ·cases h
 ·cases h
theorem Zob {s:St} {c:SC} {α:Type} {R:TRep α} {xs:List α} (h:Dz s c=some ⟨R,xs⟩):Tw X s R xs c:=by
 obtain ⟨k,rfl,h | ⟨fr,h⟩⟩:=ZhY h
 ·exact ZrU h
 ·exact ZgQ h
def d1 (c:Cf) (v:SV):Dl:=⟨[(ZV c,v)],[],[],0⟩
theorem Ys {c:Cf} {L:List (Nat × SV)} {v:SV} (h:(Zl c).dst=some (ZV c)) (hl:L=[(ZV c,v)]):L.map (·.1)=(Zl c).dst.toList:=by rw [hl,h];rfl
def hB (nt:Nat) (c:Cf):Bool:=Ti c && Nat.blt (ZV c) nt
def U3 (tt:List (Nat × TD)) (sz:Nat) (c:Cf):Bool:=Nat.beq (ZP tt (Zz (Zl c).op)).kd 6 && Nat.beq (ZP tt (Zz (Zl c).op)).es sz
theorem Yp {nt:Nat} {c:Cf} (h:hB nt c=true):Ti c=true∧Nat.blt (ZV c) nt=true:=by
 unfold hB at h;rwa [Zc] at h
theorem SD {sz nt:Nat} {c:Cf} (h:U3 tt sz c=true) (hn:Nat.blt (ZV c) nt=true):(Nat.blt (ZV c) nt && Nat.beq (ZP tt (Zz (Zl c).op)).kd 6 && Nat.beq (ZP tt (Zz (Zl c).op)).es sz)=true:=by
 unfold U3 at h;rw [Bool.and_assoc,h,hn];rfl
def M5 {α:Type} (s:St) (ys:List α) (c:SC):Option SlF × ULift.{1,0} (List α):=match c with
 | .nil=>(none,⟨ys⟩)
 | c=>(Dz s c,⟨[]⟩)
def La {α:Type} (R:TRep α) (ys:List α) (c:SC):Option SlF × ULift.{1,0} (List α):=match c with
 | .nil=>(none,⟨[]⟩)
 | _=>(some ⟨R,ys⟩,⟨[]⟩)
theorem Zcm {α:Type} {R:TRep α} {s:St} {ys:List α} {c:SC} (h:M5 s ys c=La R ys c):Tw X s R ys c:=by
 unfold M5 at h
 split at h
 ·have:=congrArg ULift.down (Prod.mk.inj h).2
  have h:ys=[]:=this
  rw [h];exact ZqH
 ·rename_i h1
  unfold La at h
  split at h
  ·exact (h1 rfl).elim
  ·exact Zob (Prod.mk.inj h).1
def GV {α:Type} {R:TRep α} (O:Ya R) (V:Nat→Option VF):List α→List SC→List O.T
 | [],_=>[]
 | x::xs,cs=>O.lq V x (cs.take R.sz)::GV O V xs (cs.drop R.sz)
def Gi {α:Type} {R:TRep α} (O:Ya R) (V:Nat→Option VF):List α→List SC→List O.T
 | [],_=>[]
 | x::xs,cs=>O.rq V x (cs.take R.sz)::Gi O V xs (cs.drop R.sz)
def HM (sz:Nat) {α:Type}:List α→List SC→List SC
 | [],cs=>cs
 | _::xs,cs=>HM sz xs (cs.drop sz)
theorem Zbr {α:Type} {R:TRep α} {O:Ya R} {V:Nat→Option VF}:∀ {xs:List α} {cs:List SC},GV O V xs cs=Gi O V xs cs→HM R.sz xs cs=[]→Li O V xs cs
 | [],_,_,h=>h
 | _::_,_,h,g=>⟨O.eqn (List.cons.inj h).1,Zbr (List.cons.inj h).2 g⟩
def ZfZ:Op→Bool
 | .binOp .neq _ _ _ _=>true
 | _=>false
def BF:Option SV→List Nat
 | some (.c (.cl _ fs _))=>fs
 | _=>[]
def Mj:Option SV→List Nat
 | some (.c (.cl _ _ ks))=>ks
 | _=>[]
def Zra (s:St) (c:Ct) (l:List (Nat × SC)) (d:Nat):Dl :=
 ⟨[(d,XD ⟨l,c.nk,s.nx⟩ c.res)],c.M1.filterMap fun p=>(Wl ⟨l,c.nk,s.nx⟩ p.1 p.2).map fun j=>(j,Uo s ⟨l,c.nk,s.nx⟩ (TR s ⟨l,c.nk,s.nx⟩ c) c.nk p.1 p.2),c.V1.map fun p=>((⟨l,c.nk,s.nx⟩:Ren).sh p.1,p.2),c.nr-c.nk⟩
def D4 {α:Type} {R:TRep α} (O:Ya R) (e:α) (c:Cf):Dl:=⟨[(ZV c,.c (.px (Zp c).nx 0))],[],O.facts ((Zp c).nx+1) e++[((Zp c).nx,.pl (O.cells ((Zp c).nx+1) e))],1+O.nk⟩
def nIx {α:Type} {R:TRep α} (O:Ya R) (e:α) (c:Cf):Cf:=Ym (D4 O e c) c
theorem Zq {α:Type} {R:TRep α} {xs:List α} {m:Int} {e:α} {c:Cf} (htt:TTOk X.P tt) (O:Ya R) (hi:idx xs m=some e) (k:Wc X (nIx O e c))
  (hp:(hB X.fn.ntmps c,(Zl c).dst,(Zl c).op,Zr c 0,Zk (Zp c).V (ZG (Zr c 0)),Zr c 1,Zk tt (Zz (Zl c).op),U3 tt R.sz c)=(true,some (ZV c),.indexAddr (Zz (Zl c).op) (ZM (Zl c).op 0) (ZM (Zl c).op 1),some (.c (.sl (ZG (Zr c 0)))),some (.sl R xs),some (.c (.i (Uh (Zr c 1)) m)),some (ZP tt (Zz (Zl c).op)),true):=by kernel_rfl):Wc X c:=by
 simp only [Prod.mk.injEq] at hp
 obtain ⟨h1,h2,h3,h4,h5,h6,h7,h8⟩:=hp
 obtain ⟨h0,hn⟩:=Yp h1
 refine Wc.ev (d:=D4 O e c) h0 (Ys h2 rfl) (fun nk E0 F0 w0 n0 Z rest K ho hg h=>WPr.ix (X:=X.var nk E0 F0 w0 n0 Z) O htt hi ho hg h3 h2 h4 h5 h6 h7 (SD h8 hn) ?_) k
 have e1:(D4 O e c).ap (Zp c)=⟨(ZV c,.c (.px (Zp c).nx 0))::(Zp c).L,(Zp c).M,O.facts ((Zp c).nx+1) e++((Zp c).nx,.pl (O.cells ((Zp c).nx+1) e))::(Zp c).V,(Zp c).nx+1+O.nk⟩:=by
  simp [D4,Dl.ap,Nat.add_assoc]
 rw [← e1];exact h
def dIo (m:Int) (sz:Nat) (c:Cf):Dl:=⟨[(ZV c,.c (.px (Zp c).nx 0))],[],[((Zp c).nx,.el (ZG (Zr c 0)) (m.toNat * sz))],1⟩
def nIo (m:Int) (sz:Nat) (c:Cf):Cf:=Ym (dIo m sz c) c
theorem Z9 {α:Type} {xs:List α} {m:Int} {e:α} {c:Cf} (htt:TTOk X.P tt) (R:TRep α) (hi:idx xs m=some e) (k:Wc X (nIo m R.sz c))
  (hp:(hB X.fn.ntmps c,(Zl c).dst,(Zl c).op,Zr c 0,Zk (Zp c).M (ZG (Zr c 0)),Zr c 1,Zk tt (Zz (Zl c).op),U3 tt R.sz c)=(true,some (ZV c),.indexAddr (Zz (Zl c).op) (ZM (Zl c).op 0) (ZM (Zl c).op 1),some (.c (.sl (ZG (Zr c 0)))),some (.own R xs (Y9 (Zk (Zp c).M (ZG (Zr c 0))))),some (.c (.i (Uh (Zr c 1)) m)),some (ZP tt (Zz (Zl c).op)),true):=by kernel_rfl):Wc X c:=by
 simp only [Prod.mk.injEq] at hp
 obtain ⟨h1,h2,h3,h4,h5,h6,h7,h8⟩:=hp
 obtain ⟨h0,hn⟩:=Yp h1
 refine Wc.ev (d:=dIo m R.sz c) h0 (Ys h2 rfl) (fun nk E0 F0 w0 n0 Z rest K ho hg h=>WPr.ixo (X:=X.var nk E0 F0 w0 n0 Z) htt hi ho hg h3 h2 h4 h5 h6 h7 (SD h8 hn) h) k
def dLd {α:Type} {R:TRep α} (O:Ya R) (e:α) (tt:List (Nat × TD)) (c:Cf):Dl:=⟨[(ZV c,LV (Um (ZP tt (Zz (Zl c).op)) (Xl (Zr c 0)) (O.cells (Zp c).nx e)))],[],O.facts (Zp c).nx e,O.nk⟩
def nLd {α:Type} {R:TRep α} (O:Ya R) (e:α) (tt:List (Nat × TD)) (c:Cf):Cf:=Ym (dLd O e tt c) c
theorem YJ {α:Type} {R:TRep α} {xs:List α} {m:Int} {e:α} {c:Cf} (htt:TTOk X.P tt) (O:Ya R) (hi:idx xs m=some e) (k:Wc X (nLd O e tt c))
  (hp:(hB X.fn.ntmps c,(Zl c).dst,(Zl c).op,Zr c 0,Zk (Zp c).V (ZG (Zr c 0)),Zk (Zp c).M (YL (Zk (Zp c).V (ZG (Zr c 0)))),Zk tt (Zz (Zl c).op),Um (ZP tt (Zz (Zl c).op)) (Xl (Zr c 0)) (O.cells (Zp c).nx e))=(true,some (ZV c),.load (Zz (Zl c).op) (ZM (Zl c).op 0),some (.c (.px (ZG (Zr c 0)) (Xl (Zr c 0)))),some (.el (YL (Zk (Zp c).V (ZG (Zr c 0)))) (m.toNat * R.sz)),some (.own R xs (Y9 (Zk (Zp c).M (YL (Zk (Zp c).V (ZG (Zr c 0))))))),some (ZP tt (Zz (Zl c).op)),some (LV (Um (ZP tt (Zz (Zl c).op)) (Xl (Zr c 0)) (O.cells (Zp c).nx e)))):=by kernel_rfl):Wc X c:=by
 simp only [Prod.mk.injEq] at hp
 obtain ⟨h1,h2,h3,h4,h5,h6,h7,h8⟩:=hp
 obtain ⟨h0,hn⟩:=Yp h1
 refine Wc.ev (d:=dLd O e tt c) h0 (Ys h2 rfl) (fun nk E0 F0 w0 n0 Z rest K ho hg h=>WPr.ldo (X:=X.var nk E0 F0 w0 n0 Z) O htt hi ho hg h3 h2 h4 h5 h6 h7 h8 hn h) k
def dSt {α:Type} (R:TRep α) (xs:List α) (m:Int) (e2:α) (fz:List Nat) (c:Cf):Dl:=⟨[],[((YL (Zk (ZN (Zp c) fz).V (ZG (ZE (ZN (Zp c) fz).L (ZM (Zl c).op 0))))),.own R (ZW xs m e2) (Y9 (Zk (ZN (Zp c) fz).M (YL (Zk (ZN (Zp c) fz).V (ZG (ZE (ZN (Zp c) fz).L (ZM (Zl c).op 0))))))))],[],0⟩
def nSt {α:Type} (R:TRep α) (xs:List α) (m:Int) (e2:α) (fz:List Nat) (c:Cf):Cf:=Ym ((dSt R xs m e2 fz c).fz (Zp c) fz) c
theorem Xj {α:Type} {R:TRep α} {xs:List α} {m:Int} {e:α} {c:Cf} (htt:TTOk X.P tt) (fz:List Nat) (O:Ya R) (e2:α) (hi:idx xs m=some e) (k:Wc X (nSt R xs m e2 fz c))
  (hp:(Ti c,(Zl c).dst,Tc (Zp c) fz,(Zl c).op,(ZE (ZN (Zp c) fz).L (ZM (Zl c).op 0)),Zk (ZN (Zp c) fz).V (ZG (ZE (ZN (Zp c) fz).L (ZM (Zl c).op 0))),Zk (ZN (Zp c) fz).M (YL (Zk (ZN (Zp c) fz).V (ZG (ZE (ZN (Zp c) fz).L (ZM (Zl c).op 0))))),Zk tt (Zz (Zl c).op),(ZE (ZN (Zp c) fz).L (ZM (Zl c).op 1)),W5 (LV (ZE (ZN (Zp c) fz).L (ZM (Zl c).op 1))),O.lq (Zk (ZN (Zp c) fz).V) e2 ((O.cells (ZN (Zp c) fz).nx e).take (Xl (ZE (ZN (Zp c) fz).L (ZM (Zl c).op 0)))++(Ro (ZE (ZN (Zp c) fz).L (ZM (Zl c).op 1)))++(O.cells (ZN (Zp c) fz).nx e).drop ((Xl (ZE (ZN (Zp c) fz).L (ZM (Zl c).op 0)))+(Ro (ZE (ZN (Zp c) fz).L (ZM (Zl c).op 1))).length)),(Nat.beq (Ro (ZE (ZN (Zp c) fz).L (ZM (Zl c).op 1))).length (ZP tt (Zz (Zl c).op)).sz && Nat.ble ((Xl (ZE (ZN (Zp c) fz).L (ZM (Zl c).op 0)))+(Ro (ZE (ZN (Zp c) fz).L (ZM (Zl c).op 1))).length) R.sz && (Nat.beq (Ro (ZE (ZN (Zp c) fz).L (ZM (Zl c).op 1))).length R.sz || Nat.beq O.nk 0)))=(true,none,true,.store (Zz (Zl c).op) (ZM (Zl c).op 0) (ZM (Zl c).op 1),some (.c (.px (ZG (ZE (ZN (Zp c) fz).L (ZM (Zl c).op 0))) (Xl (ZE (ZN (Zp c) fz).L (ZM (Zl c).op 0))))),some (.el (YL (Zk (ZN (Zp c) fz).V (ZG (ZE (ZN (Zp c) fz).L (ZM (Zl c).op 0))))) (m.toNat * R.sz)),some (.own R xs (Y9 (Zk (ZN (Zp c) fz).M (YL (Zk (ZN (Zp c) fz).V (ZG (ZE (ZN (Zp c) fz).L (ZM (Zl c).op 0)))))))),some (ZP tt (Zz (Zl c).op)),some (LV (ZE (ZN (Zp c) fz).L (ZM (Zl c).op 1))),some (Ro (ZE (ZN (Zp c) fz).L (ZM (Zl c).op 1))),O.rq (Zk (ZN (Zp c) fz).V) e2 ((O.cells (ZN (Zp c) fz).nx e).take (Xl (ZE (ZN (Zp c) fz).L (ZM (Zl c).op 0)))++(Ro (ZE (ZN (Zp c) fz).L (ZM (Zl c).op 1)))++(O.cells (ZN (Zp c) fz).nx e).drop ((Xl (ZE (ZN (Zp c) fz).L (ZM (Zl c).op 0)))+(Ro (ZE (ZN (Zp c) fz).L (ZM (Zl c).op 1))).length)),true):=by kernel_rfl):Wc X c:=by
 simp only [Prod.mk.injEq] at hp
 obtain ⟨h1,h2,h3,h4,h5,h6,h7,h8,h9,h10,h11,h12⟩:=hp
 have h0:=h1
 refine Wc.evz (d:=dSt R xs m e2 fz c) fz h0 h3 (by rw [h2];rfl) (fun nk E0 F0 w0 n0 Z rest K ho hg h=>WPr.sto (X:=X.var nk E0 F0 w0 n0 Z) O htt e2 hi ho hg h4 h2 h5 h6 h7 h8 h9 h10 (O.eqn h11) h12 h) k
def dAp {α:Type} (R:TRep α) (zs:List α) (c:Cf):Dl:=⟨[(ZV c,.c (.sl (Zp c).nx))],[((Zp c).nx,.own R zs (Y9 (Zk (Zp c).M (ZG (Zr c 0))))),((ZG (Zr c 0)),.gone)],[],1⟩
def nAp {α:Type} (R:TRep α) (zs:List α) (c:Cf):Cf:=Ym (dAp R zs c) c
theorem Yr {α:Type} {xs ys zs:List α} {c:Cf} (htt:TTOk X.P tt) (R:TRep α) (hz:Z7 xs ys=some zs) (k:Wc X (nAp R zs c))
  (hp:(hB X.fn.ntmps c,(Zl c).dst,(Zl c).op,Zr c 0,Zk (Zp c).M (ZG (Zr c 0)),Zr c 1,Zk tt (Zz (Zl c).op),Zk tt (Yu (Zl c).op),(Nat.beq (ZP tt (Zz (Zl c).op)).kd 6 && (Nat.beq (ZP tt (Yu (Zl c).op)).kd 6 || Nat.beq (ZP tt (Yu (Zl c).op)).kd 2) && Nat.beq (ZP tt (Zz (Zl c).op)).es R.sz && Nat.ble (ZP tt (Zz (Zl c).op)).eb 32768),M5 (Zp c) ys (WO (Zr c 1)))=(true,some (ZV c),.call { callee:=.builtin .append,args:=#[ZM (Zl c).op 0,ZM (Zl c).op 1],argTypes:=#[Zz (Zl c).op,Yu (Zl c).op] },some (.c (.sl (ZG (Zr c 0)))),some (.own R xs (Y9 (Zk (Zp c).M (ZG (Zr c 0))))),some (.c (WO (Zr c 1))),some (ZP tt (Zz (Zl c).op)),some (ZP tt (Yu (Zl c).op)),true,La R ys (WO (Zr c 1))):=by kernel_rfl):Wc X c:=by
 simp only [Prod.mk.injEq] at hp
 obtain ⟨h1,h2,h3,h4,h5,h6,h7,h8,h9,h10⟩:=hp
 obtain ⟨h0,hn⟩:=Yp h1
 refine Wc.ev (d:=dAp R zs c) h0 (Ys h2 rfl) (fun nk E0 F0 w0 n0 Z rest K ho hg h=>WPr.app (X:=X.var nk E0 F0 w0 n0 Z) htt hz (Zcm h10) ho hg h3 h2 h4 h5 h6 h7 h8 (by rw [hn];simpa using h9) h) k
def dBs {α:Type} (R:TRep α) (xs:List α) (fz:List Nat) (c:Cf):Dl:=⟨[(ZV c,.c (.sl (ZN (Zp c) fz).nx))],[((ZN (Zp c) fz).nx,.own R xs true)],[],1⟩
def nBs {α:Type} (R:TRep α) (xs:List α) (fz:List Nat) (c:Cf):Cf:=Ym ((dBs R xs fz c).fz (Zp c) fz) c
theorem Z8 {α:Type} {R:TRep α} {c:Cf} (htt:TTOk X.P tt) (fz:List Nat) (O:Ya R) (xs:List α) (k:Wc X (nBs R xs fz c))
  (hp:(hB X.fn.ntmps c,(Zl c).dst,Tc (Zp c) fz,(Zl c).op,Zk tt (Zz (Zl c).op),Zk tt (ZP tt (Zz (Zl c).op)).el,(WU (Wv (ZP tt (Zz (Zl c).op)).es (Vy (Zl c).op)) (ZN (Zp c) fz).L (Mi (Zl c).op).toList (V3 (ZP tt (ZP tt (Zz (Zl c).op)).el).z (Vy (Zl c).op * (ZP tt (Zz (Zl c).op)).es))),GV O (Zk (ZN (Zp c) fz).V) xs ((WU (Wv (ZP tt (Zz (Zl c).op)).es (Vy (Zl c).op)) (ZN (Zp c) fz).L (Mi (Zl c).op).toList (V3 (ZP tt (ZP tt (Zz (Zl c).op)).el).z (Vy (Zl c).op * (ZP tt (Zz (Zl c).op)).es))).getD []),HM R.sz xs ((WU (Wv (ZP tt (Zz (Zl c).op)).es (Vy (Zl c).op)) (ZN (Zp c) fz).L (Mi (Zl c).op).toList (V3 (ZP tt (ZP tt (Zz (Zl c).op)).el).z (Vy (Zl c).op * (ZP tt (Zz (Zl c).op)).es))).getD []),(Nat.beq (ZP tt (Zz (Zl c).op)).kd 6 && Nat.beq (ZP tt (Zz (Zl c).op)).es R.sz && Nat.beq xs.length (Vy (Zl c).op) && Nat.ble (Vy (Zl c).op * (ZP tt (Zz (Zl c).op)).es) 16777216 && !(ZP tt (ZP tt (Zz (Zl c).op)).el).z.isEmpty))=(true,some (ZV c),true,.buildSlice (Zz (Zl c).op) (Vy (Zl c).op) (Mi (Zl c).op),some (ZP tt (Zz (Zl c).op)),some (ZP tt (ZP tt (Zz (Zl c).op)).el),some ((WU (Wv (ZP tt (Zz (Zl c).op)).es (Vy (Zl c).op)) (ZN (Zp c) fz).L (Mi (Zl c).op).toList (V3 (ZP tt (ZP tt (Zz (Zl c).op)).el).z (Vy (Zl c).op * (ZP tt (Zz (Zl c).op)).es))).getD []),Gi O (Zk (ZN (Zp c) fz).V) xs ((WU (Wv (ZP tt (Zz (Zl c).op)).es (Vy (Zl c).op)) (ZN (Zp c) fz).L (Mi (Zl c).op).toList (V3 (ZP tt (ZP tt (Zz (Zl c).op)).el).z (Vy (Zl c).op * (ZP tt (Zz (Zl c).op)).es))).getD []),[],true):=by kernel_rfl):Wc X c:=by
 simp only [Prod.mk.injEq] at hp
 obtain ⟨h1,h2,h3,h4,h5,h6,h7,h8,h9,h10⟩:=hp
 obtain ⟨h0,hn⟩:=Yp h1
 refine Wc.evz (d:=dBs R xs fz c) fz h0 h3 (Ys h2 rfl) (fun nk E0 F0 w0 n0 Z rest K ho hg h=>WPr.bs (X:=X.var nk E0 F0 w0 n0 Z) O htt xs ho hg h4 h2 h5 h6 h7 (Zbr h8 h9) (by rw [hn];simpa using h10) h) k
def dMk {α:Type} (R:TRep α) (xs:List α) (c:Cf):Dl:=⟨[(ZV c,.c (.sl (Zp c).nx))],[((Zp c).nx,.own R xs true)],[],1⟩
def nMk {α:Type} (R:TRep α) (xs:List α) (c:Cf):Cf:=Ym (dMk R xs c) c
theorem Ue {α:Type} {R:TRep α} {z:α} {l m:Int} {xs:List α} {c:Cf} (htt:TTOk X.P tt) (O:Ya R) (hm:YG z l m=some xs) (k:Wc X (nMk R xs c))
  (hp:(hB X.fn.ntmps c,(Zl c).dst,(Zl c).op,Zk tt (Zz (Zl c).op),Zk tt (ZP tt (Zz (Zl c).op)).el,Zr c 0,Zr c 1,GV O (Zk (Zp c).V) [z] (ZP tt (ZP tt (Zz (Zl c).op)).el).z,HM R.sz [z] (ZP tt (ZP tt (Zz (Zl c).op)).el).z,(Nat.beq (ZP tt (Zz (Zl c).op)).kd 6 && Nat.beq (ZP tt (Zz (Zl c).op)).es R.sz && Nat.ble (ZP tt (Zz (Zl c).op)).eb 32768 && !(ZP tt (ZP tt (Zz (Zl c).op)).el).z.isEmpty))=(true,some (ZV c),.makeSlice (Zz (Zl c).op) (ZM (Zl c).op 0) (ZM (Zl c).op 1),some (ZP tt (Zz (Zl c).op)),some (ZP tt (ZP tt (Zz (Zl c).op)).el),some (.c (.i (Uh (Zr c 0)) l)),some (.c (.i (Uh (Zr c 1)) m)),Gi O (Zk (Zp c).V) [z] (ZP tt (ZP tt (Zz (Zl c).op)).el).z,[],true):=by kernel_rfl):Wc X c:=by
 simp only [Prod.mk.injEq] at hp
 obtain ⟨h1,h2,h3,h4,h5,h6,h7,h8,h9,h10⟩:=hp
 obtain ⟨h0,hn⟩:=Yp h1
 refine Wc.ev (d:=dMk R xs c) h0 (Ys h2 rfl) (fun nk E0 F0 w0 n0 Z rest K ho hg h=>WPr.mk (X:=X.var nk E0 F0 w0 n0 Z) O htt z hm ho hg h3 h2 h4 h5 h6 h7 (Zbr h8 h9) (by rw [hn];simpa using h10) h) k
def dIs {α:Type} (R:TRep α) (zs:List α) (c:Cf):Dl:=⟨[(ZV c,.c (.sl (Zp c).nx))],[],[((Zp c).nx,.sl R zs)],1⟩
def nIs {α:Type} (R:TRep α) (zs:List α) (c:Cf):Cf:=Ym (dIs R zs c) c
theorem Gz {α:Type} {xs zs:List α} {lo hi:Option Int} {c:Cf} (htt:TTOk X.P tt) (R:TRep α) (hz:lsl xs lo hi=some zs) (k:Wc X (nIs R zs c))
    (hp:(hB X.fn.ntmps c,(Zl c).dst,(Zl c).op,Zk tt (Zz (Zl c).op),Zr c 0,Zk (Zp c).V (ZG (Zr c 0)),Y1 (Zp c).L (V4 (Zl c).op),Y1 (Zp c).L (V5 (Zl c).op),((Y1 (Zp c).L (V4 (Zl c).op)).getD none).map (·.2),((Y1 (Zp c).L (V5 (Zl c).op)).getD none).map (·.2),U3 tt R.sz c)=(true,some (ZV c),.slice (Zz (Zl c).op) (ZM (Zl c).op 0) (V4 (Zl c).op) (V5 (Zl c).op) none,some (ZP tt (Zz (Zl c).op)),some (.c (.sl (ZG (Zr c 0)))),some (.sl R xs),some ((Y1 (Zp c).L (V4 (Zl c).op)).getD none),some ((Y1 (Zp c).L (V5 (Zl c).op)).getD none),lo,hi,true):=by kernel_rfl):Wc X c:=by
  simp only [Prod.mk.injEq] at hp
  obtain ⟨h1,h2,h3,h4,h5,h6,h7,h8,h9,h10,h11⟩:=hp
  obtain ⟨h0,hn⟩:=Yp h1
  refine Wc.ev (d:=dIs R zs c) h0 (Ys h2 rfl) (fun nk E0 F0 w0 n0 Z rest K ho hg h=>WPr.isl (X:=X.var nk E0 F0 w0 n0 Z) htt (by rw [h9,h10];exact hz) ho hg h3 h2 h4 h5 h6 h7 h8 (SD h11 hn) h) k
def dVw (lo hi:Option Int) (sz:Nat) (c:Cf):Dl:=⟨[(ZV c,.c (.sl (Zp c).nx))],[],[((Zp c).nx,.vw (ZG (Zr c 0)) lo hi sz)],1⟩
def nVw (lo hi:Option Int) (sz:Nat) (c:Cf):Cf:=Ym (dVw lo hi sz c) c
theorem UQ {α:Type} {xs zs:List α} {lo hi:Option Int} {c:Cf} (htt:TTOk X.P tt) (R:TRep α) (hz:lsl xs lo hi=some zs) (k:Wc X (nVw lo hi R.sz c))
    (hp:(hB X.fn.ntmps c,(Zl c).dst,(Zl c).op,Zk tt (Zz (Zl c).op),Zr c 0,Zk (Zp c).M (ZG (Zr c 0)),Y1 (Zp c).L (V4 (Zl c).op),Y1 (Zp c).L (V5 (Zl c).op),((Y1 (Zp c).L (V4 (Zl c).op)).getD none).map (·.2),((Y1 (Zp c).L (V5 (Zl c).op)).getD none).map (·.2),U3 tt R.sz c)=(true,some (ZV c),.slice (Zz (Zl c).op) (ZM (Zl c).op 0) (V4 (Zl c).op) (V5 (Zl c).op) none,some (ZP tt (Zz (Zl c).op)),some (.c (.sl (ZG (Zr c 0)))),some (.own R xs (Y9 (Zk (Zp c).M (ZG (Zr c 0))))),some ((Y1 (Zp c).L (V4 (Zl c).op)).getD none),some ((Y1 (Zp c).L (V5 (Zl c).op)).getD none),lo,hi,true):=by kernel_rfl):Wc X c:=by
  simp only [Prod.mk.injEq] at hp
  obtain ⟨h1,h2,h3,h4,h5,h6,h7,h8,h9,h10,h11⟩:=hp
  obtain ⟨h0,hn⟩:=Yp h1
  refine Wc.ev (d:=dVw lo hi R.sz c) h0 (Ys h2 rfl) (fun nk E0 F0 w0 n0 Z rest K ho hg h=>WPr.vw (X:=X.var nk E0 F0 w0 n0 Z) htt (by rw [h9,h10];exact hz) ho hg h3 h2 h4 h5 h6 h7 h8 (SD h11 hn) (by rw [h9,h10];exact h)) k
def dSs (z:ByteArray) (c:Cf):Dl:=d1 c (.c (.s z))
def nSs (z:ByteArray) (c:Cf):Cf:=Ym (dSs z c) c
theorem Rm {b z:ByteArray} {lo hi:Option Int} {c:Cf} (htt:TTOk X.P tt) (hz:ssl b lo hi=some z) (k:Wc X (nSs z c))
    (hp:(hB X.fn.ntmps c,(Zl c).dst,(Zl c).op,Zk tt (Zz (Zl c).op),Nat.beq (ZP tt (Zz (Zl c).op)).kd 2,Zr c 0,Y1 (Zp c).L (V4 (Zl c).op),Y1 (Zp c).L (V5 (Zl c).op),((Y1 (Zp c).L (V4 (Zl c).op)).getD none).map (·.2),((Y1 (Zp c).L (V5 (Zl c).op)).getD none).map (·.2))=(true,some (ZV c),.slice (Zz (Zl c).op) (ZM (Zl c).op 0) (V4 (Zl c).op) (V5 (Zl c).op) none,some (ZP tt (Zz (Zl c).op)),true,some (.c (.s b)),some ((Y1 (Zp c).L (V4 (Zl c).op)).getD none),some ((Y1 (Zp c).L (V5 (Zl c).op)).getD none),lo,hi):=by kernel_rfl):Wc X c:=by
  simp only [Prod.mk.injEq] at hp
  obtain ⟨h1,h2,h3,h4,h5,h6,h7,h8,h9,h10⟩:=hp
  obtain ⟨h0,hn⟩:=Yp h1
  refine Wc.ev (d:=dSs z c) h0 (Ys h2 rfl) (fun nk E0 F0 w0 n0 Z rest K ho hg h=>WPr.ssl (X:=X.var nk E0 F0 w0 n0 Z) htt (by rw [h9,h10];exact hz) ho hg h3 h2 h4 h5 h6 h7 h8 hn h) k
def dSx (z:Int) (c:Cf):Dl:=d1 c (.c (.i .u8 z))
def nSx (z:Int) (c:Cf):Cf:=Ym (dSx z c) c
theorem XW {b:ByteArray} {m z:Int} {c:Cf} (htt:TTOk X.P tt) (hz:YR b m=some z) (k:Wc X (nSx z c))
  (hp:(hB X.fn.ntmps c,(Zl c).dst,(Zl c).op,Zk tt (Zz (Zl c).op),Nat.beq (ZP tt (Zz (Zl c).op)).kd 2,Zr c 0,Zr c 1)=(true,some (ZV c),.index (Zz (Zl c).op) (ZM (Zl c).op 0) (ZM (Zl c).op 1),some (ZP tt (Zz (Zl c).op)),true,some (.c (.s b)),some (.c (.i (Uh (Zr c 1)) m))):=by kernel_rfl):Wc X c:=by
 simp only [Prod.mk.injEq] at hp
 obtain ⟨h1,h2,h3,h4,h5,h6,h7⟩:=hp
 obtain ⟨h0,hn⟩:=Yp h1
 refine Wc.ev (d:=dSx z c) h0 (Ys h2 rfl) (fun nk E0 F0 w0 n0 Z rest K ho hg h=>WPr.sx (X:=X.var nk E0 F0 w0 n0 Z) htt hz ho hg h3 h2 h4 h5 h6 h7 hn h) k
def dCa (z:ByteArray) (c:Cf):Dl:=d1 c (.c (.s z))
def nCa (z:ByteArray) (c:Cf):Cf:=Ym (dCa z c) c
theorem ZC {a b z:ByteArray} {c:Cf} (hz:Zv a b=some z) (k:Wc X (nCa z c))
  (hp:(hB X.fn.ntmps c,(Zl c).dst,(Zl c).op,Zr c 0,Zr c 1)=(true,some (ZV c),.binOp .add (Zz (Zl c).op) (ZM (Zl c).op 0) (ZM (Zl c).op 1) (Yu (Zl c).op),some (.c (.s a)),some (.c (.s b))):=by kernel_rfl):Wc X c:=by
 simp only [Prod.mk.injEq] at hp
 obtain ⟨h1,h2,h3,h4,h5⟩:=hp
 obtain ⟨h0,hn⟩:=Yp h1
 refine Wc.ev (d:=dCa z c) h0 (Ys h2 rfl) (fun nk E0 F0 w0 n0 Z rest K ho hg h=>WPr.cat (X:=X.var nk E0 F0 w0 n0 Z) hz ho hg h3 h2 h4 h5 hn h) k
def dBi (ik:IntKind) (z:Int) (c:Cf):Dl:=d1 c (.c (.i ik z))
def nBi (ik:IntKind) (z:Int) (c:Cf):Cf:=Ym (dBi ik z c) c
theorem Qm {op:BinOp} {ik:IntKind} {m m2 z:Int} {c:Cf} (hz:Vz op ik m m2=some z) (k:Wc X (nBi ik z c))
  (hp:(hB X.fn.ntmps c,(Zl c).dst,(Zl c).op,Zr c 0,Zr c 1,(Dn op || decide (ik=Uh (Zr c 1))))=(true,some (ZV c),.binOp op (Zz (Zl c).op) (ZM (Zl c).op 0) (ZM (Zl c).op 1) (Yu (Zl c).op),some (.c (.i ik m)),some (.c (.i (Uh (Zr c 1)) m2)),true):=by kernel_rfl):Wc X c:=by
 simp only [Prod.mk.injEq] at hp
 obtain ⟨h1,h2,h3,h4,h5,h6⟩:=hp
 obtain ⟨h0,hn⟩:=Yp h1
 refine Wc.ev (d:=dBi ik z c) h0 (Ys h2 rfl) (fun nk E0 F0 w0 n0 Z rest K ho hg h=>WPr.bin (X:=X.var nk E0 F0 w0 n0 Z) hz ho hg h3 h2 h4 h5 h6 hn h) k
def dEq (P:Program) (c:Cf):Dl:=d1 c (.c (.b (bif ZfZ (Zl c).op then !((WI P 20 (Zz (Zl c).op) (TC (Zr c 0)) (TC (Zr c 1))).getD false) else (WI P 20 (Zz (Zl c).op) (TC (Zr c 0)) (TC (Zr c 1))).getD false)))
def nEq (P:Program) (c:Cf):Cf:=Ym (dEq P c) c
theorem R9 {c:Cf}  (k:Wc X (nEq X.P c))
  (hp:(hB X.fn.ntmps c,(Zl c).dst,Xf X.P (Zz (Zl c).op),(WI X.P 20 (Zz (Zl c).op) (TC (Zr c 0)) (TC (Zr c 1))),X.P.eqGuardType X.P.depth (Zz (Zl c).op),(Zl c).op,Zr c 0,Zr c 1)=(true,some (ZV c),true,some ((WI X.P 20 (Zz (Zl c).op) (TC (Zr c 0)) (TC (Zr c 1))).getD false),false,.binOp (bif ZfZ (Zl c).op then .neq else .eql) (Zz (Zl c).op) (ZM (Zl c).op 0) (ZM (Zl c).op 1) (Yu (Zl c).op),some (.a (TC (Zr c 0))),some (.a (TC (Zr c 1)))):=by kernel_rfl):Wc X c:=by
 simp only [Prod.mk.injEq] at hp
 obtain ⟨h1,h2,h3,h4,h5,h6,h7,h8⟩:=hp
 obtain ⟨h0,hn⟩:=Yp h1
 refine Wc.ev (d:=dEq X.P c) h0 (Ys h2 rfl) (fun nk E0 F0 w0 n0 Z rest K ho hg h=>WPr.eqa (X:=X.var nk E0 F0 w0 n0 Z) (ZsQ h3 h4) h5 ho hg h6 h2 h7 h8 hn h) k
def dCb (ct:Ct) (l:List (Nat × SC)) (fz:List Nat) (c:Cf):Dl:=Zra (ZN (Zp c) fz) ct l (ZV c)
def nCb (ct:Ct) (l:List (Nat × SC)) (fz:List Nat) (c:Cf):Cf:=Ym ((dCb ct l fz c).fz (Zp c) fz) c
theorem Xe {f:FuncId} {ct:Ct} {c:Cf} (hf:Fn X.P f ct) (fz:List Nat) (l:List (Nat × SC)) (bor:List Nat) (hflat:bor=[]∨(ct.V1=[]∧Ui ct.M1)) (k:Wc X (nCb ct l fz c))
  (hp:(hB X.fn.ntmps c,(Zl c).dst,Tc (Zp c) fz,(Zl c).op,ZE (ZN (Zp c) fz).L (Ug (Zl c).op),(WK (ZN (Zp c) fz).L (Lr (Zl c).op).toList).map (fun vs=>VP (BF (ZE (ZN (Zp c) fz).L (Ug (Zl c).op)))++vs++VP (Mj (ZE (ZN (Zp c) fz).L (Ug (Zl c).op)))),ct.V0.map (fun p=>Uy (ZN (Zp c) fz) ⟨l,ct.nk,(ZN (Zp c) fz).nx⟩ bor p.1 p.2),ct.M0.map (fun p=>X3 (ZN (Zp c) fz) ⟨l,ct.nk,(ZN (Zp c) fz).nx⟩ p.1 p.2),VK (ZN (Zp c) fz) ct l bor)=(true,some (ZV c),true,.call { callee:=.value (Ug (Zl c).op),args:=Lr (Zl c).op,argTypes:=Ma (Zl c).op },some (.c (.cl f (BF (ZE (ZN (Zp c) fz).L (Ug (Zl c).op))) (Mj (ZE (ZN (Zp c) fz).L (Ug (Zl c).op))))),some (ct.args.map (XD ⟨l,ct.nk,(ZN (Zp c) fz).nx⟩)),ct.V0.map (fun p=>some p.2),ct.M0.map (fun p=>some (X9 ⟨l,ct.nk,(ZN (Zp c) fz).nx⟩ p.2)),true):=by kernel_rfl):Wc X c:=by
 simp only [Prod.mk.injEq] at hp
 obtain ⟨h1,h2,h3,h4,h5,h6,h7,h8,h9⟩:=hp
 obtain ⟨h0,hn⟩:=Yp h1
 refine Wc.evz (d:=dCb ct l fz c) fz h0 h3 (Ys h2 rfl) (fun nk E0 F0 w0 n0 Z rest K ho hg h=>WPr.callc (X:=X.var nk E0 F0 w0 n0 Z) hf l bor ho hg h4 h2 hn h5 h6 h7 h8 hflat h9 h) k
theorem Zn {f:FuncId} {ct:Ct} {c:Cf} (hf:Fn X.P f ct) (fz:List Nat) (l:List (Nat × SC)) (k:Wc X (nCb ct l fz c))
  (hp:(hB X.fn.ntmps c,(Zl c).dst,Tc (Zp c) fz,(Zl c).op,ZE (ZN (Zp c) fz).L (Ug (Zl c).op),(WK (ZN (Zp c) fz).L (Lr (Zl c).op).toList).map (fun vs=>VP (BF (ZE (ZN (Zp c) fz).L (Ug (Zl c).op)))++vs++VP (Mj (ZE (ZN (Zp c) fz).L (Ug (Zl c).op)))),ct.V0.map (fun p=>Uy (ZN (Zp c) fz) ⟨l,ct.nk,(ZN (Zp c) fz).nx⟩ [] p.1 p.2),ct.M0.map (fun p=>X3 (ZN (Zp c) fz) ⟨l,ct.nk,(ZN (Zp c) fz).nx⟩ p.1 p.2),VK (ZN (Zp c) fz) ct l [])=(true,some (ZV c),true,.call { callee:=.value (Ug (Zl c).op),args:=Lr (Zl c).op,argTypes:=Ma (Zl c).op },some (.c (.cl f (BF (ZE (ZN (Zp c) fz).L (Ug (Zl c).op))) (Mj (ZE (ZN (Zp c) fz).L (Ug (Zl c).op))))),some (ct.args.map (XD ⟨l,ct.nk,(ZN (Zp c) fz).nx⟩)),ct.V0.map (fun p=>some p.2),ct.M0.map (fun p=>some (X9 ⟨l,ct.nk,(ZN (Zp c) fz).nx⟩ p.2)),true):=by kernel_rfl):Wc X c:=Xe hf fz l [] (.inl rfl) k hp
end
end Go.Kx
end
section
namespace Go.Kx
variable [LxP]
def Cf.isC:Cf→Bool
 | .co _ _=>true
 | _=>false
def Cf.itm:Cf→List Item
 | .co k _=>k
 | _=>[]
section
variable {X:Ctx} {tt:List (Nat × TD)}
theorem Wc.co {c:Cf} (h:c.isC=true) (k:WP X c.itm c.st):Wc X c:=by
 cases c with
 | co _ _=>exact ⟨k⟩
 | rg _ _ _ _ _=>cases h
 | no=>cases h
def U5:Cf→Nat
 | .co (.code (.cond (.tmp d) _ _)::_) _=>d
 | .rg _ ops i _ _=>match ops[i]? with
  | some o=>match o.guard with
   | some (j,_)=>match ops[j]? with
    | some oj=>oj.dst.getD 0
    | none=>0
   | none=>0
  | none=>0
 | _=>0
def gjC (c:Cf):Nat:=match (Zl c).guard with
 | some (j,_)=>j
 | none=>0
def Lp:Cf→Option (List (Nat × SV))
 | .rg (some q) ops i k s=>some (Z1 q.2.2 (gjC (.rg (some q) ops i k s))).dL
 | _=>none
def ME (b:Bool):Cf→Option (List (Nat × SV))
 | .rg (some q) ops i k s=>some [(U5 (.rg (some q) ops i k s),.c (.b b))]
 | _=>none
def setL (d:Nat) (b:Bool) (s:St):St:=⟨(d,.c (.b b))::s.L,s.M,s.V,s.nx⟩
def Hm (j d:Nat) (b:Bool) (es:List Ent):List Ent:=es.set j { Z1 es j with dL:=[(d,.c (.b b))] }
def Tb (t:Bool):Cf→Cf
 | .co k s=>.co k (setL (U5 (.co k s)) t s)
 | .rg none ops i k s=>.rg none ops i k (setL (U5 (.rg none ops i k s)) t s)
 | .rg (some q) ops i k s=>.rg (some (q.1,q.2.1,Hm (gjC (.rg (some q) ops i k s)) (U5 (.rg (some q) ops i k s)) t q.2.2)) ops i k (setL (U5 (.rg (some q) ops i k s)) t s)
 | .no=>.no
theorem ZpU {j d:Nat} {b:Bool} {es:List Ent} (h:(Z1 es j).dL=[(d,.c (.b b))]):Hm j d b es=es:=by
 unfold Hm
 rw [← h]
 show es.set j (Z1 es j)=es
 unfold Z1
 by_cases hj:j < es.length
 ·rw [show es.getD j Zgl=es[j] by simp [List.getD,hj],List.set_getElem_self]
 ·exact List.set_eq_of_length_le (Nat.not_lt.1 hj)
theorem eK {b t:Bool} (K:b=t) {c:Cf} (k:Wc X (Tb t c)) (hp:(Zk c.st.L (U5 c),Lp c)=(some (.c (.b b)),ME b c):=by kernel_rfl):Wc X c:=by
 subst K
 obtain ⟨h1,h2⟩:=Prod.mk.inj hp
 cases c with
 | no=>exact k.1.elim
 | co k' s=>exact ⟨fun E F w a hs=>k.1 E F w a (Sat.setL0 hs h1 rfl trivial)⟩
 | rg m ops i k' s =>
  cases m with
  | none=>exact ⟨WPr.kb _ rfl h1 k.1⟩
  | some q =>
   refine ⟨fun hA hl=>?_⟩
   have e:=ZpU (Option.some.inj h2)
   have k:AllLS X ops 0 (Hm _ _ _ q.2.2)→(Hm _ _ _ q.2.2).length=i→WP X (.code (.region q.1 ops true)::k') q.2.1:=k.1
   rw [e] at k
   exact k hA hl
theorem wa (htt:TTOk X.P tt) (n:Nat) {c:Cf} (k:Wc X (Xm tt X.fn.ntmps n c)):Wc X c:=ZjS htt n k
def ctS (c:Cf) (s:St):Cf:=.co c.kk s
theorem ZB {σ:Type} (J:σ→St) (Q:σ→Prop) {c:Cf} (hk:∀ st,Q st→Wc X (ctS c (J st))) (h:(∀ st,Q st→WP X c.kk (J st))→Wc X c):Wc X c:=h fun st hq=>(hk st hq).1
def P6 (c:Cf):Code:=match c with
 | .co (.code (.loop x)::_) _=>x
 | _=>.skip
def lpS (c:Cf) (s:St):Cf:=.co (.code (P6 c)::.inLoop (P6 c)::c.kk) s
def lpK (c:Cf):List Item:=.inLoop (P6 c)::c.kk
def lpI (c:Cf):List Item:=.code (.loop (P6 c))::c.kk
theorem ZF {σ ρ:Type} {r:ρ} (H:σ→St) (p:Nat→σ→Option ρ) (h0:∀ st,p 0 st=none) {c:Cf}
  (step:∀ n,(∀ st,p n st=some r→WP X (lpK c) (H st))→∀ st,p (n+1) st=some r→Wc X (lpS c (H st)))
  (h:(∀ n st,p n st=some r→WP X (lpI c) (H st))→Wc X c):Wc X c:=by
 have key:∀ n st,p n st=some r→WP X (.code (P6 c)::.inLoop (P6 c)::c.kk) (H st):=by
  intro n
  induction n with
  | zero=>intro st hp;rw [h0] at hp;cases hp
  | succ n ih=>exact fun st hq=>(step n (fun st hp=>WP.inLoop (ih st hp)) st hq).1
 exact h fun n st hp=>WP.loop (key n st hp)
theorem Zj {t:St} {todo:List Item} (l:List (Nat × SC)) (k:WP X todo t) {c:Cf}
    (hp:(c.isC,c.itm,t.L.map (fun p=>Zk c.st.L p.1),t.V.map (fun p=>Tz c.st ⟨l,0,0⟩ p.1 p.2),t.M.map (fun p=>X3 c.st ⟨l,0,0⟩ p.1 p.2),
        (t.L.all (fun p=>Vo ⟨l,0,0⟩ p.2) && Y8 (t.M.filterMap fun p=>Xa ⟨l,0,0⟩ p.1 p.2) && Y8 (t.M.map (·.1)) && Po t.L t.M t.V t.nx && l.all (fun p=>Nat.ble X.nk p.1 && p.2.kbb c.st.nx) && Nat.ble X.nk t.nx)) =
      (true,todo,t.L.map (fun p=>some (XD ⟨l,0,0⟩ p.2)),t.V.map (fun p=>some p.2),t.M.map (fun p=>some (X9 ⟨l,0,0⟩ p.2)),true):=by kernel_rfl):Wc X c:=by
  simp only [Prod.mk.injEq] at hp
  obtain ⟨h1,h2,h3,h4,h5,h6⟩:=hp
  refine Wc.co h1 ?_
  rw [h2]
  exact WP.sub l k h3 h4 h5 h6
def Rq (f:St→St):Cf→Cf
 | .co k s=>.co k (f s)
 | .rg none ops i k s=>.rg none ops i k (f s)
 | _=>.no
theorem Ha {f:St→St} {c:Cf} (h:∀ E F w a,Sat X c.st E F w a→∃ E' F',Sat X (f c.st) E' F' w a) (k:Wc X (Rq f c)):Wc X c:=by
 cases c with
 | no=>exact k.1.elim
 | co k' s=>exact ⟨fun E F w a hs=>let ⟨E',F',hs'⟩:=h E F w a hs;k.1 E' F' w a hs'⟩
 | rg m ops i k' s =>
  cases m with
  | none=>exact ⟨fun E F w a hs=>let ⟨E',F',hs'⟩:=h E F w a hs;k.1 E' F' w a hs'⟩
  | some q=>exact k.1.elim
theorem UD (fz:List Nat) {c:Cf} (k:Wc X (Rq (fun s=>ZN s fz) c)) (hp:Tc c.st fz=true:=by kernel_rfl):Wc X c :=
 Ha (fun _ _ _ _ hs=>let ⟨F',h⟩:=ZcV hs hp;⟨_,F',h⟩) k
theorem eSl {α:Type} (R:TRep α) {xs zs:List α} {l h:Option Int} (K:Nat) (hz:lsl xs l h=some zs) {c:Cf}
  (k:Wc X (Rq (fun s=>⟨s.L,(K,.own R zs (Y9 (Zk s.M (YL (Zk s.V K)))))::(YL (Zk s.V K),.gone)::s.M,s.V,s.nx⟩) c))
  (hp:(Zk c.st.V K,Zk c.st.M (YL (Zk c.st.V K)),(Zk c.st.M K).isNone)=(some (.vw (YL (Zk c.st.V K)) l h R.sz),some (.own R xs (Y9 (Zk c.st.M (YL (Zk c.st.V K))))),true):=by kernel_rfl):Wc X c:=by
 simp only [Prod.mk.injEq,Option.isNone_iff_eq_none] at hp
 obtain ⟨h1,h2,h3⟩:=hp
 exact Ha (fun E F w a hs=>⟨E,F,hs.settle hz h1 h2 h3⟩) k
def ZeB:Cf→Bool
 | .co [] _=>true
 | .co (.code .ret::_) _=>true
 | _=>false
theorem Z4 {P:Program} {f:FuncId} {fn:Func} {ct:Ct} {E0:Env} {F0:ZU} {w0:World} (htt:TTOk P tt) (hf:P.funcs[f]? = some fn) (l:List (Nat × SC)) {c:Cf}
    (hp:(ZeB c,PL tt c.st fn.results.toList,ct.V1.map (fun p=>Tz c.st ⟨l,0,0⟩ p.1 p.2),ct.M1.map (fun p=>X3 c.st ⟨l,0,0⟩ p.1 p.2),
        (Vo ⟨l,0,0⟩ ct.res && Y8 (ct.M1.filterMap fun p=>Xa ⟨l,0,0⟩ p.1 p.2) && Y8 (ct.M1.map (·.1)) && l.all (fun p=>Nat.ble ct.nk p.1 && p.2.kbb c.st.nx))) =
      (true,some (XD ⟨l,0,0⟩ ct.res),ct.V1.map (fun p=>some p.2),ct.M1.map (fun p=>some (X9 ⟨l,0,0⟩ p.2)),true):=by kernel_rfl):Wc (ct.ctx P f fn E0 F0 w0) c:=by
  simp only [Prod.mk.injEq] at hp
  obtain ⟨h1,h2,h3,h4,h5⟩:=hp
  unfold ZeB at h1
  split at h1
  · exact ⟨WP.fin htt hf l h2 h3 h4 h5⟩
  · exact ⟨WP.ret htt hf l h2 h3 h4 h5⟩
  · cases h1
theorem Zs {P:Program} {f:FuncId} {c:Ct} {fn:Func} {body:Code} (hf:P.funcs[f]? = some fn) (hb:fn.body=some body) (h:∀ E F w,Wc (c.ctx P f fn E F w) (.co [.code body] ⟨RW 0 c.args,c.M0,c.V0,c.nk⟩))
  (hp:((fn.name == "runtime.NumGoroutine"),(Po (RW 0 c.args) c.M0 c.V0 c.nk && c.M0.all (fun p => !p.2.isFresh) && Nat.ble c.args.length fn.ntmps))=(false,true):=by kernel_rfl):Fn P f c :=
 Fn.intro fn body hf hb (Prod.mk.inj hp).1 (Prod.mk.inj hp).2 fun E F w=>(h E F w).1
def TZ:List Oper→List Nat→List Nat
 | [],acc=>acc
 | o::r,acc=>TZ r (acc++[Qe acc o.after.toList])
def PD:Cf→List Ent
 | .rg (some q) _ _ _ _=>q.2.2
 | _=>[]
def L7:Cf→St
 | .rg (some q) _ _ _ _=>q.2.1
 | _=>⟨[],[],[],0⟩
def isD:Cf→Bool
 | .rg (some _) ops i _ _=>Nat.beq i ops.size
 | _=>false
def ZmE (c:Cf):Cf:=.co c.kk (We (PD c) c.st.nx (L7 c) fun _=>true)
theorem ZA {c:Cf} (k:Wc X (ZmE c)) (hp:(isD c,X.P.follows .mixedOrders,Le c.ops (PD c) (TZ c.ops.toList []) (L7 c).nx c.st.nx,PK (PD c) (TZ c.ops.toList []) (L7 c))=(true,true,true,MF (PD c)):=by kernel_rfl):Wc X c:=by
 simp only [Prod.mk.injEq] at hp
 obtain ⟨h1,h2,h3,h4⟩:=hp
 cases c with
 | no=>cases h1
 | co k' s=>cases h1
 | rg m ops i k' s =>
  cases m with
  | none=>cases h1
  | some q =>
   refine ⟨fun hA hl=>?_⟩
   obtain ⟨k⟩:=k
   obtain ⟨id,s0,es⟩:=q
   replace h3:Le ops es (TZ ops.toList []) s0.nx s.nx=true:=h3
   replace h4:PK es (TZ ops.toList []) s0=MF es:=h4
   replace hA:AllLS X ops 0 es:=hA
   show WP X (.code (.region id ops true)::k') s0
   intro E F w a hs
   have c:=ZgO h3
   refine ZcG (wp_region_any h2 ?_)
   have hs':Sat X s0 E F { w with drawn:=w.drawn+1 } a:=hs.world rfl rfl .m (Nat.le_refl _) fun _ _=>rfl
   have hf:∀ j,(Array.replicate ops.size false).getD j false=false:=fun j=>by
    by_cases h:j < ops.size<;>simp [h]
   refine ZpM (todo:=rk X k') hA c h4 hs.wf hs.nk (fun E F w a hs=>k E F w a hs) ops.size _ E F _ a (by simp)
    (fun i hi=>by rw [hf] at hi;cases hi) (by rw [c.size];exact ZdJ fun j _=>by rw [← c.size];exact hf j) ?_
   have:We es s.nx s0 (fun j=>(Array.replicate ops.size false).getD j false)=⟨s0.L,s0.M,s0.V,s.nx⟩:=by
    rw [show (fun j=>(Array.replicate ops.size false).getD j false)=fun _=>false from funext hf]
    unfold We
    rw [Qx,Qx,Qx]
   show Sat X (We es s.nx s0 _) E F _ a
   rw [this]
   exact hs'.nxt c.nxle
end
end Go.Kx
end
section
namespace Go.Kx
variable [LxP]
def Zbd (P:Program) (t:TypeId):Nat:=match P.underlying t with
 | some (.array n _)=>n
 | _=>0
def Xv (P:Program) (t:TypeId):TypeId:=match P.underlying t with
 | some (.array _ e)=>e
 | some (.slice e)=>e
 | some (.pointer e)=>e
 | _=>0
def szT (P:Program) (t:TypeId):Nat:=((P.info? t).map (·.size)).getD 0
def ZdI:Option VF→Bool
 | some (.pl _)=>true
 | some (.el _ _)=>true
 | _=>false
theorem Zlk {V:List (Nat × VF)} {k:Nat} (h:ZdI (Zk V k)=true):(∃ cs,Zk V k=some (.pl cs))∨∃ q m,Zk V k=some (.el q m):=by
 unfold ZdI at h
 split at h
 ·rename_i cs e;exact .inl ⟨cs,e⟩
 ·rename_i q m e;exact .inr ⟨q,m,e⟩
 ·cases h
def Du:Option MO→TypeId
 | some (.box _ t)=>t
 | _=>0
def RO:Option MO→List SC
 | some (.box cs _)=>cs
 | _=>[]
section
variable {X:Ctx} {tt:List (Nat × TD)}
def dAx (v:SC) (c:Cf):Dl:=d1 c (.c v)
def nAx (v:SC) (c:Cf):Cf:=Ym (dAx v c) c
theorem eAx {α:Type} {m:Int} {e:α} {c:Cf} (f:α→SC) (xs:List α) (hi:idx xs m=some e) (k:Wc X (nAx (f e) c))
    (hp:(hB X.fn.ntmps c,(Zl c).dst,(Zl c).op,X.P.underlying (Zz (Zl c).op),(X.P.info? (Xv X.P (Zz (Zl c).op))).map (·.size),Xf X.P (Xv X.P (Zz (Zl c).op)),(X.P.underlying (Xv X.P (Zz (Zl c).op))).isSome,Zr c 0,Zr c 1)=(true,some (ZV c),.index (Zz (Zl c).op) (ZM (Zl c).op 0) (ZM (Zl c).op 1),some (.array xs.length (Xv X.P (Zz (Zl c).op))),some 1,false,true,some (.a (xs.map f)),some (.c (.i (Uh (Zr c 1)) m))):=by kernel_rfl):Wc X c:=by
  simp only [Prod.mk.injEq] at hp
  obtain ⟨h1,h2,h3,h4,h5,h6,h7,h8,h9⟩:=hp
  obtain ⟨h0,hn⟩:=Yp h1
  refine Wc.ev (d:=dAx (f e) c) h0 (Ys h2 rfl) (fun nk E0 F0 w0 n0 Z rest K ho hg h=>WPr.ax (X:=X.var nk E0 F0 w0 n0 Z) f xs hi ho hg h3 h2 h4 h5 h6 h7 h8 rfl h9 hn h) k
def dAb (P:Program) (j:Nat) (c:Cf):Dl:=d1 c (.c (.bp (ZG (Zr c 0)) (Xl (Zr c 0)+j * szT P (Xv P (Zz (Zl c).op)))))
def nAb (P:Program) (j:Nat) (c:Cf):Cf:=Ym (dAb P j c) c
theorem XA {m:Int} {c:Cf} (j:Nat) (hj:m=(j:Int)) (k:Wc X (nAb X.P j c))
    (hp:(hB X.fn.ntmps c,(Zl c).dst,(Zl c).op,X.P.underlying (Zz (Zl c).op),(X.P.info? (Xv X.P (Zz (Zl c).op))).map (·.size),Nat.blt j (Zbd X.P (Zz (Zl c).op)),Zr c 0,Zr c 1)=(true,some (ZV c),.indexAddr (Zz (Zl c).op) (ZM (Zl c).op 0) (ZM (Zl c).op 1),some (.array (Zbd X.P (Zz (Zl c).op)) (Xv X.P (Zz (Zl c).op))),some (szT X.P (Xv X.P (Zz (Zl c).op))),true,some (.c (.bp (ZG (Zr c 0)) (Xl (Zr c 0)))),some (.c (.i (Uh (Zr c 1)) m))):=by kernel_rfl):Wc X c:=by
  simp only [Prod.mk.injEq] at hp
  obtain ⟨h1,h2,h3,h4,h5,h6,h7,h8⟩:=hp
  obtain ⟨h0,hn⟩:=Yp h1
  refine Wc.ev (d:=dAb X.P j c) h0 (Ys h2 rfl) (fun nk E0 F0 w0 n0 Z rest K ho hg h=>WPr.axb (X:=X.var nk E0 F0 w0 n0 Z) j hj ho hg h3 h2 h4 h5 h6 h7 h8 hn h) k
def dAq (P:Program) (j:Nat) (c:Cf):Dl:=d1 c (.c (.px (ZG (Zr c 0)) (Xl (Zr c 0)+j * szT P (Xv P (Zz (Zl c).op)))))
def nAq (P:Program) (j:Nat) (c:Cf):Cf:=Ym (dAq P j c) c
theorem P9 {m:Int} {c:Cf} (j:Nat) (hj:m=(j:Int)) (k:Wc X (nAq X.P j c))
    (hp:(hB X.fn.ntmps c,(Zl c).dst,(Zl c).op,X.P.underlying (Zz (Zl c).op),(X.P.info? (Xv X.P (Zz (Zl c).op))).map (·.size),Nat.blt j (Zbd X.P (Zz (Zl c).op)),Zr c 0,ZdI (Zk (Zp c).V (ZG (Zr c 0))),Zr c 1)=(true,some (ZV c),.indexAddr (Zz (Zl c).op) (ZM (Zl c).op 0) (ZM (Zl c).op 1),some (.array (Zbd X.P (Zz (Zl c).op)) (Xv X.P (Zz (Zl c).op))),some (szT X.P (Xv X.P (Zz (Zl c).op))),true,some (.c (.px (ZG (Zr c 0)) (Xl (Zr c 0)))),true,some (.c (.i (Uh (Zr c 1)) m))):=by kernel_rfl):Wc X c:=by
  simp only [Prod.mk.injEq] at hp
  obtain ⟨h1,h2,h3,h4,h5,h6,h7,h8,h9⟩:=hp
  obtain ⟨h0,hn⟩:=Yp h1
  refine Wc.ev (d:=dAq X.P j c) h0 (Ys h2 rfl) (fun nk E0 F0 w0 n0 Z rest K ho hg h=>WPr.axp (X:=X.var nk E0 F0 w0 n0 Z) j hj ho hg h3 h2 h4 h5 h6 h7 (Zlk h8) h9 hn h) k
def dPn (neg:Bool) (c:Cf):Dl:=d1 c (.c (.b neg))
def nPn (neg:Bool) (c:Cf):Cf:=Ym (dPn neg c) c
theorem ePn {c:Cf} (neg:Bool) (k:Wc X (nPn neg c))
  (hp:(hB X.fn.ntmps c,(Zl c).dst,(Zl c).op,X.P.underlying (Zz (Zl c).op),Zr c 0,Zr c 1)=(true,some (ZV c),.binOp (bif neg then .neq else .eql) (Zz (Zl c).op) (ZM (Zl c).op 0) (ZM (Zl c).op 1) (Yu (Zl c).op),some (.pointer (Xv X.P (Zz (Zl c).op))),some (.c (.bp (ZG (Zr c 0)) (Xl (Zr c 0)))),some (.c (.v (.pointer none)))):=by kernel_rfl):Wc X c:=by
 simp only [Prod.mk.injEq] at hp
 obtain ⟨h1,h2,h3,h4,h5,h6⟩:=hp
 obtain ⟨h0,hn⟩:=Yp h1
 refine Wc.ev (d:=dPn neg c) h0 (Ys h2 rfl) (fun nk E0 F0 w0 n0 Z rest K ho hg h=>WPr.pnil (X:=X.var nk E0 F0 w0 n0 Z) neg ho hg h3 h2 h4 h5 h6 hn h) k
def dSb {α:Type} (R:TRep α) (xs:List α) (fz:List Nat) (c:Cf):Dl:=⟨[(ZV c,.c (.sl (ZN (Zp c) fz).nx))],[((ZN (Zp c) fz).nx,.own R xs false),((ZG (ZE (ZN (Zp c) fz).L (ZM (Zl c).op 0))),.gone)],[],1⟩
def nSb {α:Type} (R:TRep α) (xs:List α) (fz:List Nat) (c:Cf):Cf:=Ym ((dSb R xs fz c).fz (Zp c) fz) c
theorem eSb {α:Type} {R:TRep α} {c:Cf} (fz:List Nat) (O:Ya R) (xs:List α) (k:Wc X (nSb R xs fz c))
    (hp:(hB X.fn.ntmps c,(Zl c).dst,Tc (Zp c) fz,(Zl c).op,X.P.underlying (Zz (Zl c).op),(X.P.info? (Xv X.P (Zz (Zl c).op))).map (·.size),ZE (ZN (Zp c) fz).L (ZM (Zl c).op 0),(Zk (ZN (Zp c) fz).M (ZG (ZE (ZN (Zp c) fz).L (ZM (Zl c).op 0)))),(Zk (ZN (Zp c) fz).M (ZN (Zp c) fz).nx).isNone,GV O (Zk (ZN (Zp c) fz).V) xs (RO (Zk (ZN (Zp c) fz).M (ZG (ZE (ZN (Zp c) fz).L (ZM (Zl c).op 0))))),HM R.sz xs (RO (Zk (ZN (Zp c) fz).M (ZG (ZE (ZN (Zp c) fz).L (ZM (Zl c).op 0))))))=(true,some (ZV c),true,.slice (Zz (Zl c).op) (ZM (Zl c).op 0) none none none,some (.array xs.length (Xv X.P (Zz (Zl c).op))),some R.sz,some (.c (.bp (ZG (ZE (ZN (Zp c) fz).L (ZM (Zl c).op 0))) 0)),some (.box (RO (Zk (ZN (Zp c) fz).M (ZG (ZE (ZN (Zp c) fz).L (ZM (Zl c).op 0))))) (Du (Zk (ZN (Zp c) fz).M (ZG (ZE (ZN (Zp c) fz).L (ZM (Zl c).op 0)))))),true,Gi O (Zk (ZN (Zp c) fz).V) xs (RO (Zk (ZN (Zp c) fz).M (ZG (ZE (ZN (Zp c) fz).L (ZM (Zl c).op 0))))),[]):=by kernel_rfl):Wc X c:=by
  simp only [Prod.mk.injEq] at hp
  obtain ⟨h1,h2,h3,h4,h5,h6,h7,h8,h9,h10,h11⟩:=hp
  obtain ⟨h0,hn⟩:=Yp h1
  refine Wc.evz (d:=dSb R xs fz c) fz h0 h3 (Ys h2 rfl) (fun nk E0 F0 w0 n0 Z rest K ho hg h=>WPr.slb (X:=X.var nk E0 F0 w0 n0 Z) O xs (Zbr h10 h11) ho hg h4 h2 h5 h6 h7 h8 (by rw [hn,h9];simp) h) k
def dEx (v:SV) (c:Cf):Dl:=d1 c v
def nEx (v:SV) (c:Cf):Cf:=Ym (dEx v c) c
theorem eEx {f:FuncId} {svs:List SV} {v:SV} {c:Cf} (hrun:∀ (E:Env) (w:World),(callFunc f (svs.map (Zy E)).toArray).run X.P w=.ok (.value (Zy E v)) w) (hv:∀ n,v.kb n) (k:Wc X (nEx v c))
  (hp:(hB X.fn.ntmps c,(Zl c).dst,(Zl c).op,WK (Zp c).L (Lr (Zl c).op).toList)=(true,some (ZV c),.call { callee:=.value (.func f),args:=Lr (Zl c).op,argTypes:=Ma (Zl c).op },some svs):=by kernel_rfl):Wc X c:=by
 simp only [Prod.mk.injEq] at hp
 obtain ⟨h1,h2,h3,h4⟩:=hp
 obtain ⟨h0,hn⟩:=Yp h1
 refine Wc.ev (d:=dEx v c) h0 (Ys h2 rfl) (fun nk E0 F0 w0 n0 Z rest K ho hg h=>WPr.ext (X:=X.var nk E0 F0 w0 n0 Z) hrun hv ho hg h3 h2 hn h4 h) k
def dCp {α:Type} (R:TRep α) (r:List α × Int) (c:Cf):Dl:=⟨[(ZV c,.c (.i .i64 r.2))],[((ZG (Zr c 0)),.own R r.1 (Y9 (Zk (Zp c).M (ZG (Zr c 0)))))],[],0⟩
def nCp {α:Type} (R:TRep α) (r:List α × Int) (c:Cf):Cf:=Ym (dCp R r c) c
theorem eCp {α:Type} {xs ys:List α} {lo hi:Option Int} {r:List α × Int} {c:Cf} (htt:TTOk X.P tt) (R:TRep α) (hz:Wy xs lo hi ys=some r) (k:Wc X (nCp R r c))
  (hp:(hB X.fn.ntmps c,(Zl c).dst,(Zl c).op,Zr c 0,Zk (Zp c).M (ZG (Zr c 0)),Zr c 1,Zk tt (Zz (Zl c).op),U3 tt R.sz c,M5 (Zp c) ys (WO (Zr c 1)),lo,hi)=(true,some (ZV c),.call { callee:=.builtin .copy,args:=#[ZM (Zl c).op 0,ZM (Zl c).op 1],argTypes:=#[Zz (Zl c).op,Yu (Zl c).op] },some (.c (.sl (ZG (Zr c 0)))),some (.own R xs (Y9 (Zk (Zp c).M (ZG (Zr c 0))))),some (.c (WO (Zr c 1))),some (ZP tt (Zz (Zl c).op)),true,La R ys (WO (Zr c 1)),none,none):=by kernel_rfl):Wc X c:=by
 simp only [Prod.mk.injEq] at hp
 obtain ⟨h1,h2,h3,h4,h5,h6,h7,h8,h9,h10,h11⟩:=hp
 obtain ⟨h0,hn⟩:=Yp h1
 refine Wc.ev (d:=dCp R r c) h0 (Ys h2 rfl) (fun nk E0 F0 w0 n0 Z rest K ho hg h=>WPr.cp (X:=X.var nk E0 F0 w0 n0 Z) htt hz (Zcm h9) ho hg h3 h2 h4 (.inr ⟨rfl,h10,h11⟩) h5 h6 h7 (SD h8 hn) h) k
def dCw {α:Type} (R:TRep α) (r:List α × Int) (c:Cf):Dl:=⟨[(ZV c,.c (.i .i64 r.2))],[((YL (Zk (Zp c).V (ZG (Zr c 0)))),.own R r.1 (Y9 (Zk (Zp c).M (YL (Zk (Zp c).V (ZG (Zr c 0)))))))],[],0⟩
def nCw {α:Type} (R:TRep α) (r:List α × Int) (c:Cf):Cf:=Ym (dCw R r c) c
theorem eCw {α:Type} {xs ys:List α} {lo hi:Option Int} {r:List α × Int} {c:Cf} (htt:TTOk X.P tt) (R:TRep α) (hz:Wy xs lo hi ys=some r) (k:Wc X (nCw R r c))
  (hp:(hB X.fn.ntmps c,(Zl c).dst,(Zl c).op,Zr c 0,Zk (Zp c).M (YL (Zk (Zp c).V (ZG (Zr c 0)))),Zr c 1,Zk tt (Zz (Zl c).op),U3 tt R.sz c,M5 (Zp c) ys (WO (Zr c 1)),Zk (Zp c).V (ZG (Zr c 0)))=(true,some (ZV c),.call { callee:=.builtin .copy,args:=#[ZM (Zl c).op 0,ZM (Zl c).op 1],argTypes:=#[Zz (Zl c).op,Yu (Zl c).op] },some (.c (.sl (ZG (Zr c 0)))),some (.own R xs (Y9 (Zk (Zp c).M (YL (Zk (Zp c).V (ZG (Zr c 0))))))),some (.c (WO (Zr c 1))),some (ZP tt (Zz (Zl c).op)),true,La R ys (WO (Zr c 1)),some (.vw (YL (Zk (Zp c).V (ZG (Zr c 0)))) lo hi R.sz)):=by kernel_rfl):Wc X c:=by
 simp only [Prod.mk.injEq] at hp
 obtain ⟨h1,h2,h3,h4,h5,h6,h7,h8,h9,h10⟩:=hp
 obtain ⟨h0,hn⟩:=Yp h1
 refine Wc.ev (d:=dCw R r c) h0 (Ys h2 rfl) (fun nk E0 F0 w0 n0 Z rest K ho hg h=>WPr.cp (X:=X.var nk E0 F0 w0 n0 Z) htt hz (Zcm h9) ho hg h3 h2 h4 (.inl h10) h5 h6 h7 (SD h8 hn) h) k
def Zrw (neg b:Bool) (c:Cf):Cf:=Ym (d1 c (.c (.b (bif neg then !b else b)))) c
def inC:Cf→Bool
 | .rg none _ _ _ _=>true
 | _=>false
theorem eNi {α:Type} (R:TRep α) (xs:List α) (neg:Bool) {c:Cf} (kk:∀ b:Bool,(b=true→xs=[])→Wc X (Zrw neg b c))
  (hp:(hB X.fn.ntmps c,(Zl c).dst,inC c,(Zl c).op,X.P.underlying (Zz (Zl c).op),Zr c 0,Zr c 1,Dz (Zp c) (.sl (ZG (Zr c 0)))) =
   (true,some (ZV c),true,.binOp (bif neg then .neq else .eql) (Zz (Zl c).op) (ZM (Zl c).op 0) (ZM (Zl c).op 1) (Yu (Zl c).op),some (.slice (Xv X.P (Zz (Zl c).op))),some (.c (.sl (ZG (Zr c 0)))),some (.c .nil),some ⟨R,xs⟩):=by kernel_rfl):Wc X c:=by
 simp only [Prod.mk.injEq] at hp
 obtain ⟨h1,h2,h3,h4,h5,h6,h7,h8⟩:=hp
 obtain ⟨h0,hn⟩:=Yp h1
 obtain ⟨k0,e0,hor⟩:=ZhY h8
 cases c with
 | co _ _=>cases h3
 | no=>cases h3
 | rg m ops i k' s =>
  cases m with
  | some q=>cases h3
  | none =>
   unfold Ti at h0
   rw [Zc,Zc] at h0
   obtain ⟨⟨_,g2⟩,g3⟩:=h0
   have ho:ops[i]? = some (Zl (.rg none ops i k' s)):=by
    obtain ⟨o,ho⟩:=Option.isSome_iff_exists.1 g2
    have ho:ops[i]? = some o:=ho
    unfold Zl
    show _=some ((ops[i]?).getD default)
    rw [ho];rfl
   have hg:ZR ops s.L (Zl (.rg none ops i k' s))=some true:=by
    split at g3
    ·rename_i b hb;rw [g3] at hb;exact hb
    ·cases g3
   refine ⟨?_⟩
   show WPr X ops (List.range' i (ops.size-i)) (rk X k') s
   rw [H8 ho]
   cases e0
   exact WPr.nilc neg hor ho hg h4 h2 h5 h6 h7 hn fun b hb=>(kk b hb).1
def Zo7 (b:Nat) (m:ByteArray) (c:Cf):Cf:=Ym ⟨[(ZV c,.c (.v (.pointer (some ⟨b,0,none⟩))))],[((Zp c).nx,.abs (WE b m 0))],[],1⟩ c
def Zlm (b:Nat) (c:Cf):Cf:=Zo7 b (Zjh (Zr c 0)) c
theorem eRn (htt:TTOk X.P tt) {c:Cf} (kk:∀ b,Wc X (Zlm b c))
  (hp:(hB X.fn.ntmps c,(Zl c).dst,inC c,(Zl c).op,Zk tt (Zz (Zl c).op),Nat.beq (ZP tt (Zz (Zl c).op)).kd 2,Zr c 0) =
   (true,some (ZV c),true,.range (Zz (Zl c).op) (ZM (Zl c).op 0),some (ZP tt (Zz (Zl c).op)),true,some (.c (.s (Zjh (Zr c 0))))):=by kernel_rfl):Wc X c:=by
 simp only [Prod.mk.injEq] at hp
 obtain ⟨h1,h2,h3,h4,h5,h6,h7⟩:=hp
 obtain ⟨h0,hn⟩:=Yp h1
 cases c with
 | co _ _=>cases h3
 | no=>cases h3
 | rg m ops i k' s =>
  cases m with
  | some q=>cases h3
  | none =>
   unfold Ti at h0
   rw [Zc,Zc] at h0
   obtain ⟨⟨_,g2⟩,g3⟩:=h0
   have ho:ops[i]? = some (Zl (.rg none ops i k' s)):=by
    obtain ⟨o,ho⟩:=Option.isSome_iff_exists.1 g2
    have ho:ops[i]? = some o:=ho
    unfold Zl
    show _=some ((ops[i]?).getD default)
    rw [ho];rfl
   have hg:ZR ops s.L (Zl (.rg none ops i k' s))=some true:=by
    split at g3
    ·rename_i b hb;rw [g3] at hb;exact hb
    ·cases g3
   refine ⟨?_⟩
   show WPr X ops (List.range' i (ops.size-i)) (rk X k') s
   rw [H8 ho]
   exact WPr.rng htt ho hg h4 h2 h5 h6 h7 hn fun b=>(kk b).1
def dNf (c:Cf):Dl:=d1 c (.t [.inl (.b false)])
def nNf (c:Cf):Cf:=Ym (dNf c) c
theorem eNf {p:Nat} {m:ByteArray} {c:Cf} (b k0:Nat) (hlt:decide (p < m.size)=false) (k:Wc X (nNf c))
  (hp:(hB X.fn.ntmps c,(Zl c).dst,(Zl c).op,Zr c 0,Zk (Zp c).M k0)=(true,some (ZV c),.next (ZM (Zl c).op 0) true,some (.c (.v (.pointer (some ⟨b,0,none⟩)))),some (.abs (WE b m p))):=by kernel_rfl):Wc X c:=by
 simp only [Prod.mk.injEq] at hp
 obtain ⟨h1,h2,h3,h4,h5⟩:=hp
 obtain ⟨h0,hn⟩:=Yp h1
 refine Wc.ev (d:=dNf  c) h0 (Ys h2 rfl) (fun nk E0 F0 w0 n0 Z rest K ho hg h=>WPr.nxtF (X:=X.var nk E0 F0 w0 n0 Z) k0 hlt ho hg h3 h2 h4 h5 hn h) k
def dNt (b k0:Nat) (m:ByteArray) (p:Nat) (c:Cf):Dl:=⟨[(ZV c,.t [.inl (.b true),.inl (.i .i64 (p:Int)),.inl (.i .i32 ((Utf8.decode m p).1:Int))])],[(k0,.abs (WE b m (p+(Utf8.decode m p).2)))],[],0⟩
def nNt (b k0:Nat) (m:ByteArray) (p:Nat) (c:Cf):Cf:=Ym (dNt b k0 m p c) c
theorem eNt {p:Nat} {m:ByteArray} {c:Cf} (b:Nat) (k0:Nat) (hlt:decide (p < m.size)=true) (k:Wc X (nNt b k0 m p c))
  (hp:(hB X.fn.ntmps c,(Zl c).dst,(Zl c).op,Zr c 0,Zk (Zp c).M k0)=(true,some (ZV c),.next (ZM (Zl c).op 0) true,some (.c (.v (.pointer (some ⟨b,0,none⟩)))),some (.abs (WE b m p))):=by kernel_rfl):Wc X c:=by
 simp only [Prod.mk.injEq] at hp
 obtain ⟨h1,h2,h3,h4,h5⟩:=hp
 obtain ⟨h0,hn⟩:=Yp h1
 refine Wc.ev (d:=dNt b k0 m p c) h0 (Ys h2 rfl) (fun nk E0 F0 w0 n0 Z rest K ho hg h=>WPr.nxtT (X:=X.var nk E0 F0 w0 n0 Z) k0 hlt ho hg h3 h2 h4 h5 hn h) k
def dDp {α:Type} (R:TRep α) (r:List α × Int) (c:Cf):Dl:=⟨[(ZV c,.c (.i .i64 r.2))],[((ZG (Zr c 0)),.own R r.1 (Y9 (Zk (Zp c).M (ZG (Zr c 0)))))],[],0⟩
def nDp {α:Type} (R:TRep α) (r:List α × Int) (c:Cf):Cf:=Ym (dDp R r c) c
theorem eDp {α:Type} {xs ys ws:List α} {lo hi lo2 hi2:Option Int} {r:List α × Int} {c:Cf} (htt:TTOk X.P tt) (R:TRep α) (hw:lsl ws lo2 hi2=some ys) (hz:Wy xs lo hi ys=some r) (k:Wc X (nDp R r c))
  (hp:(hB X.fn.ntmps c,(Zl c).dst,(Zl c).op,Zr c 0,Zk (Zp c).M (ZG (Zr c 0)),Zr c 1,Zk (Zp c).V (ZG (Zr c 1)),Zk (Zp c).M (YL (Zk (Zp c).V (ZG (Zr c 1)))),Zk tt (Zz (Zl c).op),U3 tt R.sz c,lo,hi)=(true,some (ZV c),.call { callee:=.builtin .copy,args:=#[ZM (Zl c).op 0,ZM (Zl c).op 1],argTypes:=#[Zz (Zl c).op,Yu (Zl c).op] },some (.c (.sl (ZG (Zr c 0)))),some (.own R xs (Y9 (Zk (Zp c).M (ZG (Zr c 0))))),some (.c (.sl (ZG (Zr c 1)))),some (.vw (YL (Zk (Zp c).V (ZG (Zr c 1)))) lo2 hi2 R.sz),some (.own R ws (Y9 (Zk (Zp c).M (YL (Zk (Zp c).V (ZG (Zr c 1))))))),some (ZP tt (Zz (Zl c).op)),true,none,none):=by kernel_rfl):Wc X c:=by
 simp only [Prod.mk.injEq] at hp
 obtain ⟨h1,h2,h3,h4,h5,h6,h7,h8,h9,h10,h11,h12⟩:=hp
 obtain ⟨h0,hn⟩:=Yp h1
 refine Wc.ev (d:=dDp R r c) h0 (Ys h2 rfl) (fun nk E0 F0 w0 n0 Z rest K ho hg h=>WPr.cp (X:=X.var nk E0 F0 w0 n0 Z) htt hz (Zdq hw h7 h8) ho hg h3 h2 h4 (.inr ⟨rfl,h11,h12⟩) h5 h6 h9 (SD h10 hn) h) k
def dDw {α:Type} (R:TRep α) (r:List α × Int) (c:Cf):Dl:=⟨[(ZV c,.c (.i .i64 r.2))],[((YL (Zk (Zp c).V (ZG (Zr c 0)))),.own R r.1 (Y9 (Zk (Zp c).M (YL (Zk (Zp c).V (ZG (Zr c 0)))))))],[],0⟩
def nDw {α:Type} (R:TRep α) (r:List α × Int) (c:Cf):Cf:=Ym (dDw R r c) c
theorem eDw {α:Type} {xs ys ws:List α} {lo hi lo2 hi2:Option Int} {r:List α × Int} {c:Cf} (htt:TTOk X.P tt) (R:TRep α) (hw:lsl ws lo2 hi2=some ys) (hz:Wy xs lo hi ys=some r) (k:Wc X (nDw R r c))
  (hp:(hB X.fn.ntmps c,(Zl c).dst,(Zl c).op,Zr c 0,Zk (Zp c).M (YL (Zk (Zp c).V (ZG (Zr c 0)))),Zr c 1,Zk (Zp c).V (ZG (Zr c 1)),Zk (Zp c).M (YL (Zk (Zp c).V (ZG (Zr c 1)))),Zk tt (Zz (Zl c).op),U3 tt R.sz c,Zk (Zp c).V (ZG (Zr c 0)))=(true,some (ZV c),.call { callee:=.builtin .copy,args:=#[ZM (Zl c).op 0,ZM (Zl c).op 1],argTypes:=#[Zz (Zl c).op,Yu (Zl c).op] },some (.c (.sl (ZG (Zr c 0)))),some (.own R xs (Y9 (Zk (Zp c).M (YL (Zk (Zp c).V (ZG (Zr c 0))))))),some (.c (.sl (ZG (Zr c 1)))),some (.vw (YL (Zk (Zp c).V (ZG (Zr c 1)))) lo2 hi2 R.sz),some (.own R ws (Y9 (Zk (Zp c).M (YL (Zk (Zp c).V (ZG (Zr c 1))))))),some (ZP tt (Zz (Zl c).op)),true,some (.vw (YL (Zk (Zp c).V (ZG (Zr c 0)))) lo hi R.sz)):=by kernel_rfl):Wc X c:=by
 simp only [Prod.mk.injEq] at hp
 obtain ⟨h1,h2,h3,h4,h5,h6,h7,h8,h9,h10,h11⟩:=hp
 obtain ⟨h0,hn⟩:=Yp h1
 refine Wc.ev (d:=dDw R r c) h0 (Ys h2 rfl) (fun nk E0 F0 w0 n0 Z rest K ho hg h=>WPr.cp (X:=X.var nk E0 F0 w0 n0 Z) htt hz (Zdq hw h7 h8) ho hg h3 h2 h4 (.inl h11) h5 h6 h9 (SD h10 hn) h) k
def dAv {α:Type} (R:TRep α) (zs:List α) (c:Cf):Dl:=⟨[(ZV c,.c (.sl (Zp c).nx))],[((Zp c).nx,.own R zs (Y9 (Zk (Zp c).M (ZG (Zr c 0))))),((ZG (Zr c 0)),.gone)],[],1⟩
def nAv {α:Type} (R:TRep α) (zs:List α) (c:Cf):Cf:=Ym (dAv R zs c) c
theorem eAv {α:Type} {xs ys zs ws:List α} {lo2 hi2:Option Int} {c:Cf} (htt:TTOk X.P tt) (R:TRep α) (hw:lsl ws lo2 hi2=some ys) (hz:Z7 xs ys=some zs) (k:Wc X (nAv R zs c))
  (hp:(hB X.fn.ntmps c,(Zl c).dst,(Zl c).op,Zr c 0,Zk (Zp c).M (ZG (Zr c 0)),Zr c 1,Zk (Zp c).V (ZG (Zr c 1)),Zk (Zp c).M (YL (Zk (Zp c).V (ZG (Zr c 1)))),Zk tt (Zz (Zl c).op),Zk tt (Yu (Zl c).op),(Nat.beq (ZP tt (Zz (Zl c).op)).kd 6 && (Nat.beq (ZP tt (Yu (Zl c).op)).kd 6 || Nat.beq (ZP tt (Yu (Zl c).op)).kd 2) && Nat.beq (ZP tt (Zz (Zl c).op)).es R.sz && Nat.ble (ZP tt (Zz (Zl c).op)).eb 32768))=(true,some (ZV c),.call { callee:=.builtin .append,args:=#[ZM (Zl c).op 0,ZM (Zl c).op 1],argTypes:=#[Zz (Zl c).op,Yu (Zl c).op] },some (.c (.sl (ZG (Zr c 0)))),some (.own R xs (Y9 (Zk (Zp c).M (ZG (Zr c 0))))),some (.c (.sl (ZG (Zr c 1)))),some (.vw (YL (Zk (Zp c).V (ZG (Zr c 1)))) lo2 hi2 R.sz),some (.own R ws (Y9 (Zk (Zp c).M (YL (Zk (Zp c).V (ZG (Zr c 1))))))),some (ZP tt (Zz (Zl c).op)),some (ZP tt (Yu (Zl c).op)),true):=by kernel_rfl):Wc X c:=by
 simp only [Prod.mk.injEq] at hp
 obtain ⟨h1,h2,h3,h4,h5,h6,h7,h8,h9,h10,h11⟩:=hp
 obtain ⟨h0,hn⟩:=Yp h1
 refine Wc.ev (d:=dAv R zs c) h0 (Ys h2 rfl) (fun nk E0 F0 w0 n0 Z rest K ho hg h=>WPr.app (X:=X.var nk E0 F0 w0 n0 Z) htt hz (Zdq hw h7 h8) ho hg h3 h2 h4 h5 h6 h9 h10 (by rw [hn];simpa using h11) h) k
end
end Go.Kx
end
section
namespace Go.Kx
variable [LxP]
def Yl {α:Type} (R:TRep α) (n1 b p0:Nat) (vs:List Value) (xss:List (List α)) (h:Option Nat):Mx where
 fp c:=c=b∨∃ (j:Nat) (v:Value),vs[j]? = some v∧h≠some j∧Z6 v=some c
 ok F w:=(∃ arr el fz,w.heap[b]? = some (.cells arr el fz)∧Sx fz arr.size∧∀ (j:Nat) (v:Value),vs[j]? = some v→arr[p0+j]? = some v)∧vs.length=xss.length∧n1≤b ∧
  (∀ (j:Nat) v xs,vs[j]? = some v→xss[j]? = some xs→h≠some j→OwnR R F w xs v) ∧
  (∀ (j:Nat) v c,vs[j]? = some v→h≠some j→Z6 v=some c→n1≤c∧c≠b) ∧
  (∀ (i j:Nat) u v c,vs[i]? = some u→vs[j]? = some v→i≠j→h≠some i→h≠some j→Z6 u=some c→Z6 v≠some c)∧∀ v∈vs,v.oneCell'=true
 mono:=fun g hb ⟨⟨arr,el,fz,h1,h2,h3⟩,h4,h5,h6,h7,h8,h9⟩=>⟨⟨arr,el,fz,by rw [hb b (.inl rfl)];exact h1,h2,h3⟩,h4,h5,
  fun j v xs a1 a2 a3=>(h6 j v xs a1 a2 a3).mono g fun c hc=>hb c (.inr ⟨j,v,a1,a3,hc⟩),h7,h8,h9⟩
section
variable {X:Ctx} {s:St} {ops:Array Oper} {todo:Act→World→Prop} {tt:List (Nat × TD)}
def Vu (b p0 n:Nat) (v:Value):Prop:=∃ c,n≤c∧v=.slice (some ⟨b,p0,none⟩) n c
def D3:TRep Unit where
 sz:=1
 pos:=Nat.one_pos
 rep _ _ _ vs:=vs=[.slice none 0 0]
 len h:=by rw [h];rfl
 mono _ h:=h
 one h:=by rw [h];intro v hv;rw [List.mem_singleton.1 hv];rfl
def Zrt:Ya D3 where
 nk:=0
 cells _ _:=[.nil]
 facts _ _:=[]
 ok h j E ho:=⟨E,Env.Eqb.refl _ _,fun _=>rfl,fun _ _=>rfl,ho,h,by simp,by simp [SC.kb]⟩
 chk _ _ cs:=cs=[.nil]
 cok h E F w _:=by rw [h];rfl
 T:=ULift.{1,0} (List SC)
 lq _ _ cs:=⟨cs⟩
 rq _ _ _:=⟨[.nil]⟩
 eqn h:=congrArg ULift.down h
theorem WPr.tix {i:Nat} {rest:List Nat} {o:Oper} {t:TypeId} {td:TD} {x y:Operand} {d k b p0 len:Nat} {ik:IntKind} {n:Int} (htt:TTOk X.P tt)
  (hn:(decide (0≤n) && decide (n < (len:Int)))=true) (ho:ops[i]? = some o) (hg:ZR ops s.L o=some true) (hop:o.op=.indexAddr t x y) (hd:o.dst=some d)
  (hx:ZE s.L x=some (.c (.sl k))) (hV:Zk s.V k=some (.fn (Vu b p0 len))) (hy:ZE s.L y=some (.c (.i ik n))) (ht:Zk tt t=some td)
  (hc:(Nat.blt d X.fn.ntmps && Nat.beq td.kd 6 && Nat.beq td.es 1)=true)
  (kk:WPr X ops rest todo ⟨(d,.c (.v (.pointer (some ⟨b,p0+n.toNat,none⟩))))::s.L,s.M,s.V,s.nx⟩):WPr X ops (i::rest) todo s:=by
 simp only [Zc,decide_eq_true_eq] at hc hn
 obtain ⟨⟨c1,c2⟩,c3⟩:=hc
 have c3:=Zd c3
 refine WPr.val (v:=.c (.v (.pointer (some ⟨b,p0+n.toNat,none⟩)))) (fun E F w a hs=>⟨?_,rfl⟩) ho hg hd c1 kk
 obtain ⟨el,hu,hz⟩:=(htt.get ht).sliceOf c2
 obtain ⟨e1,_⟩:=hs.eval hx
 obtain ⟨e3,_⟩:=hs.eval hy
 obtain ⟨cap,_,hv⟩:Vu b p0 len (E.ρ k):=hs.hV k _ hV
 simp only [execOp,hop,e1,e3,Zy,Zt,hv]
 refine Yc ?_
 have:=Hq w (off:=p0) (b:=b) (len:=len) (cap:=cap) (k:=ik) hu (hz w) hn.1 hn.2
 rw [c3] at this
 simpa using this
theorem WPr.tln {i:Nat} {rest:List Nat} {o:Oper} {t:TypeId} {td:TD} {x:Operand} {d k b p0 len:Nat} (htt:TTOk X.P tt)
  (ho:ops[i]? = some o) (hg:ZR ops s.L o=some true) (hop:o.op=.call { callee:=.builtin .len,args:=#[x],argTypes:=#[t] }) (hd:o.dst=some d)
  (hx:ZE s.L x=some (.c (.sl k))) (hV:Zk s.V k=some (.fn (Vu b p0 len))) (ht:Zk tt t=some td) (hc:(Nat.blt d X.fn.ntmps && Nat.beq td.kd 6)=true)
  (kk:WPr X ops rest todo ⟨(d,.c (.i .i64 len))::s.L,s.M,s.V,s.nx⟩):WPr X ops (i::rest) todo s:=by
 simp only [Zc] at hc
 refine WPr.val (v:=.c (.i .i64 len)) (fun E F w a hs=>⟨?_,trivial⟩) ho hg hd hc.1 kk
 obtain ⟨el,hu,hz⟩:=(htt.get ht).sliceOf hc.2
 obtain ⟨e1,_⟩:=hs.eval hx
 obtain ⟨cap,_,hv⟩:Vu b p0 len (E.ρ k):=hs.hV k _ hV
 refine Tq hop ?_
 simp only [List.map_toArray,List.map_cons,List.map_nil,e1,Zy,Zt,hv]
 exact Yc (by simp [Builtin.len_,Yk hu,Builtin.lenOf,goInt])
theorem Sat.reM {E:Env} {F:ZU} {w:World} {a:Act} (hs:Sat X s E F w a) {M':List (Nat × MO)} (h1:∀ k m,Zk M' k=some m→k < s.nx∧m.kb s.nx) (h2:∀ k m,Zk M' k=some m→m.ok E F w k)
  (h3:∀ k m,Zk M' k=some m→∀ b,m.fp E k b→∃ k0 m0,Zk s.M k0=some m0∧m0.fp E k0 b)
  (h4:∀ k k' m m',Zk M' k=some m→Zk M' k'=some m'→k≠k'→∀ b,m.fp E k b→¬ m'.fp E k' b) (h5:∀ k m,Zk M' k=some m→m.isFresh=true→∀ b,m.fp E k b→X.n0≤b) :
  Sat X ⟨s.L,M',s.V,s.nx⟩ E F w a:={ hs with
 wf:=⟨hs.wf.hL,h1,hs.wf.hV⟩
 hM:=h2
 dis:=h4
 mF:=fun k m hk b hb=>let ⟨k0,m0,hm,hf⟩:=h3 k m hk b hb;hs.mF k0 m0 hm b hf
 fresh:=h5 }
theorem Sat.addFn {E:Env} {F:ZU} {w:World} {a:Act} (hs:Sat X s E F w a) {k:Nat} {Φ:Value→Prop} (hk:k < s.nx) (h:Φ (E.ρ k)):Sat X ⟨s.L,s.M,(k,.fn Φ)::s.V,s.nx⟩ E F w a:={ hs with
 wf:=⟨hs.wf.hL,hs.wf.hM,fun j f hj=>by
  rw [ZQ] at hj
  split at hj
  ·rename_i e;cases hj;subst e;exact ⟨hk,trivial⟩
  ·exact hs.wf.hV j f hj⟩
 hV:=fun j f hj=>by
  rw [ZQ] at hj
  split at hj
  ·rename_i e;cases hj;subst e;exact h
  ·exact hs.hV j f hj }
theorem Sat.tab {α:Type} (R:TRep α) {k:Nat} {xs:List Unit} {E:Env} {F:ZU} {w:World} {a:Act} (hs:Sat X s E F w a) (hM:Zk s.M k=some (.own D3 xs true)) (hne:xs≠[]) :
  ∃ b p0,Sat X ⟨s.L,(k,.abs (Yl R X.n0 b p0 (List.replicate xs.length (.slice none 0 0)) (List.replicate xs.length []) none))::s.M,(k,.fn (Vu b p0 xs.length))::s.V,s.nx⟩ E F w a:=by
 have hown:OwnR D3 F w xs (E.ρ k):=hs.hM k _ hM
 rcases hown with ⟨h,_⟩ | ⟨b,off,cap,arr,el,fz,hv,hc,ha,hth,hb,hrow⟩
 ·exact absurd h hne
 have hrep:∀ {i:Nat} {v:Value},(List.replicate xs.length (Value.slice none 0 0))[i]? = some v→i < xs.length∧v=.slice none 0 0:=fun {i v} h=>by
  rw [List.getElem?_replicate] at h
  split at h
  ·rename_i hlt;cases h;exact ⟨hlt,rfl⟩
  ·cases h
 refine ⟨b,off,?_⟩
 have s1:=hs.setM (m':=.abs (Yl R X.n0 b off (List.replicate xs.length (.slice none 0 0)) (List.replicate xs.length []) none)) (w':=w) hM rfl rfl .m (Nat.le_refl _) (fun _ _ _=>rfl) (fun c hc=>by
   rcases hc with hc | ⟨j,v,h1,_,h3⟩
   ·show Z6 (E.ρ k)=some c
    rw [hv,hc];rfl
   ·obtain ⟨_,rfl⟩:=hrep h1;cases h3) (by
   refine ⟨⟨arr,el,fz,hb,hth,fun j v h=>?_⟩,by simp,hs.fresh k _ hM rfl b (by show Z6 (E.ρ k)=some b;rw [hv];rfl),fun j v ys h1 h2 _=>?_,fun j v c h1 _ h3=>?_,fun i j u v c h1 _ _ _ _ h3=>?_,fun v hv=>by rw [List.eq_of_mem_replicate hv];rfl⟩
   ·obtain ⟨hj,rfl⟩:=hrep h
    obtain ⟨vs,e,g⟩:=hrow j () (by rw [Za hj])
    have e:vs=[.slice none 0 0]:=e
    subst e
    have:=g 0 _ rfl
    simpa [D3] using this
   ·obtain ⟨_,rfl⟩:=hrep h1
    rw [List.eq_of_mem_replicate (Zb h2)]
    exact .inl ⟨rfl,rfl⟩
   ·obtain ⟨_,rfl⟩:=hrep h1;cases h3
   ·obtain ⟨_,rfl⟩:=hrep h1;cases h3) trivial (fun h=>by cases h)
 exact s1.addFn (k:=k) (hs.wf.hM k _ hM).1 ⟨cap,hc,hv⟩
theorem Sat.take {α:Type} {R:TRep α} {b p0 j k:Nat} {vs:List Value} {xss:List (List α)} {v:Value} {xs:List α} {E:Env} {F:ZU} {w:World} {a:Act} (hs:Sat X s E F w a) (hM:Zk s.M k=some (.abs (Yl R X.n0 b p0 vs xss none)))
  (hv:vs[j]? = some v) (hx:xss[j]? = some xs):∃ E',E'.ρ s.nx=v ∧
   Sat X ⟨s.L,(s.nx,.own R xs true)::(k,.abs (Yl R X.n0 b p0 vs xss (some j)))::s.M,(s.nx,.fn (fun u=>vs[j]? = some u))::s.V,s.nx+1⟩ E' F w a:=by
 have hok:(Yl R X.n0 b p0 vs xss none).ok F w:=hs.hM k _ hM
 obtain ⟨o1,o2,o3,o4,o5,o6,o7⟩:=hok
 have hown:=o4 j v xs hv hx (by simp)
 have hE:E.Eqb s.nx (E.setρ s.nx v):=E.eqb_setρ _ _ _ (Nat.le_refl _)
 have hρ:(E.setρ s.nx v).ρ s.nx=v:=by simp [Env.setρ]
 have hkn:=(hs.wf.hM k _ hM).1
 have s1:=(hs.env hE (fun i=>by
  simp only [Env.setρ];split
  ·exact o7 v (Zb hv)
  ·exact hs.one i)).nxt (n:=s.nx+1) (Nat.le_succ _)
 have hfpk:∀ c,(Yl R X.n0 b p0 vs xss (some j)).fp c→(Yl R X.n0 b p0 vs xss none).fp c:=fun c hc=>by
  rcases hc with hc | ⟨i,u,h1,h2,h3⟩
  ·exact .inl hc
  ·exact .inr ⟨i,u,h1,by simp,h3⟩
 have hfpo:∀ c,Z6 v=some c→(Yl R X.n0 b p0 vs xss none).fp c:=fun c hc=>.inr ⟨j,v,hv,by simp,hc⟩
 have hcase:∀ {i:Nat} {m:MO},Zk ((s.nx,MO.own R xs true)::(k,.abs (Yl R X.n0 b p0 vs xss (some j)))::s.M) i=some m →
   (s.nx=i∧m=.own R xs true)∨(k=i∧m=.abs (Yl R X.n0 b p0 vs xss (some j)))∨(i≠s.nx∧i≠k∧Zk s.M i=some m):=fun {i m} h=>by
  rw [ZQ] at h
  split at h
  ·rename_i e;cases h;exact .inl ⟨e,rfl⟩
  ·rename_i e1
   rw [ZQ] at h
   split at h
   ·rename_i e;cases h;exact .inr (.inl ⟨e,rfl⟩)
   ·rename_i e2;exact .inr (.inr ⟨fun e=>e1 e.symm,fun e=>e2 e.symm,h⟩)
 have s2:=s1.reM (M':=(s.nx,.own R xs true)::(k,.abs (Yl R X.n0 b p0 vs xss (some j)))::s.M) (fun i m h=>by
   rcases hcase h with ⟨rfl,rfl⟩ | ⟨rfl,rfl⟩ | ⟨_,_,h⟩
   ·exact ⟨Nat.lt_succ_self _,trivial⟩
   ·exact ⟨Nat.lt_succ_of_lt hkn,trivial⟩
   ·have:=hs.wf.hM i m h;exact ⟨Nat.lt_succ_of_lt this.1,this.2.mono (Nat.le_succ _)⟩) (fun i m h=>by
   rcases hcase h with ⟨rfl,rfl⟩ | ⟨rfl,rfl⟩ | ⟨_,_,h⟩
   ·show OwnR R F w xs ((E.setρ s.nx v).ρ s.nx);rw [hρ];exact hown
   ·exact ⟨o1,o2,o3,fun i u ys h1 h2 _=>o4 i u ys h1 h2 (by simp),fun i u c h1 _ h3=>o5 i u c h1 (by simp) h3,fun i i' u u' c h1 h2 h3 _ _ h6=>o6 i i' u u' c h1 h2 h3 (by simp) (by simp) h6,o7⟩
   ·exact s1.hM i m h) (fun i m h c hc=>by
   rcases hcase h with ⟨rfl,rfl⟩ | ⟨rfl,rfl⟩ | ⟨_,_,h⟩
   ·have hc:Z6 ((E.setρ s.nx v).ρ s.nx)=some c:=hc
    rw [hρ] at hc
    exact ⟨k,_,hM,hfpo c hc⟩
   ·exact ⟨_,_,hM,hfpk c hc⟩
   ·exact ⟨i,m,h,hc⟩) (fun i i' m m' h h' hne c hc hc'=>by
   have hb:∀ {c},(MO.own R xs true).fp (E.setρ s.nx v) s.nx c→Z6 v=some c:=fun {c} hc=>by
    have hc:Z6 ((E.setρ s.nx v).ρ s.nx)=some c:=hc
    rwa [hρ] at hc
   have hx:∀ {c},Z6 v=some c→(Yl R X.n0 b p0 vs xss (some j)).fp c→False:=fun {c} h1 h2=>by
    rcases h2 with h2 | ⟨i,u,g1,g2,g3⟩
    ·exact (o5 j v c hv (by simp) h1).2 h2
    ·exact o6 j i v u c hv g1 (fun e=>g2 (by rw [e])) (by simp) (by simp) h1 g3
   rcases hcase h with ⟨rfl,rfl⟩ | ⟨rfl,rfl⟩ | ⟨n1,n2,h⟩
   ·rcases hcase h' with ⟨rfl,rfl⟩ | ⟨rfl,rfl⟩ | ⟨n1',n2',h'⟩
    ·exact hne rfl
    ·exact hx (hb hc) hc'
    ·exact s1.dis k i' _ m' hM h' (fun e=>n2' e.symm) c (hfpo c (hb hc)) hc'
   ·rcases hcase h' with ⟨rfl,rfl⟩ | ⟨rfl,rfl⟩ | ⟨n1',n2',h'⟩
    ·exact hx (hb hc') hc
    ·exact hne rfl
    ·exact s1.dis k i' _ m' hM h' hne c (hfpk c hc) hc'
   ·rcases hcase h' with ⟨rfl,rfl⟩ | ⟨rfl,rfl⟩ | ⟨n1',n2',h'⟩
    ·exact s1.dis i k m _ h hM n2 c hc (hfpo c (hb hc'))
    ·exact s1.dis i k m _ h hM hne c hc (hfpk c hc')
    ·exact s1.dis i i' m m' h h' hne c hc hc') (fun i m h hf c hc=>by
   rcases hcase h with ⟨rfl,rfl⟩ | ⟨rfl,rfl⟩ | ⟨_,_,h⟩
   ·have hc:Z6 ((E.setρ s.nx v).ρ s.nx)=some c:=hc
    rw [hρ] at hc
    exact (o5 j v c hv (by simp) hc).1
   ·cases hf
   ·exact s1.fresh i m h hf c hc)
 exact ⟨_,hρ,s2.addFn (k:=s.nx) (Nat.lt_succ_self _) (by rw [hρ];exact hv)⟩
theorem WPr.tld {α:Type} {R:TRep α} (htt:TTOk X.P tt) {i:Nat} {rest:List Nat} {o:Oper} {t:TypeId} {td:TD} {x:Operand} {d n1 b p0 j k q:Nat} {vs:List Value} {xss:List (List α)} {h:Option Nat}
  (ho:ops[i]? = some o) (hg:ZR ops s.L o=some true) (hop:o.op=.load t x) (hd:o.dst=some d)
  (hx:ZE s.L x=some (.c (.v (.pointer (some ⟨b,p0+j,none⟩))))) (hM:Zk s.M k=some (.abs (Yl R n1 b p0 vs xss h))) (hV:Zk s.V q=some (.fn (fun u=>vs[j]? = some u))) (hq:Nat.blt q s.nx=true)
  (ht:Zk tt t=some td) (hc:(Nat.blt d X.fn.ntmps && !td.ag)=true)
  (kk:WPr X ops rest todo ⟨(d,.c (.sl q))::s.L,s.M,s.V,s.nx⟩):WPr X ops (i::rest) todo s:=by
 simp only [Zc,Bool.not_eq_true'] at hc
 obtain ⟨c1,c2⟩:=hc
 refine WPr.val (v:=.c (.sl q)) (fun E F w a hs=>⟨?_,Z3 hq⟩) ho hg hd c1 kk
 obtain ⟨e1,_⟩:=hs.eval hx
 have hok:(Yl R n1 b p0 vs xss h).ok F w:=hs.hM k _ hM
 obtain ⟨⟨arr,el,fz,h1,_,h3⟩,_⟩:=hok
 have hv:vs[j]? = some (E.ρ q):=hs.hV q _ hV
 have hld:=GU (P:=X.P) (w:=w) (E:=E) (htt.get ht) (base:=p0+j) (off:=0) h1 (cs:=[.sl q]) (fun i c hi=>by
  cases i with
  | zero=>simp at hi;subst hi;exact h3 j _ hv
  | succ i=>simp at hi) (v:=.c (.sl q)) (by unfold Um;rw [c2];rfl)
 simp only [execOp,hop]
 refine Yc ?_
 rw [e1]
 simp only [Instr.loadAt,Zy,Zt,Instr.sureAddr,Sem.run_bind,Sem.run_pure,Result.andThen_ok]
 exact hld
theorem Sat.putB {α:Type} {R:TRep α} {b p0 j k q:Nat} {vs:List Value} {xss:List (List α)} {v:Value} {xs:List α} {E:Env} {F:ZU} {w:World} {a:Act} (hs:Sat X s E F w a) (hM:Zk s.M k=some (.abs (Yl R X.n0 b p0 vs xss (some j)))) (hq:Zk s.M q=some (.own R xs true))
  (hv:E.ρ q=v) {arr:Array Value} {el:TypeId} {fz:Nat × Nat} (hb:w.heap[b]? = some (.cells arr el fz)) (hth:Sx fz arr.size) (harr:∀ (i:Nat) (u:Value),(vs.set j v)[i]? = some u→arr[p0+i]? = some u) :
  Sat X ⟨s.L,(k,.abs (Yl R X.n0 b p0 (vs.set j v) (xss.set j xs) none))::(q,.gone)::s.M,s.V,s.nx⟩ E F w a:=by
 have hok:(Yl R X.n0 b p0 vs xss (some j)).ok F w:=hs.hM k _ hM
 obtain ⟨o1,o2,o3,o4,o5,o6,o7⟩:=hok
 have hown:OwnR R F w xs (E.ρ q):=hs.hM q _ hq
 rw [hv] at hown
 have hne:k≠q:=fun e=>by subst e;rw [hM] at hq;cases hq
 have hkn:=(hs.wf.hM k _ hM).1
 have hqn:=(hs.wf.hM q _ hq).1
 have hqf:∀ {c},Z6 v=some c→(MO.own R xs true).fp E q c:=fun {c} h=>by show Z6 (E.ρ q)=some c;rw [hv];exact h
 have hset:∀ {i:Nat} {u:Value},(vs.set j v)[i]? = some u→(j=i∧v=u)∨(i≠j∧vs[i]? = some u):=fun {i u} h=>by
  rw [List.getElem?_set] at h
  split at h
  ·rename_i e
   split at h
   ·cases h;exact .inl ⟨e,rfl⟩
   ·cases h
  ·rename_i e;exact .inr ⟨fun c=>e c.symm,h⟩
 have hsx:∀ {i:Nat} {ys:List α},(xss.set j xs)[i]? = some ys→(j=i∧xs=ys)∨(i≠j∧xss[i]? = some ys):=fun {i u} h=>by
  rw [List.getElem?_set] at h
  split at h
  ·rename_i e
   split at h
   ·cases h;exact .inl ⟨e,rfl⟩
   ·cases h
  ·rename_i e;exact .inr ⟨fun c=>e c.symm,h⟩
 have hnj:∀ {i:Nat},i≠j→(some j:Option Nat)≠some i:=fun {i} h e=>h (Option.some.inj e).symm
 have hfp:∀ c,(Yl R X.n0 b p0 (vs.set j v) (xss.set j xs) none).fp c→(Yl R X.n0 b p0 vs xss (some j)).fp c∨Z6 v=some c:=fun c hc=>by
  rcases hc with hc | ⟨i,u,h1,_,h3⟩
  ·exact .inl (.inl hc)
  ·rcases hset h1 with ⟨rfl,rfl⟩ | ⟨h,h1⟩
   ·exact .inr h3
   ·exact .inl (.inr ⟨i,u,h1,hnj h,h3⟩)
 have hcase:∀ {i:Nat} {m:MO},Zk ((k,MO.abs (Yl R X.n0 b p0 (vs.set j v) (xss.set j xs) none))::(q,.gone)::s.M) i=some m →
   (k=i∧m=.abs (Yl R X.n0 b p0 (vs.set j v) (xss.set j xs) none))∨(q=i∧m=.gone)∨(i≠k∧i≠q∧Zk s.M i=some m):=fun {i m} h=>by
  rw [ZQ] at h
  split at h
  ·rename_i e;cases h;exact .inl ⟨e,rfl⟩
  ·rename_i e1
   rw [ZQ] at h
   split at h
   ·rename_i e;cases h;exact .inr (.inl ⟨e,rfl⟩)
   ·rename_i e2;exact .inr (.inr ⟨fun e=>e1 e.symm,fun e=>e2 e.symm,h⟩)
 exact hs.reM (M':=(k,.abs (Yl R X.n0 b p0 (vs.set j v) (xss.set j xs) none))::(q,.gone)::s.M) (fun i m h=>by
   rcases hcase h with ⟨rfl,rfl⟩ | ⟨rfl,rfl⟩ | ⟨_,_,h⟩
   ·exact ⟨hkn,trivial⟩
   ·exact ⟨hqn,trivial⟩
   ·exact hs.wf.hM i m h) (fun i m h=>by
   rcases hcase h with ⟨rfl,rfl⟩ | ⟨rfl,rfl⟩ | ⟨_,_,h⟩
   ·refine ⟨⟨arr,el,fz,hb,hth,harr⟩,by simpa using o2,o3,fun i u ys h1 h2 _=>?_,fun i u c h1 _ h3=>?_,fun i i' u u' c h1 h2 h3 _ _ h6 h7=>?_,fun u hu=>?_⟩
    ·rcases hset h1 with ⟨rfl,rfl⟩ | ⟨h,h1⟩
     ·rcases hsx h2 with ⟨_,rfl⟩ | ⟨h,_⟩
      ·exact hown
      ·exact absurd rfl h
     ·rcases hsx h2 with ⟨h',_⟩ | ⟨_,h2⟩
      ·exact absurd h'.symm h
      ·exact o4 i u ys h1 h2 (hnj h)
    ·rcases hset h1 with ⟨rfl,rfl⟩ | ⟨h,h1⟩
     ·exact ⟨hs.fresh q _ hq rfl c (hqf h3),fun e=>hs.dis k q _ _ hM hq hne c (.inl e) (hqf h3)⟩
     ·exact o5 i u c h1 (hnj h) h3
    ·rcases hset h1 with ⟨rfl,rfl⟩ | ⟨h,h1⟩
     ·rcases hset h2 with ⟨e,_⟩ | ⟨h',h2⟩
      ·exact h3 e
      ·exact hs.dis k q _ _ hM hq hne c (.inr ⟨i',u',h2,hnj h',h7⟩) (hqf h6)
     ·rcases hset h2 with ⟨rfl,rfl⟩ | ⟨h',h2⟩
      ·exact hs.dis k q _ _ hM hq hne c (.inr ⟨i,u,h1,hnj h,h6⟩) (hqf h7)
      ·exact o6 i i' u u' c h1 h2 h3 (hnj h) (hnj h') h6 h7
    ·rcases List.mem_or_eq_of_mem_set hu with h | h
     ·exact o7 u h
     ·rw [h];exact Zgw hown
   ·trivial
   ·exact hs.hM i m h) (fun i m h c hc=>by
   rcases hcase h with ⟨rfl,rfl⟩ | ⟨rfl,rfl⟩ | ⟨_,_,h⟩
   ·rcases hfp c hc with h | h
    ·exact ⟨_,_,hM,h⟩
    ·exact ⟨_,_,hq,hqf h⟩
   ·exact hc.elim
   ·exact ⟨i,m,h,hc⟩) (fun i i' m m' h h' hn c hc hc'=>by
   rcases hcase h with ⟨rfl,rfl⟩ | ⟨rfl,rfl⟩ | ⟨n1,n2,h⟩
   ·rcases hcase h' with ⟨rfl,rfl⟩ | ⟨rfl,rfl⟩ | ⟨n1',n2',h'⟩
    ·exact hn rfl
    ·exact hc'
    ·rcases hfp c hc with g | g
     ·exact hs.dis k i' _ m' hM h' hn c g hc'
     ·exact hs.dis q i' _ m' hq h' (fun e=>n2' e.symm) c (hqf g) hc'
   ·exact hc
   ·rcases hcase h' with ⟨rfl,rfl⟩ | ⟨rfl,rfl⟩ | ⟨n1',n2',h'⟩
    ·rcases hfp c hc' with g | g
     ·exact hs.dis i k m _ h hM hn c hc g
     ·exact hs.dis i q m _ h hq n2 c hc (hqf g)
    ·exact hc'
    ·exact hs.dis i i' m m' h h' hn c hc hc') (fun i m h hf c hc=>by
   rcases hcase h with ⟨rfl,rfl⟩ | ⟨rfl,rfl⟩ | ⟨_,_,h⟩
   ·cases hf
   ·cases hf
   ·exact hs.fresh i m h hf c hc)
theorem WPr.tst {α:Type} {R:TRep α} (htt:TTOk X.P tt) {i:Nat} {rest:List Nat} {o:Oper} {t:TypeId} {td:TD} {x y:Operand} {b p0 j k q:Nat} {vs:List Value} {xss:List (List α)} {xs:List α}
  (hj:Nat.blt j xss.length=true) (ho:ops[i]? = some o) (hg:ZR ops s.L o=some true) (hop:o.op=.store t x y) (hd:o.dst=none)
  (hx:ZE s.L x=some (.c (.v (.pointer (some ⟨b,p0+j,none⟩))))) (hy:ZE s.L y=some (.c (.sl q))) (hM:Zk s.M k=some (.abs (Yl R X.n0 b p0 vs xss (some j)))) (hq:Zk s.M q=some (.own R xs true))
  (ht:Zk tt t=some td) (hc:Nat.beq td.sz 1=true)
  (kk:∀ v,WPr X ops rest todo ⟨s.L,(k,.abs (Yl R X.n0 b p0 (vs.set j v) (xss.set j xs) none))::(q,.gone)::(k,.abs (Yl R X.n0 b p0 (vs.set j v) xss (some j)))::s.M,s.V,s.nx⟩):WPr X ops (i::rest) todo s:=by
 intro E F w a hs
 simp only [wpOps,ho,UO hs hg,if_true]
 refine .inl ?_
 have hc:=Zd hc
 obtain ⟨e1,_⟩:=hs.eval hx
 obtain ⟨e2,_⟩:=hs.eval hy
 have hok:(Yl R X.n0 b p0 vs xss (some j)).ok F w:=hs.hM k _ hM
 obtain ⟨⟨arr,el,fz,h1,h2,h3⟩,o2,o3,o4,o5,o6,o7⟩:=hok
 have hj:j < vs.length:=by rw [o2];exact Z3 hj
 have hcell:=h3 j _ (Za hj)
 have hja:p0+j < arr.size:=(Array.getElem?_eq_some_iff.1 hcell).1
 have hone:=hs.one q
 have hst:=MS (P:=X.P) b (p0+j) el fz [E.ρ q] 0 arr w h1 h2 (by simp;omega) (by intro u hu;rw [List.mem_singleton.1 hu];exact hone)
 let arr':Array Value:=(arr.toList.take (p0+j+0)++[E.ρ q]++arr.toList.drop (p0+j+0+[E.ρ q].length)).toArray
 have hcs:(E.ρ q).cells=#[E.ρ q]:=by
  revert hone
  cases E.ρ q<;>simp [Value.oneCell',Value.cells]
 have hrun:(execOp a.eval o).run X.P w=.ok .skip (w.setRow b arr'):=by
  have hsv:(Instr.storeAt t (a.eval x) (a.eval y)).run X.P w=.ok () (w.setRow b arr'):=by
   rw [e1,e2]
   have hsz:(Zy E (.c (.sl q))).cells.size=td.sz:=by show (E.ρ q).cells.size=_;rw [hcs,hc];rfl
   show (Instr.storeAt t (.pointer (some ⟨b,p0+j,none⟩)) (Zy E (.c (.sl q)))).run X.P w=_
   simp only [Instr.storeAt,Instr.sureAddr,Sem.run_bind,Sem.run_pure,Result.andThen_ok,storeVar,ZbC w (htt.get ht),hsz,ne_eq,not_true_eq_false,if_false]
   have:(Zy E (.c (.sl q))).cells.toList=[E.ρ q]:=by show (E.ρ q).cells.toList=_;rw [hcs]
   rw [this]
   exact hst
  simp only [execOp,hop,Sem.run_bind,hsv,Result.andThen_ok,Sem.run_pure]
 refine ZdM hrun ?_
 have hal:arr.toList.length=arr.size:=Array.length_toList
 have hasz:arr'.size=arr.size:=by
  simp only [arr',List.size_toArray,List.length_append,List.length_take,List.length_drop,hal,Zg,List.length_nil];omega
 have hset:∀ {i:Nat} {u:Value},(vs.set j (E.ρ q))[i]? = some u→(i=j∧u=E.ρ q)∨(i≠j∧vs[i]? = some u):=fun {i u} h=>by
  rw [List.getElem?_set] at h
  split at h
  ·rename_i e
   cases h;exact .inl ⟨e.symm,rfl⟩
  ·rename_i e;exact .inr ⟨fun c=>e c.symm,h⟩
 have hnj:∀ {i:Nat},i≠j→(some j:Option Nat)≠some i:=fun {i} h e=>h (Option.some.inj e).symm
 have hjn:∀ {i:Nat},(some j:Option Nat)≠some i→i≠j:=fun {i} h e=>h (by rw [e])
 have harr:∀ (i:Nat) (u:Value),(vs.set j (E.ρ q))[i]? = some u→arr'[p0+i]? = some u:=fun i u h=>by
  have htk:(arr.toList.take (p0+j+0)).length=p0+j:=by rw [List.length_take,hal];omega
  show ((arr.toList.take (p0+j+0)++[E.ρ q]++arr.toList.drop (p0+j+0+[E.ρ q].length)).toArray)[p0+i]? = _
  simp only [List.getElem?_toArray,List.append_assoc]
  rcases hset h with ⟨rfl,rfl⟩ | ⟨hn,h⟩
  ·rw [List.getElem?_append_right (by rw [htk];exact Nat.le_refl _),htk,Nat.sub_self];rfl
  ·have:=h3 i u h
   rcases Nat.lt_or_gt_of_ne hn with hlt | hgt
   ·rw [List.getElem?_append_left (by rw [htk];omega),List.getElem?_take,if_pos (by omega)]
    simpa using this
   ·rw [List.getElem?_append_right (by rw [htk];omega),htk,List.getElem?_append_right (by simp;omega),List.getElem?_drop]
    simp only [Zg,List.length_nil]
    rw [show p0+j+0+(0+1)+(p0+i-(p0+j)-(0+1))=p0+i by omega]
    simpa using this
 have hg:Grow F w F (w.setRow b arr'):=⟨fun _ h=>h,fun b' hb'=>setRow_other w b b' _ (fun h=>(hs.mF k _ hM b (.inl rfl)).1 (h ▸ hb'))⟩
 have hsr:=setRow_heap w b arr arr' el fz h1
 have s1:=hs.setM (m':=.abs (Yl R X.n0 b p0 (vs.set j (E.ρ q)) xss (some j))) (w':=w.setRow b arr') hM rfl rfl .m (by simp) (fun b' _ hne=>setRow_other w b b' _ (fun h=>hne (.inl h))) (fun c hc=>by
   rcases hc with hc | ⟨i,u,g1,g2,g3⟩
   ·exact .inl hc
   ·rcases hset g1 with ⟨e,_⟩ | ⟨_,g1⟩
    ·exact absurd e (hjn g2)
    ·exact .inr ⟨i,u,g1,g2,g3⟩) (by
   refine ⟨⟨arr',el,fz,hsr,by rw [hasz];exact h2,harr⟩,by simpa using o2,o3,fun i u ys g1 g2 g3=>?_,fun i u c g1 g2 g3=>?_,fun i i' u u' c g1 g2 g3 g4 g5 g6=>?_,fun u hu=>?_⟩
   ·rcases hset g1 with ⟨e,_⟩ | ⟨_,g1⟩
    ·exact absurd e (hjn g3)
    ·exact (o4 i u ys g1 g2 g3).mono hg fun c hc=>setRow_other w b c _ (fun h=>(o5 i u c g1 g3 hc).2 h)
   ·rcases hset g1 with ⟨e,_⟩ | ⟨_,g1⟩
    ·exact absurd e (hjn g2)
    ·exact o5 i u c g1 g2 g3
   ·rcases hset g1 with ⟨e,_⟩ | ⟨_,g1⟩
    ·exact absurd e (hjn g4)
    ·rcases hset g2 with ⟨e,_⟩ | ⟨_,g2⟩
     ·exact absurd e (hjn g5)
     ·exact o6 i i' u u' c g1 g2 g3 g4 g5 g6
   ·rcases List.mem_or_eq_of_mem_set hu with h | h
    ·exact o7 u h
    ·rw [h];exact hone) trivial (fun h=>by cases h)
 have hqk:q≠k:=fun e=>by subst e;rw [hM] at hq;cases hq
 have s2:=s1.putB (q:=q) (v:=E.ρ q) (xs:=xs) (by rw [ZQ,if_pos rfl]) (by rw [ZQ,if_neg (fun e=>hqk e.symm)];exact hq) rfl hsr (by rw [hasz];exact h2) (by rw [List.set_set];exact harr)
 rw [List.set_set] at s2
 rw [hd]
 exact kk _ _ _ _ _ s2
theorem Sat.frzT {α:Type} {R:TRep α} {b p0 k len:Nat} {vs:List Value} {xss:List (List α)} {E:Env} {F:ZU} {w:World} {a:Act} (hs:Sat X s E F w a) (hM:Zk s.M k=some (.abs (Yl R X.n0 b p0 vs xss none))) (hV:Zk s.V k=some (.fn (Vu b p0 len)))
  (hl:xss.length=len):Sat X ⟨s.L,(k,.gone)::s.M,(k,.sl (YP R) xss)::s.V,s.nx⟩ E (fun c=>F c∨(Yl R X.n0 b p0 vs xss none).fp c) w a:=by
 have hk:=hs.wf.hM k _ hM
 have hg:Grow F w (fun c=>F c∨(Yl R X.n0 b p0 vs xss none).fp c) w:=⟨fun _ h=>.inl h,fun _ _=>rfl⟩
 have hmf:=hs.mF k _ hM
 have hok:(Yl R X.n0 b p0 vs xss none).ok F w:=hs.hM k _ hM
 obtain ⟨⟨arr,el,fz,h1,h2,h3⟩,o2,o3,o4,o5,o6,o7⟩:=hok
 obtain ⟨cap,hcap,hρ⟩:Vu b p0 len (E.ρ k):=hs.hV k _ hV
 exact {
  wf:=⟨hs.wf.hL,fun j m h=>by
   rw [ZQ] at h
   split at h
   ·rename_i e;cases h;subst e;exact ⟨hk.1,trivial⟩
   ·exact hs.wf.hM j m h,fun j f h=>by
   rw [ZQ] at h
   split at h
   ·rename_i e;cases h;subst e;exact ⟨hk.1,trivial⟩
   ·exact hs.wf.hV j f h⟩
  nk:=hs.nk
  defers:=hs.defers
  size:=hs.size
  hL:=hs.hL
  hV:=fun j f h=>by
   rw [ZQ] at h
   split at h
   ·rename_i e;cases h;subst e
    refine .inr ⟨b,p0,cap,arr,el,fz,by rw [hρ,hl],by rw [hl];exact hcap,.inr (.inl rfl),h1,fun i x hx=>?_⟩
    have hi:i < vs.length:=by rw [o2];exact (List.getElem?_eq_some_iff.1 hx).1
    have hv:=Za hi
    refine ⟨[vs[i]],⟨vs[i],rfl,?_⟩,fun j v hj=>?_⟩
    ·rcases o4 i _ x hv hx (by simp) with ⟨g1,g2⟩ | ⟨b',off,cap',arr',el',fz',g1,g2,_,_,g5,g6⟩
     ·exact .inl ⟨g1,_,_,g2⟩
     ·exact .inr ⟨b',off,cap',arr',el',fz',g1,g2,.inr (.inr ⟨i,_,hv,by simp,by rw [g1];rfl⟩),g5,g6.mono hg⟩
    ·cases j with
     | zero=>simp at hj;subst hj;show arr[p0+i * 1+0]? = _;simpa using h3 i _ hv
     | succ j=>simp at hj
   ·exact (hs.hV j f h).mono hg
  hM:=fun j m h=>by
   rw [ZQ] at h
   split at h
   ·cases h;trivial
   ·exact (hs.hM j m h).mono hg fun _ _=>rfl
  dis:=fun j j' m m' h h' hne b hb=>by
   rw [ZQ] at h h'
   split at h
   ·cases h;exact hb.elim
   ·split at h'
    ·cases h';exact fun hb'=>hb'.elim
    ·exact hs.dis j j' m m' h h' hne b hb
  mF:=fun j m h c hc=>by
   rw [ZQ] at h
   split at h
   ·cases h;exact hc.elim
   ·rename_i hne
    have:=hs.mF j m h c hc
    refine ⟨?_,this.2⟩
    rintro (hF | hb')
    ·exact this.1 hF
    ·exact hs.dis k j _ m hM h hne c hb' hc
  fresh:=fun j m h hfr c hc=>by
   rw [ZQ] at h
   split at h
   ·cases h;exact hc.elim
   ·exact hs.fresh j m h hfr c hc
  hF:=fun c hc=>by
   rcases hc with hc | hc
   ·exact hs.hF c hc
   ·exact (hmf c hc).2.2
  hF0:=fun c hc=>.inl (hs.hF0 c hc)
  hF1:=fun c hc=>by
   rcases hc with hc | hc
   ·exact hs.hF1 c hc
   ·refine .inr ⟨?_,(hmf c hc).2.1⟩
    rcases hc with hc | ⟨i,u,g1,g2,g3⟩
    ·rw [hc];exact o3
    ·exact (o5 i u c g1 g2 g3).1
  hn0:=hs.hn0
  hZ:=hs.hZ
  ext:=hs.ext
  link:=hs.link
  one:=hs.one }
end
end Go.Kx
end
section
namespace Go.Kx
def Vs (cf:Int→Int→Int) (xs:List Int) (a b:{i:Int // i∈xs}):Bool:=Go.Proofs.ltOf (fun a b=>cf a.1 b.1) a b
abbrev Pc (xs:List Int) (h:xs≠[]):Inhabited {i:Int // i∈xs}:=⟨⟨xs.head h,List.head_mem h⟩⟩
def XL (cf:Int→Int→Int):List Int→List Int
  | []=>[]
  | [x]=>[x]
  | x::y::r=>(@Go.Sort.pdq _ (Pc (x::y::r) (List.cons_ne_nil _ _)) (Vs cf (x::y::r)) (x::y::r).attach.toArray 0 (x::y::r).length (Go.Lib.bitLen (x::y::r).length) true true).toList.map (·.1)
abbrev VW (xs:List Int) (a:{i:Int // i∈xs}):Value:=.int .i64 a.1
theorem ZiN (cf:Int→Int→Int) (xs:List Int) (hne:xs≠[]) (hO:Go.Sort.SWO (Vs cf xs)) :
    (@Go.Sort.pdq _ (Pc xs hne) (Vs cf xs) xs.attach.toArray 0 xs.length (Go.Lib.bitLen xs.length) true true).toList.map (·.1)=XL cf xs ∧
    (@Go.Sort.pdq _ (Pc xs hne) (Vs cf xs) xs.attach.toArray 0 xs.length (Go.Lib.bitLen xs.length) true true).size=xs.length:=by
  have hsz:xs.attach.toArray.size=xs.length:=by simp
  have h:=@Go.Sort.pdq_sorts _ (Pc xs hne) (Vs cf xs) hO xs.attach.toArray 0 xs.length (Go.Lib.bitLen xs.length) true true (Nat.zero_le _) (by simp) (Or.inl rfl)
  refine ⟨?_,h.1.1.trans hsz⟩
  match xs,hne,hO,h with
  | [x],hne,hO,h =>
    have hl:=h.1.1
    generalize (@Go.Sort.pdq _ (Pc [x] hne) (Vs cf [x]) [x].attach.toArray 0 [x].length (Go.Lib.bitLen [x].length) true true)=d at hl
    have hl:d.toList.length=1:=by rw [Array.length_toList,hl];rfl
    generalize d.toList=l at hl
    match l,hl with
    | [⟨z,hz⟩],_=>simp at hz;subst hz;rfl
  | x::y::r,_,_,_=>rfl
theorem Znp (cf:Int→Int→Int) (xs:List Int) (hO:Go.Sort.SWO (Vs cf xs)) :
  (XL cf xs).Perm xs∧∀ (i j:Nat) (a b:Int),i < j→(XL cf xs)[i]? = some a→(XL cf xs)[j]? = some b→¬ cf b a < 0:=by
 by_cases hne:xs=[]
 ·subst hne;exact ⟨List.Perm.refl _,fun i j a b _ h=>by simp [XL] at h⟩
 obtain ⟨h1,h2⟩:=ZiN cf xs hne hO
 rw [← h1]
 letI:=Pc xs hne
 have hsz:xs.attach.toArray.size=xs.length:=by simp
 have h:=Go.Sort.pdq_sorts (Vs cf xs) hO xs.attach.toArray 0 xs.length (Go.Lib.bitLen xs.length) true true (Nat.zero_le _) (by simp) (Or.inl rfl)
 generalize (Go.Sort.pdq (Vs cf xs) xs.attach.toArray 0 xs.length (Go.Lib.bitLen xs.length) true true)=d at h h2
 obtain ⟨⟨_,_,hp⟩,hs⟩:=h
 have e1:d.extract 0 xs.length=d:=by rw [← h2];simp
 have e2:xs.attach.toArray.extract 0 xs.length=xs.attach.toArray:=by rw [← hsz,Array.extract_size]
 rw [e1,e2] at hp
 refine ⟨?_,fun i j a b hij ha hb=>?_⟩
 ·have:=hp.map (fun a:{i:Int // i∈xs}=>a.1)
  simpa using this
 ·rw [List.getElem?_map,Option.map_eq_some_iff] at ha hb
  obtain ⟨a',ha,rfl⟩:=ha
  obtain ⟨b',hb,rfl⟩:=hb
  have hjl:j < d.size:=by have:=(List.getElem?_eq_some_iff.1 hb).1;simpa using this
  have:=hs i j (Nat.zero_le _) hij (by omega)
  have ea:d[i]! = a':=by
   have:d[i]? = some a':=by simpa using ha
   rw [getElem!_def,this]
  have eb:d[j]! = b':=by
   have:d[j]? = some b':=by simpa using hb
   rw [getElem!_def,this]
  rw [ea,eb] at this
  unfold Vs Go.Proofs.ltOf at this
  simpa using this
def Ht (lt:Int→Int→Bool) (xs:List Int):Bool:=xs.all fun a => !lt a a && xs.all fun b=>xs.all fun c=>(!(lt a b && lt b c) || lt a c) && (lt a b || lt b c || !lt a c)
theorem ZmR {lt:Int→Int→Bool} {xs:List Int} (h:Ht lt xs=true):Go.Sort.SWO (fun a b:{i:Int // i∈xs}=>lt a.1 b.1):=by
 unfold Ht at h
 have h1:=fun a ha=>(Zc _ _ ▸ List.all_eq_true.1 h a ha:_∧_)
 have h2:=fun a ha b hb c hc=>(Zc _ _ ▸ List.all_eq_true.1 (List.all_eq_true.1 (h1 a ha).2 b hb) c hc:_∧_)
 refine ⟨fun x=>?_,fun x y z=>?_,fun x y z=>?_⟩
 ·have:=(h1 x.1 x.2).1
  revert this
  cases lt x.1 x.1<;>simp
 ·have:=(h2 x.1 x.2 y.1 y.2 z.1 z.2).1
  revert this
  cases lt x.1 y.1<;>cases lt y.1 z.1<;>cases lt x.1 z.1<;>simp
 ·have:=(h2 x.1 x.2 y.1 y.2 z.1 z.2).2
  revert this
  cases lt x.1 y.1<;>cases lt y.1 z.1<;>cases lt x.1 z.1<;>simp
theorem ZiP {cf:Int→Int→Int} {xs:List Int} (h:Ht (fun a b=>decide (cf a b < 0)) xs=true):Go.Sort.SWO (Vs cf xs):=ZmR h
end Go.Kx
end
section
namespace Go.Kx
variable [LxP]
open Go.Proofs
abbrev PJ:LxP:=⟨False⟩
theorem ZnF {w w':World} (h1:w'.os=w.os) (h2:w'.tape=w.tape) (h3:Oq w w') (hL:¬ LxP.p) (hs:w.heap.size≤w'.heap.size) (hb:∀ b,b < w.heap.size→w'.heap[b]? = w.heap[b]?) :
  ∃ q os,w'=Go.Sort.grow (w.drewN q) os:=by
 refine ⟨w'.drawn-w.drawn,w'.heap.extract w.heap.size w'.heap.size,?_⟩
 obtain ⟨ho,hd⟩:=h3
 have hd:w.drawn≤w'.drawn:=hd.elim (fun h=>(hL h).elim) id
 obtain ⟨heap',tape',drawn',os',out'⟩:=w'
 obtain ⟨heap,tape,drawn,os,out⟩:=w
 simp only at h1 h2 ho hd hs hb
 subst h1 h2 ho
 simp only [Go.Sort.grow,World.drewN,World.mk.injEq]
 refine ⟨?_,by first | rfl | trivial,by omega,by first | rfl | trivial,by first | rfl | trivial⟩
 apply Array.ext_getElem?
 intro i
 by_cases hi:i < heap.size
 ·rw [hb i hi,Array.getElem?_append_left hi]
 ·rw [Array.getElem?_append_right (by omega),Array.getElem?_extract]
  split
  ·congr 1;omega
  ·rw [Array.getElem?_eq_none];omega
def Zac (c:Ct):Bool:=c.M0.all fun p=>match p.2 with
 | .box cs _=>Nat.blt p.1 c.nk && cs.all (SC.kbb c.nk)
 | _=>false
theorem Zlo {c:Ct} {E E':Env} {F F':ZU} {w w':World} (hp:c.Pre E F w) (hq:c.Post E F w E' F' w') (hL:¬ LxP.p) (h1:c.M1=c.M0) (h2:Zac c=true):∃ q os,w'=Go.Sort.grow (w.drewN q) os:=by
 refine ZnF hq.ext.os hq.ext.tape hq.ext.output hL hq.ext.size fun b hb=>?_
 by_cases hf:c.fp0 E b
 ·obtain ⟨k,m,hk,hm⟩:=hf
  have hB:=List.all_eq_true.1 h2 _ (Ye hk)
  cases m with
  | box cs t =>
   simp only [Zc] at hB
   have g1:=hp.M k _ hk
   have g2:=hq.M k _ (by rw [h1];exact hk)
   have he:=hq.env k (Z3 hB.1)
   simp only [MO.ok] at g1 g2
   have hm:b=E.β k:=hm
   rw [hm,g1,← he.2,g2,Pw hq.env fun x hx=>SC.kbb_ok (List.all_eq_true.1 hB.2 x hx)]
  | _=>cases hB
 ·exact hq.ext.block b ⟨hb,hf⟩
section
variable {X:Ctx} {s:St} {E:Env} {F:ZU} {w:World} {a:Act} {ops:Array Oper} {todo:Act→World→Prop}
theorem Zrx {xs:List Int} [Inhabited {i:Int // i∈xs}] {blk off m:Nat} {dk:Array {i:Int // i∈xs}} {os:Array Obj} {arr:Array Value} {el:TypeId} {fz:Nat × Nat} (hb:w.heap[blk]? = some (.cells arr el fz)) :
  (sortWorld (VW xs) w blk off m dk os).heap[blk]? = some (.cells (Go.Sort.putCells (VW xs) off dk arr) el fz):=by
 have hlt:blk < w.heap.size:=(Array.getElem?_eq_some_iff.1 hb).1
 unfold sortWorld
 rw [Go.Sort.heap_grow_old _ _ (by simpa [Go.Sort.ahead] using hlt)]
 simp [Go.Sort.putRow,Go.Sort.mapBlock,Go.Sort.ahead,Array.getElem?_modify,hb,Go.Sort.onCells]
theorem Zoo {xs:List Int} [Inhabited {i:Int // i∈xs}] {blk off m:Nat} {dk:Array {i:Int // i∈xs}} {os:Array Obj} {b:Nat} (hb:b < w.heap.size) (hne:b≠blk) :
  (sortWorld (VW xs) w blk off m dk os).heap[b]? = w.heap[b]? := by
 unfold sortWorld
 rw [Go.Sort.heap_grow_old _ _ (by simpa [Go.Sort.ahead] using hb)]
 have:¬ blk=b:=fun e=>hne e.symm
 simp [Go.Sort.putRow,Go.Sort.mapBlock,Go.Sort.ahead,Array.getElem?_modify,this]
theorem Sat.srt (hs:Sat X s E F w a) {q blk off cap:Nat} {xs:List Int} [Inhabited {i:Int // i∈xs}] {fr:Bool} {arr:Array Value} {el:TypeId} {fz:Nat × Nat} (hq:Zk s.M q=some (.own (rI .i64) xs fr))
    (hv:E.ρ q=.slice (some ⟨blk,off,none⟩) xs.length cap) (hc:xs.length≤cap) (ha:off+cap≤arr.size) (hth:Sx fz arr.size) (hb:w.heap[blk]? = some (.cells arr el fz))
    (m:Nat) (os:Array Obj) (dk:Array {i:Int // i∈xs}) (hd:dk.size=xs.length) :
    Sat X ⟨s.L,(q,.own (rI .i64) (dk.toList.map (·.1)) fr)::s.M,s.V,s.nx⟩ E F (sortWorld (VW xs) w blk off m dk os) a:=by
  refine hs.setM (m':=.own (rI .i64) (dk.toList.map (·.1)) fr) (w':=sortWorld (VW xs) w blk off m dk os) hq rfl rfl ⟨rfl,.inr (Nat.le_add_right _ _)⟩ (by simp [sortWorld,Go.Sort.ahead]) (fun b hb' hne=>Zoo hb' fun e=>hne ?_) (fun b hb=>hb) ?_ trivial (fun h=>h)
  · show Z6 (E.ρ q)=some b
    rw [hv,e];rfl
  · refine .inr ⟨blk,off,cap,Go.Sort.putCells (VW xs) off dk arr,el,fz,?_,?_,?_,?_,Zrx hb,fun i x hx=>?_⟩
    · rw [hv];simp [hd]
    · simpa [hd] using hc
    · simpa [Go.Sort.putCells,rI] using ha
    · simpa [Go.Sort.putCells] using hth
    · refine ⟨[.int .i64 x],rfl,fun j v hj=>?_⟩
      rw [List.getElem?_map,Option.map_eq_some_iff] at hx
      obtain ⟨x',hx,rfl⟩:=hx
      have hi:i < dk.size:=by have:=(List.getElem?_eq_some_iff.1 hx).1;simpa using this
      cases j with
      | succ j=>simp at hj
      | zero =>
        simp only [List.getElem?_cons_zero,Option.some.injEq] at hj
        subst hj
        have hlt:off+i * 1+0 < arr.size:=by omega
        show (Go.Sort.putCells (VW xs) off dk arr)[off+i * 1+0]? = _
        unfold Go.Sort.putCells
        rw [Array.getElem?_mapIdx,Array.getElem?_eq_getElem hlt]
        have h1:off≤off+i * 1+0∧off+i * 1+0 < off+dk.size:=⟨by omega,by omega⟩
        have h2:off+i * 1+0-off=i:=by omega
        have h3:dk[i]! = x':=by
          have:dk[i]? = some x':=by simpa using hx
          rw [getElem!_def,this]
        simp only [Option.map_some,h1,and_self,if_true,h2,h3]
def ZiY (s2:St) (c:Ct) (l:List (Nat × SC)):Prop :=
 c.V0.map (fun p=>Uy s2 ⟨l,c.nk,s2.nx⟩ [] p.1 p.2)=c.V0.map (fun p=>some p.2) ∧
 c.M0.map (fun p=>X3 s2 ⟨l,c.nk,s2.nx⟩ p.1 p.2)=c.M0.map (fun p=>some (X9 ⟨l,c.nk,s2.nx⟩ p.2))∧VK s2 c l []=true
theorem Zoc (hs:Sat X s E F w a) {q blk off cap d:Nat} {xs:List Int} [Inhabited {i:Int // i∈xs}] {fr:Bool} {arr:Array Value} {el:TypeId} {fz:Nat × Nat} (hq:Zk s.M q=some (.own (rI .i64) xs fr))
    (hv:E.ρ q=.slice (some ⟨blk,off,none⟩) xs.length cap) (hc:xs.length≤cap) (ha:off+cap≤arr.size) (hth:Sx fz arr.size) (hb:w.heap[blk]? = some (.cells arr el fz))
    {f:FuncId} {ks:List Nat} {cf:Int→Int→Int} {ct:Int→Int→Ct} (hfn:∀ i k,i∈xs→k∈xs→@Fn PJ X.P f (ct i k)) (l:List (Nat × SC)) (hd:d < X.fn.ntmps)
    (hck:∀ zs i k,ZiY ⟨s.L,(q,.own (rI .i64) zs fr)::s.M,s.V,s.nx⟩ (ct i k) l)
    (hct:∀ i k,(ct i k).args.map (XD ⟨l,(ct i k).nk,s.nx⟩)=[.c (.i .i64 i),.c (.i .i64 k)]++VP ks∧(ct i k).res=.c (.i .i64 (cf i k))∧(ct i k).M1=(ct i k).M0∧Zac (ct i k)=true) :
    CmpLays1 X.P f (Y5 E ks) (VW xs) (fun a b=>cf a.1 b.1) blk off xs.length w:=by
  intro m os dk hdk x y
  have s2:=hs.srt hq hv hc ha hth hb m os dk hdk
  obtain ⟨k1,k2,k3⟩:=hck (dk.toList.map (·.1)) x.1 y.1
  obtain ⟨a1,a2,a3,a4⟩:=hct x.1 y.1
  obtain ⟨hpre,_⟩:=Zax s2 (c:=ct x.1 y.1) (l:=l) (bor:=[]) (d:=d) hd k1 k2 (.inl rfl) k3
  have hall:(ct x.1 y.1).args.all (Vo ⟨l,(ct x.1 y.1).nk,s.nx⟩)=true:=by simp only [VK,Zc] at k3;exact k3.2
  have hargs:((ct x.1 y.1).args.map (Zy ((⟨l,(ct x.1 y.1).nk,s.nx⟩:Ren).env E))).toArray=#[VW xs x,VW xs y]++Y5 E ks:=by
    have h1:(ct x.1 y.1).args.map (Zy ((⟨l,(ct x.1 y.1).nk,s.nx⟩:Ren).env E))=((ct x.1 y.1).args.map (XD ⟨l,(ct x.1 y.1).nk,s.nx⟩)).map (Zy E):=by
      rw [List.map_map]
      exact List.map_congr_left fun v hv=>QS _ E (List.all_eq_true.1 hall v hv)
    have hbox:(VP ks).map (Zy E)=(Y5 E ks).toList:=by simp [VP,Y5,Zy,Zt,Function.comp_def]
    rw [h1,a1,List.map_append,hbox]
    apply Array.ext'
    simp [Zy,Zt]
  have:=@Fn.calls PJ _ _ _ (hfn x.1 y.1 x.2 y.2) _ _ _ hpre
  rw [hargs] at this
  refine this.mono ?_
  rintro e w' ⟨E',F',rfl,hp⟩
  refine ⟨by rw [a2];rfl,?_⟩
  exact @Zlo PJ _ _ _ _ _ _ _ hpre hp id a3 a4
theorem WPr.srt {ρ:Go.Shelf.Ren} {i:Nat} {rest:List Nat} {o:Oper} {x y:Operand} {ts:Array TypeId} {d q:Nat} {xs:List Int} {fr:Bool} {f:FuncId} {ks:List Nat} {cf:Int→Int→Int} {ct:Int→Int→Ct}
  (L:SlLaysF.n6 X.P ρ) (hlen:xs.length < 4611686018427387904) (hO:Go.Sort.SWO (Vs cf xs)) (hfn:∀ i k,i∈xs→k∈xs→@Fn PJ X.P f (ct i k)) (l:List (Nat × SC))
  (ho:ops[i]? = some o) (hg:ZR ops s.L o=some true) (hop:o.op=.call { callee:=.value (.func (ρ.f 6)),args:=#[x,y],argTypes:=ts }) (hd:o.dst=some d) (hdn:Nat.blt d X.fn.ntmps=true)
  (hx:ZE s.L x=some (.c (.sl q))) (hy:ZE s.L y=some (.c (.cl f [] ks))) (hq:Zk s.M q=some (.own (rI .i64) xs fr)) (hcal:Bl X.P f)
  (hck:∀ zs i k,ZiY ⟨s.L,(q,.own (rI .i64) zs fr)::s.M,s.V,s.nx⟩ (ct i k) l)
  (hct:∀ i k,(ct i k).args.map (XD ⟨l,(ct i k).nk,s.nx⟩)=[.c (.i .i64 i),.c (.i .i64 k)]++VP ks∧(ct i k).res=.c (.i .i64 (cf i k))∧(ct i k).M1=(ct i k).M0∧Zac (ct i k)=true)
  (kk:WPr X ops rest todo ⟨(d,.t [])::s.L,(q,.own (rI .i64) (XL cf xs) fr)::s.M,s.V,s.nx⟩):WPr X ops (i::rest) todo s:=by
 refine WPr.op ho hg (fun E F w a hs=>?_) kk
 obtain ⟨e1,_⟩:=hs.eval hx
 obtain ⟨e2,_⟩:=hs.eval hy
 have hev:(#[x,y]:Array Operand).map a.eval=#[E.ρ q,.func (.func f) #[] (Y5 E ks)]:=by
  simp [e1,e2,Zy,Zt,Y5]
 have hrun:(execOp a.eval o).run X.P w=.ok (.enter (ρ.f 6) #[E.ρ q,.func (.func f) #[] (Y5 E ks)]) w:=by
  unfold execOp
  simp only [hop,resolve,Deferred.ofValue,Act.eval,invoke,Sem.run_bind,Sem.run_pure,Result.andThen_ok]
  have:=L.f6.enters rfl (#[]++(#[x,y]:Array Operand).map a.eval++#[]) w
  simpa [hev] using this
 unfold Oper.wp
 rw [hrun]
 show Calls _ _ _ _ _
 have hown:OwnR (rI .i64) F w xs (E.ρ q):=hs.hM q _ hq
 have fin:∀ w',Sat X ⟨s.L,(q,.own (rI .i64) (XL cf xs) fr)::s.M,s.V,s.nx⟩ E F w' a→∃ E' F',Sat X ⟨(d,.t [])::s.L,(q,.own (rI .i64) (XL cf xs) fr)::s.M,s.V,s.nx⟩ E' F' w' (a.put (some d) (.tuple #[])) :=
  fun w' h=>⟨E,F,h.setL (d:=d) (v:=.t []) (by intro v hv;cases hv) (Z3 hdn)⟩
 by_cases hne:xs=[]
 ·have hr:∃ p cap,E.ρ q=.slice p 0 cap:=by
   rcases hown with ⟨_,h⟩ | ⟨b,off,cap,_,_,_,h,_⟩
   ·exact ⟨_,_,h⟩
   ·rw [hne] at h;exact ⟨_,_,h⟩
  obtain ⟨p,cap,hr⟩:=hr
  rw [hr]
  refine (AnyF.slices_SortFunc_none { L with } p cap _ w).mono ?_
  rintro e w' ⟨rfl,rfl⟩
  rw [hd]
  refine fin _ ?_
  have:XL cf xs=xs:=by rw [hne];rfl
  rw [this]
  exact hs.reM (M':=(q,.own (rI .i64) xs fr)::s.M) (fun k m h=>by
    rw [ZQ] at h
    split at h
    ·rename_i e;cases h;subst e;exact hs.wf.hM _ _ hq
    ·exact hs.wf.hM k m h) (fun k m h=>by
    rw [ZQ] at h
    split at h
    ·rename_i e;cases h;subst e;exact hs.hM _ _ hq
    ·exact hs.hM k m h) (fun k m h b hb=>by
    rw [ZQ] at h
    split at h
    ·rename_i e;cases h;subst e;exact ⟨_,_,hq,hb⟩
    ·exact ⟨k,m,h,hb⟩) (fun k k' m m' h h' hn b hb=>by
    have key:∀ {k m},Zk ((q,MO.own (rI .i64) xs fr)::s.M) k=some m→Zk s.M k=some m:=fun {k m} h=>by
     rw [ZQ] at h
     split at h
     ·rename_i e;cases h;subst e;exact hq
     ·exact h
    exact hs.dis k k' m m' (key h) (key h') hn b hb) (fun k m h hf b hb=>by
    rw [ZQ] at h
    split at h
    ·rename_i e;cases h;subst e;exact hs.fresh _ _ hq hf b hb
    ·exact hs.fresh k m h hf b hb)
 ·rcases hown with ⟨h,_⟩ | ⟨blk,off,cap,arr,el,fz,hv,hc,ha,hth,hb,hrow⟩
  ·exact absurd h hne
  ·letI:=Pc xs hne
   have ha:off+cap≤arr.size:=by simpa [rI] using ha
   have hsz:xs.attach.toArray.size=xs.length:=by simp
   have hlay:=Zoc hs hq hv hc ha hth hb hfn l (Z3 hdn) hck hct
   have hH:Go.Sort.Holds (VW xs) w blk off xs.attach.toArray:=fun j hj=>by
    have hj':j < xs.length:=by rwa [hsz] at hj
    obtain ⟨vs,h1,h2⟩:=hrow j xs[j] (Za hj')
    have h1:vs=[.int .i64 xs[j]]:=h1
    subst h1
    have h3:=h2 0 _ rfl
    refine ⟨?_,?_⟩
    ·unfold World.cell?
     rw [hb]
     have:(xs.attach.toArray[j]! : {i:Int // i∈xs}).1=xs[j]:=by
      rw [getElem!_pos _ j (by simpa using hj')];simp
     show arr[off+j]? = some (.int .i64 _)
     rw [this]
     simpa [rI] using h3
    ·unfold World.frozen?
     rw [hb]
     exact hth (off+j) (by omega)
   have hrun2:=Any.slices_SortFunc_eq L (VW xs) (fun _=>rfl) (fun a b=>cf a.1 b.1) hO f (Y5 E ks) blk off cap xs.attach.toArray w (Zbg hcal) (by rw [hsz];exact hlay) hH (Array.getElem?_eq_some_iff.1 hb).1 (by rw [hsz];exact hlen)
   rw [hsz] at hrun2
   rw [hv]
   refine hrun2.mono ?_
   rintro e w' ⟨rfl,n,os,rfl⟩
   rw [hd]
   refine fin _ ?_
   obtain ⟨p1,p2⟩:=ZiN cf xs hne hO
   have:=hs.srt hq hv hc ha hth hb n os _ p2
   rw [p1] at this
   exact this
end
end Go.Kx
end
section
namespace Go.Kx
variable [LxP]
open Go.Proofs
theorem og {β:Type} {b:Bool} {x:Option β} {r:β} (h:(bif b then x else none)=some r):b=true∧x=some r:=by
 cases b with
 | true=>exact ⟨rfl,h⟩
 | false=>cases h
section
variable {X:Ctx} {tt:List (Nat × TD)}
def Zcq (tt:List (Nat × TD)) (nt:Nat):Nat→Cf→Cf
 | 0,c=>c
 | n+1,c=>match a1 tt nt c with
  | .no=>c
  | c'=>Zcq tt nt n c'
theorem ZjO (htt:TTOk X.P tt):∀ (n:Nat) {c:Cf},Wc X (Zcq tt X.fn.ntmps n c)→Wc X c
 | 0,_,h=>h
 | n+1,c,h=>by
  unfold Zcq at h
  split at h
  ·exact h
  ·exact Zfy htt (ZjO htt n h)
theorem wm (htt:TTOk X.P tt) {c:Cf} (k:Wc X (Zcq tt X.fn.ntmps 100 c)):Wc X c:=ZjO htt 100 k
def BA (b n:Nat):SV:=.c (.v (.pointer (some ⟨b,n,none⟩)))
def nTx (b n:Nat) (c:Cf):Cf:=Ym (d1 c (BA b n)) c
theorem eTx {b p0 len:Nat} {n:Int} {c:Cf} (htt:TTOk X.P tt) (hn:(decide (0≤n) && decide (n < (len:Int)))=true) (k:Wc X (nTx b (p0+n.toNat) c))
  (hp:(hB X.fn.ntmps c,(Zl c).dst,(Zl c).op,Zr c 0,Zk (Zp c).V (ZG (Zr c 0)),Zr c 1,Zk tt (Zz (Zl c).op),U3 tt 1 c) =
   (true,some (ZV c),.indexAddr (Zz (Zl c).op) (ZM (Zl c).op 0) (ZM (Zl c).op 1),some (.c (.sl (ZG (Zr c 0)))),some (.fn (Vu b p0 len)),some (.c (.i (Uh (Zr c 1)) n)),some (ZP tt (Zz (Zl c).op)),true):=by kernel_rfl):Wc X c:=by
 simp only [Prod.mk.injEq] at hp
 obtain ⟨h1,h2,h3,h4,h5,h6,h7,h8⟩:=hp
 obtain ⟨h0,hn'⟩:=Yp h1
 exact Wc.ev (d:=d1 c (BA b (p0+n.toNat))) h0 (Ys h2 rfl) (fun nk E0 F0 w0 n0 Z rest K ho hg h=>WPr.tix (X:=X.var nk E0 F0 w0 n0 Z) htt hn ho hg h3 h2 h4 h5 h6 h7 (SD h8 hn') h) k
def sl6 (tt:List (Nat × TD)) (nt:Nat) (c:Cf):Bool:=Nat.blt (ZV c) nt && Nat.beq (ZP tt (Zz (Zl c).op)).kd 6
theorem eTn {b p0 len:Nat} {c:Cf} (htt:TTOk X.P tt) (k:Wc X (Ym (d1 c (.c (.i .i64 len))) c))
  (hp:(hB X.fn.ntmps c,(Zl c).dst,(Zl c).op,Zr c 0,Zk (Zp c).V (ZG (Zr c 0)),Zk tt (Zz (Zl c).op),sl6 tt X.fn.ntmps c) =
   (true,some (ZV c),.call { callee:=.builtin .len,args:=#[ZM (Zl c).op 0],argTypes:=#[Zz (Zl c).op] },some (.c (.sl (ZG (Zr c 0)))),some (.fn (Vu b p0 len)),some (ZP tt (Zz (Zl c).op)),true):=by kernel_rfl):Wc X c:=by
 simp only [Prod.mk.injEq] at hp
 obtain ⟨h1,h2,h3,h4,h5,h6,h7⟩:=hp
 obtain ⟨h0,hn'⟩:=Yp h1
 exact Wc.ev (d:=d1 c (.c (.i .i64 len))) h0 (Ys h2 rfl) (fun nk E0 F0 w0 n0 Z rest K ho hg h=>WPr.tln (X:=X.var nk E0 F0 w0 n0 Z) htt ho hg h3 h2 h4 h5 h6 h7 h) k
def nTl (q:Nat) (c:Cf):Cf:=Ym (d1 c (.c (.sl q))) c
def ldB (tt:List (Nat × TD)) (nt q:Nat) (c:Cf):Bool:=Nat.blt (ZV c) nt && !(ZP tt (Zz (Zl c).op)).ag && Nat.blt q (Zp c).nx
theorem eTl {α:Type} {R:TRep α} {n1 b p0:Nat} {vs:List Value} {xss:List (List α)} {h:Option Nat} (kT q j:Nat) {c:Cf} (htt:TTOk X.P tt) (k:Wc X (nTl q c))
  (hp:(hB X.fn.ntmps c,(Zl c).dst,(Zl c).op,Zr c 0,Zk (Zp c).M kT,Zk (Zp c).V q,Zk tt (Zz (Zl c).op),ldB tt X.fn.ntmps q c) =
   (true,some (ZV c),.load (Zz (Zl c).op) (ZM (Zl c).op 0),some (BA b (p0+j)),some (.abs (Yl R n1 b p0 vs xss h)),some (.fn (fun u=>vs[j]? = some u)),some (ZP tt (Zz (Zl c).op)),true):=by kernel_rfl):Wc X c:=by
 simp only [Prod.mk.injEq] at hp
 obtain ⟨h1,h2,h3,h4,h5,h6,h7,h8⟩:=hp
 obtain ⟨h0,hn'⟩:=Yp h1
 unfold ldB at h8
 rw [Zc] at h8
 exact Wc.ev (d:=d1 c (.c (.sl q))) h0 (Ys h2 rfl) (fun nk E0 F0 w0 n0 Z rest K ho hg hh=>WPr.tld (X:=X.var nk E0 F0 w0 n0 Z) htt ho hg h3 h2 h4 h5 h6 h8.2 h7 h8.1 hh) k
def dSr (q:Nat) (zs:List Int) (c:Cf):Dl:=⟨[(ZV c,.t [])],[(q,.own (rI .i64) zs (Y9 (Zk (Zp c).M q)))],[],0⟩
def nSr (q:Nat) (zs:List Int) (c:Cf):Cf:=Ym (dSr q zs c) c
def Pr (q:Nat) (zs:List Int) (c:Cf):St:=⟨(Zp c).L,(q,.own (rI .i64) zs (Y9 (Zk (Zp c).M q)))::(Zp c).M,(Zp c).V,(Zp c).nx⟩
theorem eSr {ρ:Go.Shelf.Ren} {q:Nat} {xs:List Int} {f:FuncId} {cf:Int→Int→Int} {ct:Int→Int→Ct} {c:Cf} (L:SlLaysF.n6 X.P ρ) (hlen:xs.length < 4611686018427387904) (hO:Go.Sort.SWO (Vs cf xs))
  (hcal:Bl X.P f) (hfn:∀ i k,i∈xs→k∈xs→@Fn PJ X.P f (ct i k)) (l:List (Nat × SC)) (k:Wc X (nSr q (XL cf xs) c))
  (hp:(hB X.fn.ntmps c,(Zl c).dst,(Zl c).op,Zr c 0,Zr c 1,Zk (Zp c).M q) =
   (true,some (ZV c),.call { callee:=.value (.func (ρ.f 6)),args:=#[ZM (Zl c).op 0,ZM (Zl c).op 1],argTypes:=Ma (Zl c).op },some (.c (.sl q)),some (.c (.cl f [] (Mj (Zr c 1)))),some (.own (rI .i64) xs (Y9 (Zk (Zp c).M q)))):=by kernel_rfl)
  (hck:∀ (zs:List Int) (i k:Int),((ct i k).V0.map (fun p=>Uy (Pr q zs c) ⟨l,(ct i k).nk,(Pr q zs c).nx⟩ [] p.1 p.2),(ct i k).M0.map (fun p=>X3 (Pr q zs c) ⟨l,(ct i k).nk,(Pr q zs c).nx⟩ p.1 p.2),VK (Pr q zs c) (ct i k) l [],(ct i k).args.map (XD ⟨l,(ct i k).nk,(Pr q zs c).nx⟩),(ct i k).res,(ct i k).M1,Zac (ct i k)) =
   ((ct i k).V0.map (fun p=>some p.2),(ct i k).M0.map (fun p=>some (X9 ⟨l,(ct i k).nk,(Pr q zs c).nx⟩ p.2)),true,[.c (.i .i64 i),.c (.i .i64 k)]++VP (Mj (Zr c 1)),.c (.i .i64 (cf i k)),(ct i k).M0,true):=by intro _ _ _;kernel_rfl):Wc X c:=by
 simp only [Prod.mk.injEq] at hp hck
 obtain ⟨h1,h2,h3,h4,h5,h6⟩:=hp
 obtain ⟨h0,hn'⟩:=Yp h1
 exact Wc.ev (d:=dSr q (XL cf xs) c) h0 (Ys h2 rfl) (fun nk E0 F0 w0 n0 Z rest K ho hg hh=>WPr.srt (X:=X.var nk E0 F0 w0 n0 Z) L hlen hO hfn l ho hg h3 h2 hn' h4 h5 h6 hcal
  (fun zs i k=>let ⟨a1,a2,a3,_,_,_,_⟩:=hck zs i k;⟨a1,a2,a3⟩) (fun i k=>let ⟨_,_,_,a4,a5,a6,a7⟩:=hck [] i k;⟨a4,a5,a6,a7⟩) hh) k
def Ze2 (ops:Array Oper) (n:Nat):Bool:=Nat.beq ops.size (n+1) && match ops[n]? with
 | some o=>o.after.toList.all (fun d => !Region.binds .any d || Nat.blt d.on n) && (List.range n).all fun j=>o.after.toList.any fun d=>Region.binds .any d && Nat.beq d.on j
 | none=>false
def tlC:Cf→Cf
 | .rg (some q) ops i k s=>.rg none ops i k (We q.2.2 s.nx q.2.1 fun _=>true)
 | _=>.no
def isT:Cf→Bool
 | .rg (some q) ops i _ _=>Nat.beq i q.2.2.length && Ze2 ops i
 | _=>false
theorem eTt {c:Cf} (k:Wc X (tlC c)) (hp:(isT c,X.P.follows .mixedOrders,Le c.ops.pop (PD c) (TZ c.ops.pop.toList []) (L7 c).nx c.st.nx,PK (PD c) (TZ c.ops.pop.toList []) (L7 c))=(true,true,true,MF (PD c)):=by kernel_rfl):Wc X c:=by
 simp only [Prod.mk.injEq] at hp
 obtain ⟨h1,h2,h3,h4⟩:=hp
 cases c with
 | no=>cases h1
 | co k s=>cases h1
 | rg m ops i k' s =>
  cases m with
  | none=>cases h1
  | some q =>
   refine ⟨fun hA hl=>?_⟩
   obtain ⟨k⟩:=k
   obtain ⟨id,s0,es⟩:=q
   replace h3:Le ops.pop es (TZ ops.pop.toList []) s0.nx s.nx=true:=h3
   replace h4:PK es (TZ ops.pop.toList []) s0=MF es:=h4
   replace hA:AllLS X ops 0 es:=hA
   replace h1:(Nat.beq i es.length && Ze2 ops i)=true:=h1
   rw [Zc] at h1
   obtain ⟨hi,htl⟩:=h1
   have hi:=Zd hi
   subst hi
   unfold Ze2 at htl
   rw [Zc] at htl
   obtain ⟨hz,htl⟩:=htl
   have hz:=Zd hz
   show WP X (.code (.region id ops true)::k') s0
   intro E F w a hs
   have c:=ZgO h3
   refine ZcG (wp_region_any h2 ?_)
   have hs':Sat X s0 E F { w with drawn:=w.drawn+1 } a:=hs.world rfl rfl .m (Nat.le_refl _) fun _ _=>rfl
   have hf:∀ j,(Array.replicate ops.size false).getD j false=false:=fun j=>by
    by_cases h:j < ops.size<;>simp [h]
   have:=ZgY (X:=X) (t:=1) (ops':=ops.pop) (todo:=rk X k') (Nat.le_refl _) hz (fun j hj=>by rw [Array.getElem?_pop,if_pos (by omega)]) (fun j o hj ho=>by
    have hj':=(Array.getElem?_eq_some_iff.1 ho).1
    obtain rfl:j=es.length:=by omega
    rw [ho] at htl
    simp only [Zc] at htl
    refine ⟨fun d hd hb=>?_,fun j hj=>?_⟩
    ·have:=List.all_eq_true.1 htl.1 d (by simpa using hd)
     rw [hb] at this
     exact Z3 (by simpa using this)
    ·obtain ⟨d,hd,h⟩:=List.any_eq_true.1 (List.all_eq_true.1 htl.2 j (List.mem_range.2 hj))
     rw [Zc] at h
     exact ⟨d,by simpa using hd,h.1,Zd h.2⟩) hA c h4 hs.wf hs.nk (fun E F w a hs=>by
    have:=k E F w a hs
    rw [hz] at this
    rw [show es.length+1-es.length=1 by omega] at this
    exact this) es.length (Array.replicate ops.size false) E F _ a (by simp) (fun j _=>hf j)
    (fun i hi=>by rw [hf] at hi;cases hi) (ZdJ fun j _=>hf j) (by
     have:We es s.nx s0 (fun j=>(Array.replicate ops.size false).getD j false)=⟨s0.L,s0.M,s0.V,s.nx⟩:=by
      rw [show (fun j=>(Array.replicate ops.size false).getD j false)=fun _=>false from funext hf]
      unfold We
      rw [Qx,Qx,Qx]
     rw [this]
     exact hs'.nxt c.nxle)
   rw [← hz] at this
   exact this
def nTs {α:Type} (R:TRep α) (n1 b p0:Nat) (vs:List Value) (xss:List (List α)) (kT q j:Nat) (xs:List α) (v:Value) (c:Cf):Cf :=
 Ym ⟨[],[(kT,.abs (Yl R n1 b p0 (vs.set j v) (xss.set j xs) none)),(q,.gone),(kT,.abs (Yl R n1 b p0 (vs.set j v) xss (some j)))],[],0⟩ c
theorem eTs {α:Type} {R:TRep α} {b p0:Nat} {vs:List Value} {xss:List (List α)} {xs:List α} (kT q j:Nat) {c:Cf} (htt:TTOk X.P tt) (hj:Nat.blt j xss.length=true) (kk:∀ v,Wc X (nTs R X.n0 b p0 vs xss kT q j xs v c))
  (hp:(Ti c,(Zl c).dst,inC c,(Zl c).op,Zr c 0,Zr c 1,Zk (Zp c).M kT,Zk (Zp c).M q,Zk tt (Zz (Zl c).op),Nat.beq (ZP tt (Zz (Zl c).op)).sz 1) =
   (true,none,true,.store (Zz (Zl c).op) (ZM (Zl c).op 0) (ZM (Zl c).op 1),some (BA b (p0+j)),some (.c (.sl q)),some (.abs (Yl R X.n0 b p0 vs xss (some j))),some (.own R xs true),some (ZP tt (Zz (Zl c).op)),true):=by kernel_rfl):Wc X c:=by
 simp only [Prod.mk.injEq] at hp
 obtain ⟨h0,h2,h3,h4,h5,h6,h7,h8,h9,h10⟩:=hp
 cases c with
 | co _ _=>cases h3
 | no=>cases h3
 | rg m ops i k' s =>
  cases m with
  | some q=>cases h3
  | none =>
   unfold Ti at h0
   rw [Zc,Zc] at h0
   obtain ⟨⟨_,g2⟩,g3⟩:=h0
   have ho:ops[i]? = some (Zl (.rg none ops i k' s)):=by
    obtain ⟨o,ho⟩:=Option.isSome_iff_exists.1 g2
    have ho:ops[i]? = some o:=ho
    unfold Zl
    show _=some ((ops[i]?).getD default)
    rw [ho];rfl
   have hg:ZR ops s.L (Zl (.rg none ops i k' s))=some true:=by
    split at g3
    ·rename_i b hb;rw [g3] at hb;exact hb
    ·cases g3
   refine ⟨?_⟩
   show WPr X ops (List.range' i (ops.size-i)) (rk X k') s
   rw [H8 ho]
   exact WPr.tst htt hj ho hg h4 h2 h5 h6 h7 h8 h9 h10 fun v=>(kk v).1
def ZgZ:Cf→Bool
 | .co _ _=>true
 | .rg none _ _ _ _=>true
 | _=>false
theorem ZrB {ι:Type} {f:ι→St→St} {c:Cf} (hc:ZgZ c=true) (h:∀ E F w a,Sat X c.st E F w a→∃ i E' F',Sat X (f i c.st) E' F' w a) (k:∀ i,Wc X (Rq (f i) c)):Wc X c:=by
 cases c with
 | no=>cases hc
 | co k' s=>exact ⟨fun E F w a hs=>let ⟨i,E',F',hs'⟩:=h E F w a hs;(k i).1 E' F' w a hs'⟩
 | rg m ops i k' s =>
  cases m with
  | none=>exact ⟨fun E F w a hs=>let ⟨i,E',F',hs'⟩:=h E F w a hs;(k i).1 E' F' w a hs'⟩
  | some q=>cases hc
def stG {α:Type} (R:TRep α) (n1 b p0:Nat) (kT n:Nat) (s:St):St:=⟨s.L,(kT,.abs (Yl R n1 b p0 (List.replicate n (.slice none 0 0)) (List.replicate n []) none))::s.M,(kT,.fn (Vu b p0 n))::s.V,s.nx⟩
theorem eGt {α:Type} (R:TRep α) (kT:Nat) {xs:List Unit} (hne:xs≠[]) {c:Cf} (k:∀ q:Nat × Nat,Wc X (Rq (stG R X.n0 q.1 q.2 kT xs.length) c))
  (hp:(ZgZ c,Zk c.st.M kT)=(true,some (.own D3 xs true)):=by kernel_rfl):Wc X c:=by
 simp only [Prod.mk.injEq] at hp
 exact ZrB hp.1 (fun E F w a hs=>let ⟨b,p0,h⟩:=hs.tab R hp.2 hne;⟨(b,p0),E,F,h⟩) k
def stK {α:Type} (R:TRep α) (n1 b p0:Nat) (vs:List Value) (xss:List (List α)) (kT j:Nat) (xs:List α) (s:St):St:=⟨s.L,(s.nx,.own R xs true)::(kT,.abs (Yl R n1 b p0 vs xss (some j)))::s.M,(s.nx,.fn (fun u=>vs[j]? = some u))::s.V,s.nx+1⟩
theorem eGk {α:Type} {R:TRep α} {b p0:Nat} {vs:List Value} {xss:List (List α)} {j:Nat} {xs:List α} (kT:Nat) (hx:xss[j]? = some xs) {c:Cf} (k:Wc X (Rq (stK R X.n0 b p0 vs xss kT j xs) c))
  (hp:Zk c.st.M kT=some (.abs (Yl R X.n0 b p0 vs xss none)):=by kernel_rfl):Wc X c:=by
 refine Ha (fun E F w a hs=>?_) k
 have hok:(Yl R X.n0 b p0 vs xss none).ok F w:=hs.hM kT _ hp
 have hl:=hok.2.1
 have hj:j < vs.length:=by rw [hl];exact (List.getElem?_eq_some_iff.1 hx).1
 obtain ⟨E',_,h⟩:=hs.take hp (Za hj) hx
 exact ⟨E',F,h⟩
def stP {α:Type} (R:TRep α) (n1 b p0:Nat) (vs:List Value) (xss:List (List α)) (kT q:Nat) (s:St):St:=⟨s.L,(kT,.abs (Yl R n1 b p0 vs xss none))::(q,.gone)::s.M,s.V,s.nx⟩
theorem eGp {α:Type} {R:TRep α} {b p0:Nat} {vs:List Value} {xss:List (List α)} {j:Nat} {xs:List α} (kT q:Nat) {c:Cf} (k:Wc X (Rq (stP R X.n0 b p0 vs (xss.set j xs) kT q) c))
  (hp:(Zk c.st.M kT,Zk c.st.M q,Zk c.st.V q)=(some (.abs (Yl R X.n0 b p0 vs xss (some j))),some (.own R xs true),some (.fn (fun u=>vs[j]? = some u))):=by kernel_rfl):Wc X c:=by
 simp only [Prod.mk.injEq] at hp
 obtain ⟨h1,h2,h3⟩:=hp
 refine Ha (fun E F w a hs=>⟨E,F,?_⟩) k
 have hv:vs[j]? = some (E.ρ q):=hs.hV q _ h3
 have hok:(Yl R X.n0 b p0 vs xss (some j)).ok F w:=hs.hM kT _ h1
 obtain ⟨⟨arr,el,fz,g1,g2,g3⟩,_⟩:=hok
 have e:vs.set j (E.ρ q)=vs:=by
  apply List.ext_getElem?
  intro i
  rw [List.getElem?_set]
  split
  ·rename_i h;subst h
   rw [if_pos (List.getElem?_eq_some_iff.1 hv).1,hv]
  ·rfl
 have:=hs.putB h1 h2 rfl g1 g2 (by rw [e];exact g3)
 rw [e] at this
 exact this
def stF {α:Type} (R:TRep α) (xss:List (List α)) (kT:Nat) (s:St):St:=⟨s.L,(kT,.gone)::s.M,(kT,.sl (YP R) xss)::s.V,s.nx⟩
theorem eGf {α:Type} {R:TRep α} {b p0 len:Nat} {vs:List Value} {xss:List (List α)} (kT:Nat) (hl:xss.length=len) {c:Cf} (k:Wc X (Rq (stF R xss kT) c))
  (hp:(Zk c.st.M kT,Zk c.st.V kT)=(some (.abs (Yl R X.n0 b p0 vs xss none)),some (.fn (Vu b p0 len))):=by kernel_rfl):Wc X c:=by
 simp only [Prod.mk.injEq] at hp
 exact Ha (fun E F w a hs=>⟨E,_,hs.frzT hp.1 hp.2 hl⟩) k
end
end Go.Kx
end
section
namespace Go.Kx
variable [LxP]
section
variable {X:Ctx} {tt:List (Nat × TD)}
def kZ (c:Cf):Nat:=YL (Zk (Zp c).V (ZG (Zr c 0)))
def stZ {α:Type} (R:TRep α) (xs':List α) (c:Cf):St:=⟨(Zp c).L,(ZG (Zr c 0),.own R xs' (Y9 (Zk (Zp c).M (kZ c))))::(kZ c,.gone)::(Zp c).M,(Zp c).V,(Zp c).nx⟩
def dAz {α:Type} (R:TRep α) (zs:List α) (c:Cf):Dl:=⟨[(ZV c,.c (.sl (Zp c).nx))],[((Zp c).nx,.own R zs (Y9 (Zk (Zp c).M (kZ c)))),(ZG (Zr c 0),.gone),(kZ c,.gone)],[],1⟩
def nAz {α:Type} (R:TRep α) (zs:List α) (c:Cf):Cf:=Ym (dAz R zs c) c
theorem eAz {α:Type} {xs xs' ys zs:List α} {lo hi:Option Int} {c:Cf} (htt:TTOk X.P tt) (R:TRep α) (hx:lsl xs lo hi=some xs') (hz:Z7 xs' ys=some zs) (k:Wc X (nAz R zs c))
  (hp:(hB X.fn.ntmps c,(Zl c).dst,(Zl c).op,Zr c 0,Zk (Zp c).V (ZG (Zr c 0)),Zk (Zp c).M (kZ c),(Zk (Zp c).M (ZG (Zr c 0))).isNone,Zr c 1,Zk tt (Zz (Zl c).op),Zk tt (Yu (Zl c).op),(Nat.beq (ZP tt (Zz (Zl c).op)).kd 6 && (Nat.beq (ZP tt (Yu (Zl c).op)).kd 6 || Nat.beq (ZP tt (Yu (Zl c).op)).kd 2) && Nat.beq (ZP tt (Zz (Zl c).op)).es R.sz && Nat.ble (ZP tt (Zz (Zl c).op)).eb 32768),M5 (stZ R xs' c) ys (WO (Zr c 1))) =
   (true,some (ZV c),.call { callee:=.builtin .append,args:=#[ZM (Zl c).op 0,ZM (Zl c).op 1],argTypes:=#[Zz (Zl c).op,Yu (Zl c).op] },some (.c (.sl (ZG (Zr c 0)))),some (.vw (kZ c) lo hi R.sz),some (.own R xs (Y9 (Zk (Zp c).M (kZ c)))),true,some (.c (WO (Zr c 1))),some (ZP tt (Zz (Zl c).op)),some (ZP tt (Yu (Zl c).op)),true,La R ys (WO (Zr c 1))):=by kernel_rfl):Wc X c:=by
 simp only [Prod.mk.injEq,Option.isNone_iff_eq_none] at hp
 obtain ⟨h1,h2,h3,h4,hv,hm,hk,h6,h7,h8,h9,h10⟩:=hp
 obtain ⟨h0,hn⟩:=Yp h1
 refine Wc.ev (d:=dAz R zs c) h0 (Ys h2 rfl) (fun nk E0 F0 w0 n0 Z rest K ho hg h=>?_) k
 have step:WPr (X.var nk E0 F0 w0 n0 Z) c.ops (c.i::rest) K (stZ R xs' c):=by
  refine WPr.app (X:=X.var nk E0 F0 w0 n0 Z) htt hz (Zcm h10) ho hg h3 h2 h4 (by show Zk (_::_) _=_;rw [ZQ,if_pos rfl]) h6 h7 h8 (by rw [hn];simpa using h9) ?_
  intro E F w a hs
  refine h E F w a (hs.same rfl (fun _=>rfl) (fun d=>?_) (fun _=>rfl))
  simp only [dAz,Dl.ap,stZ,List.cons_append,List.nil_append]
  simp only [ZQ]
  split
  ·rfl
  ·split
   ·rfl
   ·split<;>rfl
 intro E F w a hs
 exact step E F w a (hs.settle hx hv hm hk)
end
end Go.Kx
end
section
namespace Go.Kx
def ZjX (P:Program) (g:Nat) (name:String) (k:IntKind) (zs:List Int):Mx where
 fp _:=False
 ok F w:=F g∧P.globalNamed name=some g∧Lib.TabIs P w name k zs
 mono h _:=fun ⟨h1,h2,h3⟩=>⟨h.sub g h1,h2,by
  unfold Lib.TabIs World.var? at h3 ⊢
  rw [h2] at h3 ⊢
  simp only [Option.bind_some] at h3 ⊢
  rw [h.same g h1]
  exact h3⟩
end Go.Kx
end
section
namespace Go.Kx
variable [LxP]
section
variable {X:Ctx} {s:St} {ops:Array Oper} {todo:Act→World→Prop} {tt:List (Nat × TD)}
theorem WPr.cvi {i:Nat} {rest:List Nat} {o:Oper} {t u d:Nat} {x:Operand} {k k2:IntKind} {n:Int}
  (ho:ops[i]? = some o) (hg:ZR ops s.L o=some true) (hop:o.op=.convert t u x) (hd:o.dst=some d)
  (ht:X.P.underlying t=some (.int k2)) (hu:X.P.underlying u=some .string)
  (hx:ZE s.L x=some (.c (.i k n))) (hn:Nat.blt d X.fn.ntmps=true)
  (kk:WPr X ops rest todo ⟨(d,.c (.s (Utf8.encode n)))::s.L,s.M,s.V,s.nx⟩):WPr X ops (i::rest) todo s:=by
 refine WPr.op ho hg (fun E F w a hs=>?_) kk
 obtain ⟨e1,_⟩:=hs.eval hx
 have hrun:(execOp a.eval o).run X.P w=.ok (.value (.string (Utf8.encode n))) w:=by
  simp only [execOp,hop,e1,Zy,Zt]
  refine Yc ?_
  simp [convert,Yk ht,Yk hu,Conv.intToString]
 refine Xg hrun ⟨E,F,?_⟩
 rw [hd]
 exact hs.setL (v:=.c (.s (Utf8.encode n))) trivial (Z3 hn)
end
section
variable {X:Ctx} {tt:List (Nat × TD)}
def ZnQ:Option TypeDesc→IntKind
 | some (.int k)=>k
 | _=>.i64
def dCr (c:Cf):Dl:=d1 c (.c (.s (Utf8.encode (Zjq (Zr c 0)))))
def nCr (c:Cf):Cf:=Ym (dCr c) c
theorem RB {c:Cf} (k:Wc X (nCr c))
  (hp:(hB X.fn.ntmps c,(Zl c).dst,(Zl c).op,X.P.underlying (Zz (Zl c).op),X.P.underlying (Yu (Zl c).op),Zr c 0)=(true,some (ZV c),.convert (Zz (Zl c).op) (Yu (Zl c).op) (ZM (Zl c).op 0),some (.int (ZnQ (X.P.underlying (Zz (Zl c).op)))),some .string,some (.c (.i (Uh (Zr c 0)) (Zjq (Zr c 0))))):=by kernel_rfl):Wc X c:=by
 simp only [Prod.mk.injEq] at hp
 obtain ⟨h1,h2,h3,h4,h5,h6⟩:=hp
 obtain ⟨h0,hn⟩:=Yp h1
 refine Wc.ev (d:=dCr c) h0 (Ys h2 rfl) (fun nk E0 F0 w0 n0 Z rest K ho hg h=>WPr.cvi (X:=X.var nk E0 F0 w0 n0 Z) ho hg h3 h2 h4 h5 h6 hn h) k
end
end Go.Kx
namespace Go.Kx
variable [LxP]
theorem Zqn {P:Program} {f:FuncId} {c:Ct} {k:Nat} {A:Mx} (h:Fn P f c) (hM0:c.M0=[(k,.abs A)]) (hres:c.res=.c (.b true)) (hfp:∀ b,¬ A.fp b) {E:Env} {w:World} (hA:A.ok (Ur w) w) (hone:∀ k,(E.ρ k).oneCell'=true) (hV:∀ k x,Zk c.V0 k=some x→x.ok E (Ur w) w (E.ρ k)) :
  Calls P f (c.args.map (Zy E)).toArray w fun e w'=>e=.returned (.bool true)∧Ext (Ur w) w w':=by
 have hn:∀ j m,Zk c.M0 j=some m→m=.abs A:=fun j m h=>by
  rw [hM0,ZQ] at h
  split at h
  ·cases h;rfl
  ·cases h
 have hp:c.Pre E (Ur w) w:=⟨hone,fun _ h=>h,hV,fun j m h=>by rw [hn j m h];exact hA,fun j k' m m' h _ _ b hb=>by rw [hn j m h] at hb;exact absurd hb (hfp b),fun j m h b hb=>by rw [hn j m h] at hb;exact absurd hb (hfp b)⟩
 refine (h.calls E (Ur w) w hp).mono fun e w' ⟨E',F',he,hq⟩=>?_
 refine ⟨by rw [he,hres];rfl,hq.ext.mono fun b hb=>⟨hb,?_⟩⟩
 rintro ⟨j,m,hj,hb⟩
 rw [hn j m hj] at hb
 exact hfp b hb
end Go.Kx
namespace Go.Kx
theorem Zfn {P:Program} {w:World} {name:String} {d:DataW Unit}:∀ (l:List (String × DataW Unit)) (ps:List MemPlace),DataW.LaidVars P w l ps→(name,d)∈l →
    ∃ g t cs fuel p,P.globalNamed name=some g∧(P.globals[g]?).map (·.type)=some t∧w.var? P name=some cs∧DataW.trod (fun _=>()) P w 0 (fun _=>true) false fuel t cs.toList=some (d,p)
  | [],_,_,h=>by cases h
  | (n,e)::r,ps,⟨g,t,cs,fuel,p,q,h1,h2,h3,h4,h5,_⟩,h=>by
    rcases List.mem_cons.1 h with e0 | h
    · cases e0
      exact ⟨g,t,cs,fuel,p,h1,h2,h3,h4⟩
    · exact Zfn r q h5 h
theorem Zs4 {P:Program} {W:World} {name:String} {k:IntKind} {zs:List Int} {l:List (String × DataW Unit)} {i:Nat} {g:Nat} {t e:TypeId} {n:Nat} (hl:laidMetH P l W) (hh:(l.filter fun x=>x.2.handleName?.isSome).isEmpty=true)
    (hi:l[i]? = some (name,Lib.tabData k zs)) (hg:P.globalNamed name=some g) (hty:(P.globals[g]?).map (·.type)=some t) (ht:P.underlying t=some (.array n e)) (he:P.underlying e=some (.int k)) (hce:P.cellsOf e=1) (hct:P.cellsOf t=n) :
    (ZjX P g name k zs).ok (Ur W) W:=by
  have hm:laidMet P l W:=by
    unfold laidMetH at hl
    split at hl
    · exact hl
    · rename_i h;rw [h] at hh;cases hh
  obtain ⟨ps,hv,_⟩:=hm
  obtain ⟨g',t',cs,fuel,p,hg',ht',hvar,hd⟩:=Zfn l ps hv (Zb hi)
  obtain rfl:=Option.some.inj (hg.symm.trans hg')
  obtain rfl:=Option.some.inj (hty.symm.trans ht')
  have hT:Lib.TabIs P W name k zs:=by
    unfold Lib.TabIs
    rw [hvar,← Lib.cells_of_tab ht he hce hct hd]
  refine ⟨?_,hg,hT⟩
  show g < W.heap.size
  unfold World.var? at hvar
  rw [hg] at hvar
  simp only [Option.bind_some] at hvar
  split at hvar
  · rename_i h;exact (Array.getElem?_eq_some_iff.1 h).1
  · cases hvar
end Go.Kx
end
