/- Aids for the walks, part 3: a symbolic state of the machine, and that each step of the machine keeps it. -/
import Derived.WalkKit
import Derived.ProofKit
import Derived.OpenShut
import Derived.JoinedCond
import Derived.Deep.DeepHandedRow
import Derived.Test.YtenajajnbmfijaaGreatDoorGlobalCodeCore2
set_option linter.all false
section
namespace Go.Kx
open Go.ChangeShapes Go.WideShapes
structure Bulk where
 f:{H:Type}→DataW H→Nat
 all:{H:Type}→List (DataW H)→Nat
 str:∀ {H:Type} (b:List UInt8),f (.lit (.string b):DataW H)=b.length+1
 slice:∀ {H:Type} (e s:List (DataW H)),f (.slice e s)=all e+all s+1
 agg:∀ {H:Type} (l:List (DataW H)),f (.agg l)=all l+1
 nil:∀ {H:Type},all ([]:List (DataW H))=0
 cons:∀ {H:Type} (d:DataW H) l,all (d::l)=f d+all l
 one:∀ {H:Type} (d:DataW H),1≤f d
def bd:Nat:=1048576
theorem Bulk.mem (B:Bulk) {H:Type} {d:DataW H}:∀ {l:List (DataW H)},d∈l→B.f d≤B.all l
 | x::l,h=>by
  rw [B.cons]
  rcases List.mem_cons.1 h with rfl | h
  ·omega
  ·have:=B.mem h;omega
theorem Bulk.len (B:Bulk) {H:Type}:∀ (l:List (DataW H)),l.length≤B.all l
 | []=>by simp
 | x::l=>by rw [B.cons,List.length_cons];have:=B.len l;have:=B.one x;omega
abbrev Old (w:World):FSet:=fun b=>b < w.heap.size
def Rdb (P:Program) (B:Bulk) (t:TypeId) {α:Type} (R:TRep α) (ok:α→Prop):Prop:=R.sz=P.cellsOf t ∧
 ∀ {H:Type} (enc:TypeId × Value→H) (w:World) (fuel:Nat) (cs:List Value) (x:DataW H × List MemPlace),DataW.trod enc P w 0 (fun _=>true) true fuel t cs=some x→B.f x.1≤bd →
  ∃ a,R.rep (Old w) w a cs∧ok a
section
variable {P:Program} {B:Bulk} {t:TypeId}
theorem Rdb.int {k:IntKind} (hu:P.underlying t=some (.int k)) (hc:P.cellsOf t=1):Rdb P B t (rI k) (fun n=>(Lit.int k n).wf=true) :=
 ⟨hc.symm,fun enc w fuel cs x h _=>by obtain ⟨n,rfl,_,hw⟩:=DataW.trod_int hu h;exact ⟨n,rfl,hw⟩⟩
theorem Rdb.bool (hu:P.underlying t=some .bool) (hc:P.cellsOf t=1):Rdb P B t rB (fun _=>True) :=
 ⟨hc.symm,fun enc w fuel cs x h _=>by obtain ⟨n,rfl,_⟩:=DataW.trod_bool hu h;exact ⟨n,rfl,trivial⟩⟩
theorem Rdb.str (hu:P.underlying t=some .string) (hc:P.cellsOf t=1):Rdb P B t rS (fun s=>s.size≤bd) :=
 ⟨hc.symm,fun enc w fuel cs x h hb=>by
  obtain ⟨n,rfl,rfl,_⟩:=DataW.trod_string hu h
  refine ⟨n,rfl,?_⟩
  rw [B.str] at hb
  have e:n.data.toList.length=n.size:=by rw [Array.length_toList];rfl
  omega⟩
theorem exists_list {α:Type} {Q:Nat→α→Prop}:∀ {n:Nat},(∀ i,i < n→∃ x,Q i x)→∃ xs:List α,xs.length=n∧∀ i x,xs[i]? = some x→Q i x
 | 0,_=>⟨[],rfl,by simp⟩
 | n+1,h=>by
  obtain ⟨xs,hl,hx⟩:=exists_list (n:=n) fun i hi=>h i (by omega)
  obtain ⟨y,hy⟩:=h n (by omega)
  refine ⟨xs++[y],by simp [hl],fun i x hi=>?_⟩
  rw [List.getElem?_append] at hi
  split at hi
  ·exact hx i x hi
  ·rename_i hge
   have hlt:=(List.getElem?_eq_some_iff.1 hi).1
   simp only [List.length_singleton] at hlt
   have e:i=n:=by omega
   subst e
   rw [hl,Nat.sub_self] at hi
   simp only [List.getElem?_cons_zero,Option.some.injEq] at hi
   subst hi;exact hy
theorem Rdb.slice {α:Type} {R:TRep α} {ok:α→Prop} {e:TypeId} (hu:P.underlying t=some (.slice e)) (hc:P.cellsOf t=1) (he:Rdb P B e R ok) :
    Rdb P B t (rSl R) (fun xs=>xs.length≤bd∧∀ x∈xs,ok x):=⟨hc.symm,fun enc w fuel cs x h hb=>by
  rcases DataW.trod_slice hu h with ⟨rfl,_⟩ | ⟨a,len,cap,elems,rest,n,rfl,rfl,rfl,_,hlc,_,hel,hx,_⟩
  · exact ⟨[],⟨_,rfl,.inl ⟨rfl,_,_,rfl⟩⟩,by simp [bd],by simp⟩
  · simp only at hb
    rw [B.slice] at hb
    have hlen:=B.len (elems.map (·.1))
    rw [List.length_map,hel] at hlen
    have hpos:0 < P.cellsOf e:=by rw [← he.1];exact R.pos
    have key:∀ i,i < len→∃ x,∃ cs y,w.cells? 0 (a.add (i * P.cellsOf e)) (P.cellsOf e)=some cs∧elems[i]? = some y∧R.rep (Old w) w x cs∧ok x:=fun i hi=>by
      have h1:=hx i hi
      have hlt:i < elems.length:=by omega
      rw [List.getElem?_eq_getElem hlt,Option.bind_eq_some_iff] at h1
      obtain ⟨cs,h2,h3⟩:=h1
      have hm:elems[i].1∈elems.map (·.1):=List.mem_map.2 ⟨_,List.getElem_mem hlt,rfl⟩
      obtain ⟨x,h4,h5⟩:=he.2 enc w n cs _ h3 (by have:=B.mem hm;omega)
      exact ⟨x,cs,_,h2,List.getElem?_eq_getElem hlt,h4,h5⟩
    obtain ⟨xs,hl,hq⟩:=exists_list key
    have hok:∀ x∈xs,ok x:=fun x hm=>by
      obtain ⟨i,hi⟩:=List.mem_iff_getElem?.1 hm
      obtain ⟨_,_,_,_,_,h⟩:=hq i x hi
      exact h
    refine ⟨xs,⟨_,rfl,?_⟩,by omega,hok⟩
    rcases Nat.eq_zero_or_pos len with h0 | h0
    · subst h0
      have:xs=[]:=List.eq_nil_of_length_eq_zero hl
      subst this
      exact .inl ⟨rfl,_,_,rfl⟩
    · -- the block
      have hcell:∀ i j cs,i < len→w.cells? 0 (a.add (i * P.cellsOf e)) (P.cellsOf e)=some cs→j < P.cellsOf e→w.cell? ((a.add (i * P.cellsOf e)).add j)=cs[j]? := fun i j cs _ hc hj=>by
        unfold World.cells? at hc
        rw [if_pos (Nat.zero_le _)] at hc
        have:=mapM_some_get hc j j (by simp [hj])
        exact this
      have hcl:∀ i cs,w.cells? 0 (a.add (i * P.cellsOf e)) (P.cellsOf e)=some cs→cs.length=P.cellsOf e:=fun i cs hc=>by
        unfold World.cells? at hc
        rw [if_pos (Nat.zero_le _)] at hc
        simpa using mapM_some_length hc
      obtain ⟨x0,hx0⟩:∃ x0,xs[0]? = some x0:=⟨_,List.getElem?_eq_getElem (by omega)⟩
      obtain ⟨cs0,y0,hc0,_,_,_⟩:=hq 0 x0 hx0
      have h00:=hcell 0 0 cs0 h0 hc0 hpos
      have hadd0:(a.add (0 * P.cellsOf e)).add 0=a:=by unfold Addr.add;simp
      rw [hadd0,List.getElem?_eq_getElem (by rw [hcl 0 cs0 hc0];exact hpos)] at h00
      unfold World.cell? at h00
      split at h00
      · rename_i arr ty fz hh
        cases hsp:a.spot with
        | some s=>rw [hsp] at h00;simp at h00
        | none =>
          have ha:a=⟨a.block,a.off,none⟩:=by cases a;simp at hsp;simp [hsp]
          have hlt:a.block < w.heap.size:=(Array.getElem?_eq_some_iff.1 hh).1
          refine .inr ⟨a.block,a.off,cap,arr,ty,fz,by rw [hl,← ha],by omega,hlt,hh,fun i x hi=>?_⟩
          obtain ⟨cs,y,hcs,_,hrep,_⟩:=hq i x hi
          have hil:i < len:=by have:=(List.getElem?_eq_some_iff.1 hi).1;omega
          refine ⟨cs,hrep,fun j v hj=>?_⟩
          have hjl:j < P.cellsOf e:=by have:=(List.getElem?_eq_some_iff.1 hj).1;rw [hcl i cs hcs] at this;exact this
          have:=hcell i j cs hil hcs hjl
          rw [ha,addr_add,addr_add,cell_at hh,hj] at this
          rw [he.1]
          exact this
      · cases h00⟩
def RdF (P:Program) (B:Bulk) (fs:List Field) (off:Nat) {β:Type} (R:TRep β) (ok:β→Prop):Prop :=
  ∀ {H:Type} (enc:TypeId × Value→H) (w:World) (n:Nat) (cs:List Value) (xs:List (DataW H × List MemPlace)),xs.length=fs.length →
    (∀ (i:Nat) (f:Field),fs[i]? = some f→DataW.trod enc P w 0 (fun _=>true) true n f.type ((cs.drop f.offset).take (P.cellsOf f.type))=xs[i]?)→B.all (xs.map (·.1))≤bd →
    ∃ y,R.rep (Old w) w y ((cs.drop off).take R.sz)∧ok y
theorem RdF.one {f:Field} {α:Type} {R:TRep α} {ok:α→Prop} (h:Rdb P B f.type R ok):RdF P B [f] f.offset R ok:=fun enc w n cs xs hl hx hb=>by
 obtain ⟨x,rfl⟩:=List.length_eq_one_iff.1 hl
 have h0:=hx 0 f rfl
 simp only [List.getElem?_cons_zero] at h0
 simp only [List.map_cons,List.map_nil] at hb
 rw [B.cons,B.nil] at hb
 obtain ⟨a,h1,h2⟩:=h.2 enc w n _ x h0 (by omega)
 rw [h.1]
 exact ⟨a,h1,h2⟩
theorem RdF.cons {f:Field} {fs:List Field} {off:Nat} {α β:Type} {R1:TRep α} {R2:TRep β} {ok1:α→Prop} {ok2:β→Prop} (h1:Rdb P B f.type R1 ok1) (h2:RdF P B fs off R2 ok2) (ho:off=f.offset+R1.sz) :
  RdF P B (f::fs) f.offset (rP R1 R2) (fun y=>ok1 y.1∧ok2 y.2):=fun enc w n cs xs hl hx hb=>by
 cases xs with
 | nil=>cases hl
 | cons x xs =>
  have h0:=hx 0 f rfl
  simp only [List.getElem?_cons_zero] at h0
  simp only [List.map_cons] at hb
  rw [B.cons] at hb
  obtain ⟨a,g1,g2⟩:=h1.2 enc w n _ x h0 (by omega)
  obtain ⟨b,g3,g4⟩:=h2 enc w n cs xs (by simpa using hl) (fun i f' hf=>by have:=hx (i+1) f' (by simpa using hf);simpa using this) (by omega)
  rw [← h1.1] at g1
  refine ⟨(a,b),⟨_,_,?_,g1,g3⟩,g2,g4⟩
  rw [ho,← List.drop_drop]
  exact List.take_add
theorem Rdb.struct {α β:Type} {f:α→β} {g:β→α} {R:TRep β} {ok:β→Prop} {fs:List Field} (hu:P.underlying t=some (.struct fs.toArray)) (hc:P.cellsOf t=R.sz) (hfg:∀ y,f (g y)=y) (h:RdF P B fs 0 R ok) :
  Rdb P B t (rM f R) (fun x=>ok (f x)):=⟨hc.symm,fun enc w fuel cs x hx hb=>by
 obtain ⟨xs,n,rfl,rfl,hl,hn,hf⟩:=DataW.trod_struct hu hx
 simp only at hb
 rw [B.agg] at hb
 obtain ⟨y,h1,h2⟩:=h enc w n cs xs (by simpa using hn) (fun i f' hi=>hf i f' (by simpa using hi)) (by omega)
 rw [List.drop_zero,← hc,← hl,List.take_length] at h1
 refine ⟨g y,?_,?_⟩
 ·show R.rep _ _ (f (g y)) cs
  rw [hfg];exact h1
 ·show ok (f (g y));rw [hfg];exact h2⟩
def RdA (P:Program) (B:Bulk) (e:TypeId) (m off:Nat) {β:Type} (R:TRep β) (ok:β→Prop):Prop :=
  ∀ {H:Type} (enc:TypeId × Value→H) (w:World) (n:Nat) (cs:List Value) (xs:List (DataW H × List MemPlace)),xs.length=m →
    (∀ (i:Nat),i < m→DataW.trod enc P w 0 (fun _=>true) true n e ((cs.drop ((off+i) * P.cellsOf e)).take (P.cellsOf e))=xs[i]?)→B.all (xs.map (·.1))≤bd →
    ∃ y,R.rep (Old w) w y ((cs.drop (off * P.cellsOf e)).take R.sz)∧ok y
theorem RdA.one {e off:Nat} {α:Type} {R:TRep α} {ok:α→Prop} (h:Rdb P B e R ok):RdA P B e 1 off R ok:=fun enc w n cs xs hl hx hb=>by
 obtain ⟨x,rfl⟩:=List.length_eq_one_iff.1 hl
 have h0:=hx 0 (by omega)
 simp only [List.getElem?_cons_zero,Nat.add_zero] at h0
 simp only [List.map_cons,List.map_nil] at hb
 rw [B.cons,B.nil] at hb
 obtain ⟨a,h1,h2⟩:=h.2 enc w n _ x h0 (by omega)
 rw [h.1]
 exact ⟨a,h1,h2⟩
theorem RdA.cons {e off m:Nat} {α β:Type} {R1:TRep α} {R2:TRep β} {ok1:α→Prop} {ok2:β→Prop} (h1:Rdb P B e R1 ok1) (h2:RdA P B e m (off+1) R2 ok2):RdA P B e (m+1) off (rP R1 R2) (fun y=>ok1 y.1∧ok2 y.2) :=
 fun enc w n cs xs hl hx hb=>by
 cases xs with
 | nil=>cases hl
 | cons x xs =>
  have h0:=hx 0 (by omega)
  simp only [List.getElem?_cons_zero,Nat.add_zero] at h0
  simp only [List.map_cons] at hb
  rw [B.cons] at hb
  obtain ⟨a,g1,g2⟩:=h1.2 enc w n _ x h0 (by omega)
  obtain ⟨b,g3,g4⟩:=h2 enc w n cs xs (by simpa using hl) (fun i hi=>by have:=hx (i+1) (by omega);rw [show off+(i+1)=off+1+i by omega] at this;simpa using this) (by omega)
  rw [← h1.1] at g1
  refine ⟨(a,b),⟨_,_,?_,g1,g3⟩,g2,g4⟩
  rw [Nat.add_mul,Nat.one_mul,← h1.1,← List.drop_drop]
  exact List.take_add
theorem Rdb.array {β:Type} {R:TRep β} {ok:β→Prop} {m e:Nat} (hu:P.underlying t=some (.array m e)) (hc:P.cellsOf t=R.sz) (h:RdA P B e m 0 R ok):Rdb P B t R ok:=⟨hc.symm,fun enc w fuel cs x hx hb=>by
 obtain ⟨xs,n,rfl,rfl,hl,hn,hf⟩:=DataW.trod_array hu hx
 simp only at hb
 rw [B.agg] at hb
 obtain ⟨y,h1,h2⟩:=h enc w n cs xs hn (fun i hi=>by have:=hf i hi;rw [Nat.zero_add];exact this) (by omega)
 rw [Nat.zero_mul,List.drop_zero,← hc,← hl,List.take_length] at h1
 exact ⟨y,h1,h2⟩⟩
end
section
variable {P:Program} {H:Type} {enc:TypeId × Value→H}
theorem arg_agg {w:World} {b t:Nat} {v:Value} (ha:aggOf P t=true) (h:Value.okWide P w .any b t v):∃ cs,v=.agg cs:=by
 unfold aggOf at ha
 unfold Value.okWide at h
 split at ha
 ·rename_i hu;rw [hu] at h;obtain ⟨cs,h,_⟩:=h;exact ⟨cs,h⟩
 ·rename_i hu;rw [hu] at h;obtain ⟨cs,h,_⟩:=h;exact ⟨cs,h⟩
 ·cases ha
theorem trodAll_stays (hl:laidOutB P=true) {W W':World} {sp:Nat→Bool}:∀ {ts:List TypeId} {vs:List Value} {ds:List (DataW H)} {ps:List MemPlace},ts.all (fun t=>P.readableRec t && decide (t < P.types.size))=true →
  DataW.TrodAll enc P W 0 (fun _=>true) true ts vs ds ps→(∀ p∈ps,W.sameAt W' p)→(∀ p∈ps,sp p.block=true)→DataW.TrodAll enc P W' 0 sp true ts vs ds ps
 | [],vs,ds,ps,_,h,_,_=>by
  cases vs<;>cases ds<;>simp only [DataW.TrodAll] at h ⊢<;>first | exact h | exact h.elim
 | t::ts,vs,ds,ps,ht,h,hs,hp=>by
  obtain ⟨v,vs',d,ds',p,q,rfl,rfl,rfl,h1,h2⟩:=trodAll_cons h
  simp only [List.all_cons,Bool.and_eq_true,decide_eq_true_eq] at ht
  exact trodAll_cons_mk (WideElems.Trod_stays hl ht.1.1 ht.1.2 h1 (fun x hx=>hs x (List.mem_append.2 (.inl hx))) fun x hx=>hp x (List.mem_append.2 (.inl hx)))
   (trodAll_stays hl ht.2 h2 (fun x hx=>hs x (List.mem_append.2 (.inr hx))) fun x hx=>hp x (List.mem_append.2 (.inr hx)))
theorem law_post {f:Func} {s:ChangeSpec} {apart fresh handsOn again:Bool} {W W':World} {args:Array Value} {ds:List (DataW H)} {before:List MemPlace} {tb:TypeId} (hl:laidOutB P=true)
  (hts:f.params.toList.all (fun t=>P.readableRec t && decide (t < P.types.size))=true) (hvs:s.vars=[]) (hr:f.resultTypes=#[tb]) (htb:P.underlying tb=some .bool)
  (hW:DataW.Whole enc P f.params.toList s.vars apart W args.toList ds [] before) (hfn:s.fn H (ds++[])={ results:=[.lit (.bool true)],args:=ds }) (he:Ext (Old W) W W') :
  s.post enc P f apart fresh handsOn again W args (.bool true) W':=by
 have hlt:=hW.lt
 have hsame:∀ p∈before,W.sameAt W' p:=fun p hp=>by
  cases p with
  | cell b off =>
   have:=he.block b (hlt _ hp)
   show W'.cell? ⟨b,off,none⟩=W.cell? ⟨b,off,none⟩
   unfold World.cell?;simp only [this]
  | map b=>exact he.block b (hlt _ hp)
 have hold:∀ p∈before,(fun b=>decide (b < W.heap.size)) p.block=true:=fun p hp=>by simpa using hlt p hp
 obtain ⟨p,q,hA,hV,rfl,hz,hn⟩:=id hW
 rw [hvs] at hV
 have hq:q=[]:=hV
 subst hq
 rw [List.append_nil] at hsame hold hz hn
 have hres:∀ (b:Nat) (sp:Nat→Bool) (hd:Bool),DataW.TrodAll enc P W' b sp hd f.resultTypes.toList ((Value.bool true).resultList f.resultTypes.size) [.lit (.bool true)] []:=fun b sp hd=>by
  rw [hr];exact trodAll_cons_mk (RowKit.shut_bool htb true) trodAll_mk0
 have hargs:∀ sp:Nat→Bool,(∀ x∈p,sp x.block=true)→DataW.TrodAll enc P W' 0 sp true f.params.toList args.toList ds p:=fun sp hsp=>trodAll_stays hl hts hA hsame hsp
 refine ⟨ds,[],p++[],[],p,[],hW,?_,?_,?_,?_,fun _=>⟨?_,[.lit (.bool true)]++ds,[],([]++p)++[],⟨[]++p,[],trodAll_append (hargs _ (fun _ _=>rfl)) (hres _ _ _),by rw [hvs];rfl,rfl,?_,?_⟩,?_⟩⟩
 ·rw [hfn];exact hres _ _ _
 ·rw [hfn];exact hargs _ hold
 ·rw [hfn,hvs];rfl
 ·refine ⟨he.os,he.output,fun i hi=>?_⟩
  rw [he.block i hi]
  cases hh:W.heap[i]? with
  | none=>trivial
  | some o =>
   cases o with
   | cells c ty fr=>exact ⟨rfl,rfl,rfl,fun _ _=>rfl⟩
   | map es clock=>exact .inr ⟨rfl,rfl⟩
   | _=>rfl
 ·exact RowKit.ok_one hr rfl (RowKit.okWide_bool_mk htb true)
 ·intro b off hp
  simp only [List.nil_append,List.append_nil] at hp
  have:=hz b off hp
  have hb:=he.block b (of_decide_eq_true (hold _ hp))
  unfold World.frozen? at this ⊢
  rw [hb];exact this
 ·intro ha
  simpa using hn ha
 ·intro x hx _
  simpa using hx
theorem law_calls {P:Program} {f:FuncId} {c:Ct} (h:Fn P f c) (hM0:c.M0=[]) (hres:c.res=.c (.b true)) {E:Env} {w:World} (hone:∀ k,(E.ρ k).oneCell'=true) (hV:∀ k x,look c.V0 k=some x→x.ok E (Old w) w (E.ρ k)) :
  Calls P f (c.args.map (denV E)).toArray w fun e w'=>e=.returned (.bool true)∧Ext (Old w) w w':=by
 have hn:∀ k m,look c.M0 k≠some m:=fun k m h=>by rw [hM0] at h;cases h
 have hp:c.Pre E (Old w) w:=⟨hone,fun _ h=>h,hV,fun k m h=>absurd h (hn k m),fun k k' m m' h=>absurd h (hn k m),fun k m h=>absurd h (hn k m)⟩
 refine (h.calls E (Old w) w hp).mono fun e w' ⟨E',F',he,hq⟩=>?_
 refine ⟨by rw [he,hres];rfl,hq.ext.mono fun b hb=>⟨hb,?_⟩⟩
 rintro ⟨k,m,hk,_⟩
 rw [hM0] at hk;cases hk
structure Opened (F:FSet) (w:World) (n:Nat) (fs:List (Nat × VF)) (as:List (List SC × List Value)) (E:Env):Prop where
 one:∀ k,(E.ρ k).oneCell'=true
 facts:∀ p∈fs,p.1 < n∧p.2.plain=true∧p.2.ok E F w (E.ρ p.1)
 args:∀ q∈as,q.1.map (den E)=q.2∧∀ c∈q.1,SC.kb n c
theorem Opened.start (F:FSet) (w:World):Opened F w 0 [] [] E00:=⟨fun _=>rfl,by simp,by simp⟩
theorem plain_env {E E':Env} {F:FSet} {w:World} {v:Value}:∀ {f:VF},f.plain=true→f.ok E F w v→f.ok E' F w v
 | .sl _ _,_,h=>h
 | .fn _,_,h=>h
 | .pl _,h,_ | .el _ _,h,_ | .vw _ _ _ _,h,_=>by cases h
theorem Opened.step {F:FSet} {w:World} {n:Nat} {fs:List (Nat × VF)} {as:List (List SC × List Value)} {E:Env} (h:Opened F w n fs as E) {α:Type} {R:TRep α} (O:Opn R) {x:α} {vs:List Value} (hr:R.rep F w x vs) :
  ∃ E',Opened F w (n+O.nk) (fs++O.facts n x) (as++[(O.cells n x,vs)]) E':=by
 obtain ⟨E',h1,_,_,h2,h3,h4,h5⟩:=O.ok hr n E h.one
 refine ⟨E',h2,fun p hp=>?_,fun q hq=>?_⟩
 ·rcases List.mem_append.1 hp with hp | hp
  ·obtain ⟨g1,g2,g3⟩:=h.facts p hp
   exact ⟨by omega,g2,by rw [(h1 p.1 g1).1];exact plain_env g2 g3⟩
  ·obtain ⟨_,g1,g2,g3⟩:=h4 p hp
   exact ⟨g1,g2,g3⟩
 ·rcases List.mem_append.1 hq with hq | hq
  ·obtain ⟨g1,g2⟩:=h.args q hq
   exact ⟨by rw [den_map_eqb h1 g2];exact g1,fun c hc=>(g2 c hc).mono (Nat.le_add_right _ _)⟩
  ·rw [List.mem_singleton.1 hq]
   exact ⟨h3.symm,h5⟩
theorem Opened.V {F:FSet} {w:World} {n:Nat} {fs V0:List (Nat × VF)} {as:List (List SC × List Value)} {E:Env} (h:Opened F w n fs as E) (hV:V0=fs):∀ k x,look V0 k=some x→x.ok E F w (E.ρ k) :=
 fun k x hk=>(h.facts (k,x) (hV ▸ look_mem hk)).2.2
def laidFlat:Nat→DataW Unit→List Value
 | 0,_=>[]
 | _+1,.lit l=>[l.value]
 | n+1,.agg l=>l.flatMap (laidFlat n)
 | _+1,_=>[]
end
end Go.Kx
end
