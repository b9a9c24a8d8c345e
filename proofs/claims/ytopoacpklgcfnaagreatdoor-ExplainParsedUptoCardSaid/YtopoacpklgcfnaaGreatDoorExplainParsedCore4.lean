/- Aids for the walks, part 4: a symbolic state of the machine, and that each step of the machine keeps it. -/
import Derived.Test.YtopoacpklgcfnaaGreatDoorExplainParsedCore3
set_option linter.all false
section
namespace Go.Kx
variable [LxP]
def wsum {α:Type} (f:α→Nat):List α→Nat
 | []=>0
 | x::l=>f x+wsum f l
def RdbW (P:Program) (B:Bulk) (m:Nat) (t:TypeId) {α:Type} (R:TRep α) (ok:α→Prop) (wt:α→Nat):Prop:=R.sz=P.cellsOf t ∧
 ∀ {H:Type} (enc:TypeId × Value→H) (w:World) (fuel:Nat) (cs:List Value) (x:DataW H × List MemPlace),fuel≤m→DataW.trod enc P w 0 (fun _=>true) true fuel t cs=some x→B.f x.1≤bd →
  ∃ a,R.rep (Old w) w a cs∧ok a∧wt a≤B.f x.1
section
variable {P:Program} {B:Bulk} {t:TypeId}
theorem RdbW.of {m:Nat} {α:Type} {R:TRep α} {ok:α→Prop} (h:Rdb P B t R ok):RdbW P B m t R ok (fun _=>0) :=
 ⟨h.1,fun enc w fuel cs x _ hx hb=>by obtain ⟨a,h1,h2⟩:=h.2 enc w fuel cs x hx hb;exact ⟨a,h1,h2,Nat.zero_le _⟩⟩
theorem RdbW.zero {α:Type} {R:TRep α} {ok:α→Prop} {wt:α→Nat} (h:R.sz=P.cellsOf t):RdbW P B 0 t R ok wt :=
 ⟨h,fun enc w fuel cs x hm hx hb=>by
  obtain rfl:fuel=0:=by omega
  simp [DataW.trod] at hx⟩
theorem RdbW.conv {m:Nat} {α:Type} {R R':TRep α} {ok ok':α→Prop} {wt wt':α→Nat} (h:RdbW P B m t R ok wt) (hs:R'.sz=R.sz) (hr:∀ F w x vs,R.rep F w x vs→R'.rep F w x vs) (hk:∀ a,ok a→ok' a) (hw:∀ a,wt' a≤wt a):RdbW P B m t R' ok' wt' :=
 ⟨by rw [hs];exact h.1,fun enc w fuel cs x hm hx hb=>by
  obtain ⟨a,h1,h2,h3⟩:=h.2 enc w fuel cs x hm hx hb
  exact ⟨a,hr _ _ _ _ h1,hk a h2,Nat.le_trans (hw a) h3⟩⟩
theorem wsum_le {B:Bulk} {H:Type} {α:Type} {wt:α→Nat}:∀ {xs:List α} {es:List (DataW H × List MemPlace)},xs.length=es.length→(∀ (i:Nat) (x:α),xs[i]? = some x→∃ y:DataW H × List MemPlace,es[i]? = some y∧wt x≤B.f y.1)→wsum wt xs≤B.all (es.map (·.1))
  | [],_,_,_=>Nat.zero_le _
  | x::xs,[],h,_=>by cases h
  | x::xs,e::es,h,hx=>by
    obtain ⟨y,hy,h1⟩:=hx 0 x rfl
    simp only [List.getElem?_cons_zero,Option.some.injEq] at hy
    subst hy
    have:=wsum_le (B:=B) (wt:=wt) (xs:=xs) (es:=es) (by simpa using h) fun i x' hi=>by have:=hx (i+1) x' (by simpa using hi);simpa using this
    rw [List.map_cons,B.cons]
    show wt x+wsum wt xs≤_
    omega
theorem RdbW.slice {m:Nat} {α:Type} {R:TRep α} {ok:α→Prop} {wt:α→Nat} {e:TypeId} (hu:P.underlying t=some (.slice e)) (hc:P.cellsOf t=1) (he:RdbW P B m e R ok wt) :
    RdbW P B (m+1) t (rSl R) (fun xs=>xs.length≤bd∧∀ x∈xs,ok x) (wsum wt):=⟨hc.symm,fun enc w fuel cs x hm h hb=>by
  rcases DataW.trod_slice hu h with ⟨rfl,_⟩ | ⟨a,len,cap,elems,rest,n,hn,rfl,rfl,_,hlc,_,hel,hx,_⟩
  · exact ⟨[],⟨_,rfl,.inl ⟨rfl,_,_,rfl⟩⟩,⟨by simp [bd],by simp⟩,Nat.zero_le _⟩
  · simp only at hb
    rw [B.slice] at hb
    have hlen:=B.len (elems.map (·.1))
    rw [List.length_map,hel] at hlen
    have hpos:0 < P.cellsOf e:=by rw [← he.1];exact R.pos
    have key:∀ i,i < len→∃ x,∃ cs y,w.cells? 0 (a.add (i * P.cellsOf e)) (P.cellsOf e)=some cs∧elems[i]? = some y∧R.rep (Old w) w x cs∧ok x∧wt x≤B.f y.1:=fun i hi=>by
      have h1:=hx i hi
      have hlt:i < elems.length:=by omega
      rw [List.getElem?_eq_getElem hlt,Option.bind_eq_some_iff] at h1
      obtain ⟨cs,h2,h3⟩:=h1
      have hme:elems[i].1∈elems.map (·.1):=List.mem_map.2 ⟨_,List.getElem_mem hlt,rfl⟩
      obtain ⟨x,h4,h5,h6⟩:=he.2 enc w n cs _ (by omega) h3 (by have:=B.mem hme;omega)
      exact ⟨x,cs,_,h2,List.getElem?_eq_getElem hlt,h4,h5,h6⟩
    obtain ⟨xs,hl,hq⟩:=exists_list key
    have hok:∀ x∈xs,ok x:=fun x hm=>by
      obtain ⟨i,hi⟩:=List.mem_iff_getElem?.1 hm
      obtain ⟨_,_,_,_,_,h,_⟩:=hq i x hi
      exact h
    have hws:wsum wt xs≤B.all (elems.map (·.1)):=wsum_le (by rw [hl,hel]) fun i x hi=>by
      obtain ⟨_,y,_,hy,_,_,h⟩:=hq i x hi
      exact ⟨y,hy,h⟩
    have hwt:wsum wt xs≤B.f (DataW.slice (elems.map (·.1)) (rest.map (·.1))):=by rw [B.slice];omega
    refine ⟨xs,⟨_,rfl,?_⟩,⟨by omega,hok⟩,hwt⟩
    rcases Nat.eq_zero_or_pos len with h0 | h0
    · subst h0
      have:xs=[]:=List.eq_nil_of_length_eq_zero hl
      subst this
      exact .inl ⟨rfl,_,_,rfl⟩
    · -- the block
      have hcell:∀ i j cs,i < len→w.cells? 0 (a.add (i * P.cellsOf e)) (P.cellsOf e)=some cs→j < P.cellsOf e→w.cell? ((a.add (i * P.cellsOf e)).add j)=cs[j]? := fun i j cs _ hc hj=>by
        unfold World.cells? at hc
        rw [if_pos (Nat.zero_le _)] at hc
        have:=mapM_some_get hc j j (by simp [hj])
        exact this
      have hcl:∀ i cs,w.cells? 0 (a.add (i * P.cellsOf e)) (P.cellsOf e)=some cs→cs.length=P.cellsOf e:=fun i cs hc=>by
        unfold World.cells? at hc
        rw [if_pos (Nat.zero_le _)] at hc
        simpa using mapM_some_length hc
      obtain ⟨x0,hx0⟩:∃ x0,xs[0]? = some x0:=⟨_,List.getElem?_eq_getElem (by omega)⟩
      obtain ⟨cs0,y0,hc0,_,_,_,_⟩:=hq 0 x0 hx0
      have h00:=hcell 0 0 cs0 h0 hc0 hpos
      have hadd0:(a.add (0 * P.cellsOf e)).add 0=a:=by unfold Addr.add;simp
      rw [hadd0,List.getElem?_eq_getElem (by rw [hcl 0 cs0 hc0];exact hpos)] at h00
      unfold World.cell? at h00
      split at h00
      · rename_i arr ty fz hh
        cases hsp:a.spot with
        | some s=>rw [hsp] at h00;simp at h00
        | none =>
          have ha:a=⟨a.block,a.off,none⟩:=by cases a;simp at hsp;simp [hsp]
          have hlt:a.block < w.heap.size:=(Array.getElem?_eq_some_iff.1 hh).1
          refine .inr ⟨a.block,a.off,cap,arr,ty,fz,by rw [hl,← ha],by omega,hlt,hh,fun i x hi=>?_⟩
          obtain ⟨cs,y,hcs,_,hrep,_,_⟩:=hq i x hi
          have hil:i < len:=by have:=(List.getElem?_eq_some_iff.1 hi).1;omega
          refine ⟨cs,hrep,fun j v hj=>?_⟩
          have hjl:j < P.cellsOf e:=by have:=(List.getElem?_eq_some_iff.1 hj).1;rw [hcl i cs hcs] at this;exact this
          have:=hcell i j cs hil hcs hjl
          rw [ha,addr_add,addr_add,cell_at hh,hj] at this
          rw [he.1]
          exact this
      · cases h00⟩
def RdFW (P:Program) (B:Bulk) (m:Nat) (fs:List Field) (off:Nat) {β:Type} (R:TRep β) (ok:β→Prop) (wt:β→Nat):Prop :=
  ∀ {H:Type} (enc:TypeId × Value→H) (w:World) (n:Nat) (cs:List Value) (xs:List (DataW H × List MemPlace)),n≤m→xs.length=fs.length →
    (∀ (i:Nat) (f:Field),fs[i]? = some f→DataW.trod enc P w 0 (fun _=>true) true n f.type ((cs.drop f.offset).take (P.cellsOf f.type))=xs[i]?)→B.all (xs.map (·.1))≤bd →
    ∃ y,R.rep (Old w) w y ((cs.drop off).take R.sz)∧ok y∧wt y≤B.all (xs.map (·.1))
theorem RdFW.one {m:Nat} {f:Field} {α:Type} {R:TRep α} {ok:α→Prop} {wt:α→Nat} (h:RdbW P B m f.type R ok wt):RdFW P B m [f] f.offset R ok wt:=fun enc w n cs xs hm hl hx hb=>by
 obtain ⟨x,rfl⟩:=List.length_eq_one_iff.1 hl
 have h0:=hx 0 f rfl
 simp only [List.getElem?_cons_zero] at h0
 simp only [List.map_cons,List.map_nil] at hb
 rw [B.cons,B.nil] at hb
 obtain ⟨a,h1,h2,h3⟩:=h.2 enc w n _ x hm h0 (by omega)
 rw [h.1]
 refine ⟨a,h1,h2,?_⟩
 simp only [List.map_cons,List.map_nil]
 rw [B.cons,B.nil];omega
theorem RdFW.cons {m:Nat} {f:Field} {fs:List Field} {off:Nat} {α β:Type} {R1:TRep α} {R2:TRep β} {ok1:α→Prop} {ok2:β→Prop} {wt1:α→Nat} {wt2:β→Nat} (h1:RdbW P B m f.type R1 ok1 wt1) (h2:RdFW P B m fs off R2 ok2 wt2) (ho:off=f.offset+R1.sz) :
  RdFW P B m (f::fs) f.offset (rP R1 R2) (fun y=>ok1 y.1∧ok2 y.2) (fun y=>wt1 y.1+wt2 y.2):=fun enc w n cs xs hm hl hx hb=>by
 cases xs with
 | nil=>cases hl
 | cons x xs =>
  have h0:=hx 0 f rfl
  simp only [List.getElem?_cons_zero] at h0
  simp only [List.map_cons] at hb
  rw [B.cons] at hb
  obtain ⟨a,g1,g2,g5⟩:=h1.2 enc w n _ x hm h0 (by omega)
  obtain ⟨b,g3,g4,g6⟩:=h2 enc w n cs xs hm (by simpa using hl) (fun i f' hf=>by have:=hx (i+1) f' (by simpa using hf);simpa using this) (by omega)
  rw [← h1.1] at g1
  refine ⟨(a,b),⟨_,_,?_,g1,g3⟩,⟨g2,g4⟩,by simp only [List.map_cons];rw [B.cons];omega⟩
  rw [ho,← List.drop_drop]
  exact List.take_add
theorem RdbW.struct {m:Nat} {α β:Type} {f:α→β} {g:β→α} {R:TRep β} {ok:β→Prop} {wt:β→Nat} {fs:List Field} (hu:P.underlying t=some (.struct fs.toArray)) (hc:P.cellsOf t=R.sz) (hfg:∀ y,f (g y)=y) (h:RdFW P B m fs 0 R ok wt) :
    RdbW P B (m+1) t (rM f R) (fun x=>ok (f x)) (fun x=>wt (f x)+1):=⟨hc.symm,fun enc w fuel cs x hm hx hb=>by
  obtain ⟨xs,n,hn2,rfl,hl,hn,hf⟩:=DataW.trod_struct hu hx
  simp only at hb
  rw [B.agg] at hb
  obtain ⟨y,h1,h2,h3⟩:=h enc w n cs xs (by omega) (by simpa using hn) (fun i f' hi=>hf i f' (by simpa using hi)) (by omega)
  rw [List.drop_zero,← hc,← hl,List.take_length] at h1
  refine ⟨g y,?_,?_,?_⟩
  · show R.rep _ _ (f (g y)) cs
    rw [hfg];exact h1
  · show ok (f (g y));rw [hfg];exact h2
  · show wt (f (g y))+1≤B.f (DataW.agg (xs.map (·.1)));rw [hfg,B.agg];omega⟩
end
end Go.Kx
end
