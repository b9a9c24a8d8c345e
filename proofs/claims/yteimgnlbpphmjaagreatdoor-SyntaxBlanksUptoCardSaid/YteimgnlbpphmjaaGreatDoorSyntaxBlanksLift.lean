/- The contract of the law, and that its calls meet it. -/
import Derived.LaidLaws
import Derived.Test.YteimgnlbpphmjaaGreatDoorCards
import Derived.Test.YteimgnlbpphmjaaGreatDoorTie
import Derived.Test.YteimgnlbpphmjaaGreatDoorSyntaxBlanksWalk1
import Derived.Test.YteimgnlbpphmjaaGreatDoorSyntaxBlanksPlain3
set_option linter.all false
section
open Go Go.Kx Go.Proofs Go.ChangeShapes Go.WideShapes Go.ChangeAt Go.RowKit Gx
namespace Go.Proofs.YteimgnlbpphmjaaGreatDoor
theorem bulk_one {H:Type} (d:DataW H):1≤Rows.uptoBulk d:=by
  cases d with
  | lit l=>cases l<;>simp [Rows.uptoBulk]
  | nil=>simp [Rows.uptoBulk]
  | ptr d=>simp [Rows.uptoBulk]
  | slice elems spare=>simp [Rows.uptoBulk]
  | agg parts=>simp [Rows.uptoBulk]
  | iface t d=>simp [Rows.uptoBulk]
  | map entries=>simp [Rows.uptoBulk]
  | held h=>simp [Rows.uptoBulk]
def bk:Bulk:=⟨fun d=>Rows.uptoBulk d,fun l=>Rows.uptoBulkAll l,fun b=>by simp [Rows.uptoBulk],fun e s=>by simp [Rows.uptoBulk],fun l=>by simp [Rows.uptoBulk],by simp [Rows.uptoBulkAll],fun d l=>by simp [Rows.uptoBulkAll],bulk_one⟩
set_option maxRecDepth 20000 in
theorem rd_9:Rdb Tryz.prog bk 9 rS (fun x=>x.size≤bd):=by exact Rdb.str Tryz.underlying9 (by kernel_rfl)
set_option maxRecDepth 20000 in
theorem rd_5:Rdb Tryz.prog bk 5 (rI .u8) (fun x=>(Lit.int .u8 x).wf=true):=by exact Rdb.int Tryz.underlying5 (by kernel_rfl)
set_option maxRecDepth 20000 in
theorem rd_47:Rdb Tryz.prog bk 47 (rSl (rI .u8)) (fun x=>x.length≤bd∧∀ y∈x,(Lit.int .u8 y).wf=true):=by exact Rdb.slice Tryz.underlying47 (by kernel_rfl) rd_5
set_option maxRecDepth 20000 in
theorem contract (hplain:∀ (x0:ByteArray) (x1:(List Int)),(x0.size≤bd)→(x1.length≤bd∧∀ y∈x1,(Lit.int .u8 y).wf=true)→∃ N,law10_SyntaxBlanks N x0 x1=some true) (H:Type) (enc:TypeId × Value→H) (W:World) (base:Nat) (args:Array Value) (ds gs:List (DataW H)) (before:List MemPlace)
    (hval:∀ (j:Nat) t v,Tryz.f8.params[j]? = some t→args[j]? = some v→Value.okWide Tryz.prog W .any base t v)
    (hW:DataW.Whole enc Tryz.prog Tryz.f8.params.toList Rows.syntaxBlanksSpec.vars false W args.toList ds gs before) (hk:Rows.uptoSmall H (ds++gs)=true) (hl:laidMetH Tryz.prog Rows.syntaxBlanksUptoRow.laid W) :
    Calls Tryz.prog 8 args W fun e W'=>∃ v,e=.returned v∧Rows.syntaxBlanksSpec.post enc Tryz.prog Tryz.f8 false true false false W args v W':=by
  have hW0:=hW
  obtain ⟨p,q,hA0,hV,rfl,hz,hn⟩:=hW
  have hA:DataW.TrodAll enc Tryz.prog W 0 (fun _=>true) true [9,47] args.toList ds p:=hA0
  obtain ⟨v0,vs0,d0,ds0,p0,q0,hargs,rfl,rfl,h0,r0⟩:=trodAll_cons hA
  obtain ⟨v1,vs1,d1,ds1,p1,q1,e1,rfl,rfl,h1,r1⟩:=trodAll_cons r0
  subst e1
  obtain ⟨e2,rfl,rfl⟩:=trodAll_nil r1
  subst e2
  obtain rfl:args=#[v0,v1]:=by cases args;simpa using hargs
  obtain ⟨rfl,rfl⟩:=trodVars_none hV
  have hb:Rows.uptoBulkAll [d0,d1]≤1048576:=of_decide_eq_true hk
  simp only [Rows.uptoBulkAll] at hb
  obtain ⟨n0,hf0⟩:=h0
  obtain ⟨x0,hr0,ok0⟩:=rd_9.2 enc W n0 _ _ hf0 (by show Rows.uptoBulk d0≤1048576;omega)
  obtain ⟨n1,hf1⟩:=h1
  obtain ⟨x1,hr1,ok1⟩:=rd_47.2 enc W n1 _ _ hf1 (by show Rows.uptoBulk d1≤1048576;omega)
  have o0:=Opened.start (Old W) W
  obtain ⟨E1,o1⟩:=o0.step oS hr0
  obtain ⟨E2,o2⟩:=o1.step (oSl (rI .u8)) hr1
  obtain ⟨N,hN⟩:=hplain x0 x1 ok0 ok1
  have hT:=tab_laid (name := "internal/strconv.uint64pow10") hl (by kernel_rfl) (i:=2) (by kernel_rfl) (g:=3) (by kernel_rfl) (t:=225) (by kernel_rfl) (e:=209) (n:=20) (by kernel_rfl) (by kernel_rfl) (by kernel_rfl) (by kernel_rfl) (k:=.u64) (zs:=Go.Lib.pow10Tab)
  have hc:=law_callsT (A:=powT) (law10_SyntaxBlanks_ct N x0 x1 true hN) rfl rfl (fun _ h=>h) hT (E:=E2) (w:=W) o2.one (o2.V rfl)
  have a0:((oS:Opn _).cells 0 x0).map (den E2)=v0.cells.toList:=(o2.args _ (List.mem_append.2 (.inl (List.mem_append.2 (.inr (List.mem_singleton.2 rfl)))))).1
  have a1:(((oSl (rI .u8)):Opn _).cells 0 x1).map (den E2)=v1.cells.toList:=(o2.args _ (List.mem_append.2 (.inr (List.mem_singleton.2 rfl)))).1
  have l0:=arg_leaf (P:=Tryz.prog) (t:=9) (by kernel_rfl) (hval 0 9 v0 rfl rfl)
  rw [l0] at a0
  have b0:=(List.cons.inj a0).1
  have l1:=arg_leaf (P:=Tryz.prog) (t:=47) (by kernel_rfl) (hval 1 47 v1 rfl rfl)
  rw [l1] at a1
  have b1:=(List.cons.inj a1).1
  have hc:Calls Tryz.prog 8 #[den E2 (.s x0),den E2 (.sl 0)] W _:=hc
  rw [b0,b1] at hc
  refine hc.mono fun e W' ⟨he,hx⟩=>⟨_,he,?_⟩
  exact law_post (tb:=4) (by kernel_rfl) (by kernel_rfl) rfl (by kernel_rfl) (by kernel_rfl) hW0 rfl hx
theorem own:ownKnob Tryz.prog.godebug=none:=by kernel_rfl
/-- A world for the witness: the settled one, the listed variables holding what they are laid with. -/
noncomputable def laidWorld (os:Os):World:={ World.holding Tryz.prog os ⟨#[],#[],[]⟩ with heap:=((((((World.holding Tryz.prog os ⟨#[],#[],[]⟩).heap).modify 4 (fun o=>match o with | .cells _ t frozen=>.cells (laidFlat 9 Rows.laid_math_bits_deBruijn32tab).toArray t frozen | o=>o)).modify 5 (fun o=>match o with | .cells _ t frozen=>.cells (laidFlat 9 Rows.laid_math_bits_deBruijn64tab).toArray t frozen | o=>o)).modify 3 (fun o=>match o with | .cells _ t frozen=>.cells (laidFlat 9 Rows.laid_internal_strconv_uint64pow10).toArray t frozen | o=>o)).modify 2 (fun o=>match o with | .cells _ t frozen=>.cells (laidFlat 9 Rows.laid_unicode_utf8_acceptRanges).toArray t frozen | o=>o)).modify 1 (fun o=>match o with | .cells _ t frozen=>.cells (laidFlat 9 Rows.laid_unicode_utf8_first).toArray t frozen | o=>o) }
theorem laid_met (os:Os):laidMet Tryz.prog Rows.syntaxBlanksUptoRow.laid ((laidWorld os).forCall (fun _ _=>0) ⟨#[],#[(.string .empty:Value),(.slice none 0 0:Value)],[]⟩).memory :=
  laidMet_of_run' 8 (by kernel_rfl) (by kernel_rfl)
theorem reads (os:Os) {H:Type} (enc:TypeId × Value→H):∃ places,DataW.whole enc Tryz.prog ((laidWorld os).forCall (fun _ _=>0) ⟨#[],#[(.string .empty:Value),(.slice none 0 0:Value)],[]⟩).memory Tryz.f8.params.toList Rows.syntaxBlanksSpec.vars false (#[(.string .empty:Value),(.slice none 0 0:Value)]:Array Value).toList 12=some ([.lit (.string []),.nil],[],places) :=
  ⟨[],by kernel_rfl⟩
set_option maxRecDepth 100000 in
theorem lifted (hplain:∀ (x0:ByteArray) (x1:(List Int)),(x0.size≤bd)→(x1.length≤bd∧∀ y∈x1,(Lit.int .u8 y).wf=true)→∃ N,law10_SyntaxBlanks N x0 x1=some true) (os:Os) (started:os.Started) (H:Type) (enc:TypeId × Value→H) (F:Stop.Interp) :
    ReturnsInHanded {} Tryz.checked os 8 .any ((Rows.OpenSpec.upto Rows.syntaxBlanksSpec).preRow enc Tryz.prog Tryz.f8 Rows.syntaxBlanksUptoRow.domain false Rows.syntaxBlanksUptoRow.laid) (((Rows.OpenSpec.upto Rows.syntaxBlanksSpec).at F).post enc Tryz.prog Tryz.f8 false true false false):=by
  obtain ⟨places,hx⟩:=reads os enc
  refine returnsInHanded_of_row (C:=Tryz.checked) (s:=Rows.OpenSpec.upto Rows.syntaxBlanksSpec) own started (by kernel_rfl) Tryz.func8
    (witness_row_at (enc:=enc) (C:=Tryz.checked) false (laidWorld os) #[(.string .empty:Value),(.slice none 0 0:Value)] rfl (by kernel_rfl) (by kernel_rfl) (by kernel_rfl)
      (OpenSpec.preRow_of_cond 12 hx (by kernel_rfl) (fun k hk=>by cases hk;kernel_rfl) (by kernel_rfl) (laid_met os))) ?_
  intro W base args ds gs before hval hW _ hcond _ h4 _ _
  exact contract hplain H enc W base args ds gs before hval hW (hcond _ rfl) h4
end Go.Proofs.YteimgnlbpphmjaaGreatDoor
end
