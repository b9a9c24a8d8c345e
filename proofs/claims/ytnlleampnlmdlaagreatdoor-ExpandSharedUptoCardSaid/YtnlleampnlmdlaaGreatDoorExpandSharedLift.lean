/- The contract of the law, and that its calls meet it. -/
import Derived.LaidLaws
import Derived.Test.YtnlleampnlmdlaaGreatDoorCards
import Derived.Test.YtnlleampnlmdlaaGreatDoorTie
import Derived.Test.YtnlleampnlmdlaaGreatDoorExpandSharedWalk2
import Derived.Test.YtnlleampnlmdlaaGreatDoorExpandSharedPlain1
set_option linter.all false
section
open Go Go.Kx Go.Proofs Go.ChangeShapes Go.WideShapes Go.ChangeAt Go.RowKit Gx
namespace Go.Proofs.YtnlleampnlmdlaaGreatDoor
theorem bulk_one {H:Type} (d:DataW H):1≤Rows.uptoBulk d:=by
  cases d with
  | lit l=>cases l<;>simp [Rows.uptoBulk]
  | nil=>simp [Rows.uptoBulk]
  | ptr d=>simp [Rows.uptoBulk]
  | slice elems spare=>simp [Rows.uptoBulk]
  | agg parts=>simp [Rows.uptoBulk]
  | iface t d=>simp [Rows.uptoBulk]
  | map entries=>simp [Rows.uptoBulk]
  | held h=>simp [Rows.uptoBulk]
def bk:Bulk:=⟨fun d=>Rows.uptoBulk d,fun l=>Rows.uptoBulkAll l,fun b=>by simp [Rows.uptoBulk],fun e s=>by simp [Rows.uptoBulk],fun l=>by simp [Rows.uptoBulk],by simp [Rows.uptoBulkAll],fun d l=>by simp [Rows.uptoBulkAll],bulk_one⟩
set_option maxRecDepth 20000 in
theorem rd_5:Rdb Tryz.prog bk 5 (rI .u8) (fun x=>(Lit.int .u8 x).wf=true):=by exact Rdb.int Tryz.underlying5 (by kernel_rfl)
set_option maxRecDepth 20000 in
theorem rd_22:Rdb Tryz.prog bk 22 (rP (rI .u8) (rI .u8)) (fun x=>((Lit.int .u8 x.1).wf=true)∧((Lit.int .u8 x.2).wf=true)):=by exact Rdb.array Tryz.underlying22 (by kernel_rfl) (RdA.cons rd_5 (RdA.one rd_5))
set_option maxRecDepth 20000 in
theorem contract (hplain:∀ (x0:(Int × Int)) (x1:(Int × Int)),(((Lit.int .u8 x0.1).wf=true)∧((Lit.int .u8 x0.2).wf=true))→(((Lit.int .u8 x1.1).wf=true)∧((Lit.int .u8 x1.2).wf=true))→∃ N,law12_ExpandShared N x0 x1=some true) (H:Type) (enc:TypeId × Value→H) (W:World) (base:Nat) (args:Array Value) (ds gs:List (DataW H)) (before:List MemPlace)
    (hval:∀ (j:Nat) t v,Tryz.f3.params[j]? = some t→args[j]? = some v→Value.okWide Tryz.prog W .any base t v)
    (hW:DataW.Whole enc Tryz.prog Tryz.f3.params.toList Rows.expandSharedSpec.vars false W args.toList ds gs before) (hk:Rows.uptoSmall H (ds++gs)=true) (hl:laidMetH Tryz.prog Rows.expandSharedUptoRow.laid W) :
    Calls Tryz.prog 3 args W fun e W'=>∃ v,e=.returned v∧Rows.expandSharedSpec.post enc Tryz.prog Tryz.f3 false true false false W args v W':=by
  have hW0:=hW
  obtain ⟨p,q,hA0,hV,rfl,hz,hn⟩:=hW
  have hA:DataW.TrodAll enc Tryz.prog W 0 (fun _=>true) true [22,22] args.toList ds p:=hA0
  obtain ⟨v0,vs0,d0,ds0,p0,q0,hargs,rfl,rfl,h0,r0⟩:=trodAll_cons hA
  obtain ⟨v1,vs1,d1,ds1,p1,q1,e1,rfl,rfl,h1,r1⟩:=trodAll_cons r0
  subst e1
  obtain ⟨e2,rfl,rfl⟩:=trodAll_nil r1
  subst e2
  obtain rfl:args=#[v0,v1]:=by cases args;simpa using hargs
  obtain ⟨rfl,rfl⟩:=trodVars_none hV
  have hb:Rows.uptoBulkAll [d0,d1]≤1048576:=of_decide_eq_true hk
  simp only [Rows.uptoBulkAll] at hb
  obtain ⟨n0,hf0⟩:=h0
  obtain ⟨x0,hr0,ok0⟩:=rd_22.2 enc W n0 _ _ hf0 (by show Rows.uptoBulk d0≤1048576;omega)
  obtain ⟨n1,hf1⟩:=h1
  obtain ⟨x1,hr1,ok1⟩:=rd_22.2 enc W n1 _ _ hf1 (by show Rows.uptoBulk d1≤1048576;omega)
  have o0:=Opened.start (Old W) W
  obtain ⟨E1,o1⟩:=o0.step (oP (oI .u8) (oI .u8)) hr0
  obtain ⟨E2,o2⟩:=o1.step (oP (oI .u8) (oI .u8)) hr1
  obtain ⟨N,hN⟩:=hplain x0 x1 ok0 ok1
  have hT:=tab_laid (name := "internal/strconv.uint64pow10") hl (by kernel_rfl) (i:=2) (by kernel_rfl) (g:=1) (by kernel_rfl) (t:=281) (by kernel_rfl) (e:=244) (n:=20) (by kernel_rfl) (by kernel_rfl) (by kernel_rfl) (by kernel_rfl) (k:=.u64) (zs:=Go.Lib.pow10Tab)
  have hc:=law_callsT (A:=powT) (law12_ExpandShared_ct N x0 x1 true hN) rfl rfl (fun _ h=>h) hT (E:=E2) (w:=W) o2.one (o2.V rfl)
  have a0:(((oP (oI .u8) (oI .u8)):Opn _).cells 0 x0).map (den E2)=v0.cells.toList:=(o2.args _ (List.mem_append.2 (.inl (List.mem_append.2 (.inr (List.mem_singleton.2 rfl)))))).1
  have a1:(((oP (oI .u8) (oI .u8)):Opn _).cells 0 x1).map (den E2)=v1.cells.toList:=(o2.args _ (List.mem_append.2 (.inr (List.mem_singleton.2 rfl)))).1
  obtain ⟨cs0,rfl⟩:=arg_agg (P:=Tryz.prog) (t:=22) (by kernel_rfl) (hval 0 22 v0 rfl rfl)
  have b0:Value.agg (((((oP (oI .u8) (oI .u8)):Opn _).cells 0 x0).map (den E2)).toArray)=.agg cs0:=by rw [a0];rfl
  obtain ⟨cs1,rfl⟩:=arg_agg (P:=Tryz.prog) (t:=22) (by kernel_rfl) (hval 1 22 v1 rfl rfl)
  have b1:Value.agg (((((oP (oI .u8) (oI .u8)):Opn _).cells 0 x1).map (den E2)).toArray)=.agg cs1:=by rw [a1];rfl
  have hc:Calls Tryz.prog 3 #[Value.agg (((((oP (oI .u8) (oI .u8)):Opn _).cells 0 x0).map (den E2)).toArray),Value.agg (((((oP (oI .u8) (oI .u8)):Opn _).cells 0 x1).map (den E2)).toArray)] W _:=hc
  rw [b0,b1] at hc
  refine hc.mono fun e W' ⟨he,hx⟩=>⟨_,he,?_⟩
  exact law_post (tb:=4) (by kernel_rfl) (by kernel_rfl) rfl (by kernel_rfl) (by kernel_rfl) hW0 rfl hx
theorem own:ownKnob Tryz.prog.godebug=none:=by kernel_rfl
/-- A world for the witness: the settled one, the listed variables holding what they are laid with. -/
noncomputable def laidWorld (os:Os):World:={ World.holding Tryz.prog os ⟨#[],#[],[]⟩ with heap:=((((((World.holding Tryz.prog os ⟨#[],#[],[]⟩).heap).modify 4 (fun o=>match o with | .cells _ t frozen=>.cells (laidFlat 9 Rows.laid_math_bits_deBruijn32tab).toArray t frozen | o=>o)).modify 5 (fun o=>match o with | .cells _ t frozen=>.cells (laidFlat 9 Rows.laid_math_bits_deBruijn64tab).toArray t frozen | o=>o)).modify 1 (fun o=>match o with | .cells _ t frozen=>.cells (laidFlat 9 Rows.laid_internal_strconv_uint64pow10).toArray t frozen | o=>o)).modify 3 (fun o=>match o with | .cells _ t frozen=>.cells (laidFlat 9 Rows.laid_unicode_utf8_acceptRanges).toArray t frozen | o=>o)).modify 2 (fun o=>match o with | .cells _ t frozen=>.cells (laidFlat 9 Rows.laid_unicode_utf8_first).toArray t frozen | o=>o) }
theorem laid_met (os:Os):laidMet Tryz.prog Rows.expandSharedUptoRow.laid ((laidWorld os).forCall (fun _ _=>0) ⟨#[],#[(.agg #[.int .u8 (0),.int .u8 (0)]:Value),(.agg #[.int .u8 (0),.int .u8 (0)]:Value)],[]⟩).memory :=
  laidMet_of_run' 8 (by kernel_rfl) (by kernel_rfl)
theorem reads (os:Os) {H:Type} (enc:TypeId × Value→H):∃ places,DataW.whole enc Tryz.prog ((laidWorld os).forCall (fun _ _=>0) ⟨#[],#[(.agg #[.int .u8 (0),.int .u8 (0)]:Value),(.agg #[.int .u8 (0),.int .u8 (0)]:Value)],[]⟩).memory Tryz.f3.params.toList Rows.expandSharedSpec.vars false (#[(.agg #[.int .u8 (0),.int .u8 (0)]:Value),(.agg #[.int .u8 (0),.int .u8 (0)]:Value)]:Array Value).toList 12=some ([.agg [.lit (.int .u8 0),.lit (.int .u8 0)],.agg [.lit (.int .u8 0),.lit (.int .u8 0)]],[],places) :=
  ⟨[],by kernel_rfl⟩
set_option maxRecDepth 100000 in
theorem lifted (hplain:∀ (x0:(Int × Int)) (x1:(Int × Int)),(((Lit.int .u8 x0.1).wf=true)∧((Lit.int .u8 x0.2).wf=true))→(((Lit.int .u8 x1.1).wf=true)∧((Lit.int .u8 x1.2).wf=true))→∃ N,law12_ExpandShared N x0 x1=some true) (os:Os) (started:os.Started) (H:Type) (enc:TypeId × Value→H) (F:Stop.Interp) :
    ReturnsInHanded {} Tryz.checked os 3 .any ((Rows.OpenSpec.upto Rows.expandSharedSpec).preRow enc Tryz.prog Tryz.f3 Rows.expandSharedUptoRow.domain false Rows.expandSharedUptoRow.laid) (((Rows.OpenSpec.upto Rows.expandSharedSpec).at F).post enc Tryz.prog Tryz.f3 false true false false):=by
  obtain ⟨places,hx⟩:=reads os enc
  refine returnsInHanded_of_row (C:=Tryz.checked) (s:=Rows.OpenSpec.upto Rows.expandSharedSpec) own started (by kernel_rfl) Tryz.func3
    (witness_row_at (enc:=enc) (C:=Tryz.checked) false (laidWorld os) #[(.agg #[.int .u8 (0),.int .u8 (0)]:Value),(.agg #[.int .u8 (0),.int .u8 (0)]:Value)] rfl (by kernel_rfl) (by kernel_rfl) (by kernel_rfl)
      (OpenSpec.preRow_of_cond 12 hx (by kernel_rfl) (fun k hk=>by cases hk;kernel_rfl) (by kernel_rfl) (laid_met os))) ?_
  intro W base args ds gs before hval hW _ hcond _ h4 _ _
  exact contract hplain H enc W base args ds gs before hval hW (hcond _ rfl) h4
end Go.Proofs.YtnlleampnlmdlaaGreatDoor
end
