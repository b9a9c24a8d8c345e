/- The contract of the law, and that its calls meet it. -/
import Derived.LaidLaws
import Derived.Test.YtdlhgdfjpilcjaaGreatDoorCards
import Derived.Test.YtdlhgdfjpilcjaaGreatDoorTie
import Derived.Test.YtdlhgdfjpilcjaaGreatDoorExplainPermitsWalk2
import Derived.Test.YtdlhgdfjpilcjaaGreatDoorExplainPermitsPlain3
set_option linter.all false
section
open Go Go.Kx Go.Proofs Go.ChangeShapes Go.WideShapes Go.ChangeAt Go.RowKit Gx
namespace Go.Proofs.YtdlhgdfjpilcjaaGreatDoor
theorem bulk_one {H:Type} (d:DataW H):1≤Rows.uptoBulk d:=by
  cases d with
  | lit l=>cases l<;>simp [Rows.uptoBulk]
  | nil=>simp [Rows.uptoBulk]
  | ptr d=>simp [Rows.uptoBulk]
  | slice elems spare=>simp [Rows.uptoBulk]
  | agg parts=>simp [Rows.uptoBulk]
  | iface t d=>simp [Rows.uptoBulk]
  | map entries=>simp [Rows.uptoBulk]
  | held h=>simp [Rows.uptoBulk]
def bk:Bulk:=⟨fun d=>Rows.uptoBulk d,fun l=>Rows.uptoBulkAll l,fun b=>by simp [Rows.uptoBulk],fun e s=>by simp [Rows.uptoBulk],fun l=>by simp [Rows.uptoBulk],by simp [Rows.uptoBulkAll],fun d l=>by simp [Rows.uptoBulkAll],bulk_one⟩
set_option maxRecDepth 20000 in
theorem rd_9:Rdb Tryz.prog bk 9 rS (fun x=>x.size≤bd):=by exact Rdb.str Tryz.underlying9 (by kernel_rfl)
set_option maxRecDepth 20000 in
theorem rd_22:Rdb Tryz.prog bk 22 (rSl rS) (fun x=>x.length≤bd∧∀ y∈x,y.size≤bd):=by exact Rdb.slice Tryz.underlying22 (by kernel_rfl) rd_9
set_option maxRecDepth 20000 in
theorem rd_3:Rdb Tryz.prog bk 3 (rI .i64) (fun x=>(Lit.int .i64 x).wf=true):=by exact Rdb.int Tryz.underlying3 (by kernel_rfl)
set_option maxRecDepth 20000 in
theorem rd_66:Rdb Tryz.prog bk 66 rR10 k_api_Sort:=by exact Rdb.struct (α:=T10) (f:=fun x=>(x.Kind,x.Lo,x.Hi)) (g:=fun y=>⟨y.1,y.2.1,y.2.2⟩) Tryz.underlying66 (by kernel_rfl) (fun _=>rfl) (RdF.cons rd_3 (RdF.cons rd_3 (RdF.one rd_3) rfl) rfl)
set_option maxRecDepth 20000 in
theorem rd_68:Rdb Tryz.prog bk 68 rR4 k_api_Field:=by exact Rdb.struct (α:=T4) (f:=fun x=>(x.Name,x.Sort')) (g:=fun y=>⟨y.1,y.2⟩) Tryz.underlying68 (by kernel_rfl) (fun _=>rfl) (RdF.cons rd_9 (RdF.one rd_66) rfl)
set_option maxRecDepth 20000 in
theorem rd_69:Rdb Tryz.prog bk 69 (rSl rR4) (fun x=>x.length≤bd∧∀ y∈x,k_api_Field y):=by exact Rdb.slice Tryz.underlying69 (by kernel_rfl) rd_68
set_option maxRecDepth 20000 in
theorem rd_128:Rdb Tryz.prog bk 128 rR1 k_api_Diff:=by exact Rdb.struct (α:=T1) (f:=fun x=>(x.X,x.Y,x.C)) (g:=fun y=>⟨y.1,y.2.1,y.2.2⟩) Tryz.underlying128 (by kernel_rfl) (fun _=>rfl) (RdF.cons rd_3 (RdF.cons rd_3 (RdF.one rd_3) rfl) rfl)
set_option maxRecDepth 20000 in
theorem rd_70:Rdb Tryz.prog bk 70 (rSl rR1) (fun x=>x.length≤bd∧∀ y∈x,k_api_Diff y):=by exact Rdb.slice Tryz.underlying70 (by kernel_rfl) rd_128
set_option maxRecDepth 20000 in
theorem rd_32:Rdb Tryz.prog bk 32 (rP (rI .i64) (rI .i64)) (fun x=>((Lit.int .i64 x.1).wf=true)∧((Lit.int .i64 x.2).wf=true)):=by exact Rdb.array Tryz.underlying32 (by kernel_rfl) (RdA.cons rd_3 (RdA.one rd_3))
set_option maxRecDepth 20000 in
theorem rd_71:Rdb Tryz.prog bk 71 (rSl (rP (rI .i64) (rI .i64))) (fun x=>x.length≤bd∧∀ y∈x,((Lit.int .i64 y.1).wf=true)∧((Lit.int .i64 y.2).wf=true)):=by exact Rdb.slice Tryz.underlying71 (by kernel_rfl) rd_32
set_option maxRecDepth 20000 in
theorem rd_73:Rdb Tryz.prog bk 73 rR6 k_api_Guard:=by exact Rdb.struct (α:=T6) (f:=fun x=>(x.Diffs,x.Equals)) (g:=fun y=>⟨y.1,y.2⟩) Tryz.underlying73 (by kernel_rfl) (fun _=>rfl) (RdF.cons rd_70 (RdF.one rd_71) rfl)
set_option maxRecDepth 20000 in
theorem rd_75:Rdb Tryz.prog bk 75 rR0 k_api_Decl:=by exact Rdb.struct (α:=T0) (f:=fun x=>(x.Name,x.Fields,x.First,x.Guard)) (g:=fun y=>⟨y.1,y.2.1,y.2.2.1,y.2.2.2⟩) Tryz.underlying75 (by kernel_rfl) (fun _=>rfl) (RdF.cons rd_9 (RdF.cons rd_69 (RdF.cons rd_3 (RdF.one rd_73) rfl) rfl) rfl)
set_option maxRecDepth 20000 in
theorem rd_23:Rdb Tryz.prog bk 23 (rSl rR0) (fun x=>x.length≤bd∧∀ y∈x,k_api_Decl y):=by exact Rdb.slice Tryz.underlying23 (by kernel_rfl) rd_75
set_option maxRecDepth 20000 in
theorem rd_77:Rdb Tryz.prog bk 77 rR7 k_api_Interaction:=by exact Rdb.struct (α:=T7) (f:=fun x=>(x.From,x.To,x.Label)) (g:=fun y=>⟨y.1,y.2.1,y.2.2⟩) Tryz.underlying77 (by kernel_rfl) (fun _=>rfl) (RdF.cons rd_3 (RdF.cons rd_3 (RdF.one rd_3) rfl) rfl)
set_option maxRecDepth 20000 in
theorem rd_4:Rdb Tryz.prog bk 4 rB (fun x=>True):=by exact Rdb.bool Tryz.underlying4 (by kernel_rfl)
set_option maxRecDepth 20000 in
theorem rd_79:Rdb Tryz.prog bk 79 rR2 k_api_Edge:=by exact Rdb.struct (α:=T2) (f:=fun x=>(x.From,x.Act,x.To,x.Again)) (g:=fun y=>⟨y.1,y.2.1,y.2.2.1,y.2.2.2⟩) Tryz.underlying79 (by kernel_rfl) (fun _=>rfl) (RdF.cons rd_3 (RdF.cons rd_77 (RdF.cons rd_3 (RdF.one rd_4) rfl) rfl) rfl)
set_option maxRecDepth 20000 in
theorem rd_24:Rdb Tryz.prog bk 24 (rSl rR2) (fun x=>x.length≤bd∧∀ y∈x,k_api_Edge y):=by exact Rdb.slice Tryz.underlying24 (by kernel_rfl) rd_79
set_option maxRecDepth 20000 in
theorem rd_54:Rdb Tryz.prog bk 54 rR11 k_api_Timeout:=by exact Rdb.struct (α:=T11) (f:=fun x=>(x.State,x.Ticks,x.Else)) (g:=fun y=>⟨y.1,y.2.1,y.2.2⟩) Tryz.underlying54 (by kernel_rfl) (fun _=>rfl) (RdF.cons rd_3 (RdF.cons rd_3 (RdF.one rd_3) rfl) rfl)
set_option maxRecDepth 20000 in
theorem rd_25:Rdb Tryz.prog bk 25 (rSl rR11) (fun x=>x.length≤bd∧∀ y∈x,k_api_Timeout y):=by exact Rdb.slice Tryz.underlying25 (by kernel_rfl) rd_54
set_option maxRecDepth 20000 in
theorem rd_27:Rdb Tryz.prog bk 27 rR5 k_api_Global:=by exact Rdb.struct (α:=T5) (f:=fun x=>(x.Name,x.Roles,x.Decls,x.States,x.Start,x.End,x.Edges,x.Timeouts)) (g:=fun y=>⟨y.1,y.2.1,y.2.2.1,y.2.2.2.1,y.2.2.2.2.1,y.2.2.2.2.2.1,y.2.2.2.2.2.2.1,y.2.2.2.2.2.2.2⟩) Tryz.underlying27 (by kernel_rfl) (fun _=>rfl) (RdF.cons rd_9 (RdF.cons rd_22 (RdF.cons rd_23 (RdF.cons rd_3 (RdF.cons rd_3 (RdF.cons rd_3 (RdF.cons rd_24 (RdF.one rd_25) rfl) rfl) rfl) rfl) rfl) rfl) rfl)
set_option maxRecDepth 20000 in
theorem rd_28:Rdb Tryz.prog bk 28 (rSl rB) (fun x=>x.length≤bd∧∀ y∈x,True):=by exact Rdb.slice Tryz.underlying28 (by kernel_rfl) rd_4
set_option maxRecDepth 20000 in
theorem rd_52:Rdb Tryz.prog bk 52 rR9 k_api_Move:=by exact Rdb.struct (α:=T9) (f:=fun x=>(x.From,x.Send,x.Peer,x.Label,x.To,x.Again)) (g:=fun y=>⟨y.1,y.2.1,y.2.2.1,y.2.2.2.1,y.2.2.2.2.1,y.2.2.2.2.2⟩) Tryz.underlying52 (by kernel_rfl) (fun _=>rfl) (RdF.cons rd_3 (RdF.cons rd_4 (RdF.cons rd_3 (RdF.cons rd_3 (RdF.cons rd_3 (RdF.one rd_4) rfl) rfl) rfl) rfl) rfl)
set_option maxRecDepth 20000 in
theorem rd_29:Rdb Tryz.prog bk 29 (rSl rR9) (fun x=>x.length≤bd∧∀ y∈x,k_api_Move y):=by exact Rdb.slice Tryz.underlying29 (by kernel_rfl) rd_52
set_option maxRecDepth 20000 in
theorem rd_31:Rdb Tryz.prog bk 31 rR8 k_api_Machine:=by exact Rdb.struct (α:=T8) (f:=fun x=>(x.Role,x.States,x.Start,x.Finals,x.Moves,x.Timeouts)) (g:=fun y=>⟨y.1,y.2.1,y.2.2.1,y.2.2.2.1,y.2.2.2.2.1,y.2.2.2.2.2⟩) Tryz.underlying31 (by kernel_rfl) (fun _=>rfl) (RdF.cons rd_3 (RdF.cons rd_3 (RdF.cons rd_3 (RdF.cons rd_28 (RdF.cons rd_29 (RdF.one rd_25) rfl) rfl) rfl) rfl) rfl)
set_option maxRecDepth 20000 in
theorem rd_83:Rdb Tryz.prog bk 83 rR12 k_api_Value:=by exact Rdb.struct (α:=T12) (f:=fun x=>(x.Kind,x.N,x.S)) (g:=fun y=>⟨y.1,y.2.1,y.2.2⟩) Tryz.underlying83 (by kernel_rfl) (fun _=>rfl) (RdF.cons rd_3 (RdF.cons rd_3 (RdF.one rd_9) rfl) rfl)
set_option maxRecDepth 20000 in
theorem rd_44:Rdb Tryz.prog bk 44 (rSl rR12) (fun x=>x.length≤bd∧∀ y∈x,k_api_Value y):=by exact Rdb.slice Tryz.underlying44 (by kernel_rfl) rd_83
set_option maxRecDepth 20000 in
theorem rd_46:Rdb Tryz.prog bk 46 rR3 k_api_Event:=by exact Rdb.struct (α:=T3) (f:=fun x=>(x.Role,x.Send,x.Peer,x.Label,x.Values)) (g:=fun y=>⟨y.1,y.2.1,y.2.2.1,y.2.2.2.1,y.2.2.2.2⟩) Tryz.underlying46 (by kernel_rfl) (fun _=>rfl) (RdF.cons rd_3 (RdF.cons rd_4 (RdF.cons rd_3 (RdF.cons rd_3 (RdF.one rd_44) rfl) rfl) rfl) rfl)
set_option maxRecDepth 20000 in
theorem rd_41:Rdb Tryz.prog bk 41 (rSl rR3) (fun x=>x.length≤bd∧∀ y∈x,k_api_Event y):=by exact Rdb.slice Tryz.underlying41 (by kernel_rfl) rd_46
set_option maxRecDepth 20000 in
theorem contract (hplain:∀ (x0:T5) (x1:T8) (x2:(List T3)),k_api_Global x0→k_api_Machine x1→(x2.length≤bd∧∀ y∈x2,k_api_Event y)→∃ N,law43_ExplainPermits N x0 x1 x2=some true) (H:Type) (enc:TypeId × Value→H) (W:World) (base:Nat) (args:Array Value) (ds gs:List (DataW H)) (before:List MemPlace)
    (hval:∀ (j:Nat) t v,Tryz.f6.params[j]? = some t→args[j]? = some v→Value.okWide Tryz.prog W .any base t v)
    (hW:DataW.Whole enc Tryz.prog Tryz.f6.params.toList Rows.explainPermitsSpec.vars false W args.toList ds gs before) (hk:Rows.uptoSmall H (ds++gs)=true) (hl:laidMetH Tryz.prog Rows.explainPermitsUptoRow.laid W) :
    Calls Tryz.prog 6 args W fun e W'=>∃ v,e=.returned v∧Rows.explainPermitsSpec.post enc Tryz.prog Tryz.f6 false true false false W args v W':=by
  have hW0:=hW
  obtain ⟨p,q,hA0,hV,rfl,hz,hn⟩:=hW
  have hA:DataW.TrodAll enc Tryz.prog W 0 (fun _=>true) true [27,31,41] args.toList ds p:=hA0
  obtain ⟨v0,vs0,d0,ds0,p0,q0,hargs,rfl,rfl,h0,r0⟩:=trodAll_cons hA
  obtain ⟨v1,vs1,d1,ds1,p1,q1,e1,rfl,rfl,h1,r1⟩:=trodAll_cons r0
  subst e1
  obtain ⟨v2,vs2,d2,ds2,p2,q2,e2,rfl,rfl,h2,r2⟩:=trodAll_cons r1
  subst e2
  obtain ⟨e3,rfl,rfl⟩:=trodAll_nil r2
  subst e3
  obtain rfl:args=#[v0,v1,v2]:=by cases args;simpa using hargs
  obtain ⟨rfl,rfl⟩:=trodVars_none hV
  have hb:Rows.uptoBulkAll [d0,d1,d2]≤1048576:=of_decide_eq_true hk
  simp only [Rows.uptoBulkAll] at hb
  obtain ⟨n0,hf0⟩:=h0
  obtain ⟨x0,hr0,ok0⟩:=rd_27.2 enc W n0 _ _ hf0 (by show Rows.uptoBulk d0≤1048576;omega)
  obtain ⟨n1,hf1⟩:=h1
  obtain ⟨x1,hr1,ok1⟩:=rd_31.2 enc W n1 _ _ hf1 (by show Rows.uptoBulk d1≤1048576;omega)
  obtain ⟨n2,hf2⟩:=h2
  obtain ⟨x2,hr2,ok2⟩:=rd_41.2 enc W n2 _ _ hf2 (by show Rows.uptoBulk d2≤1048576;omega)
  have o0:=Opened.start (Old W) W
  obtain ⟨E1,o1⟩:=o0.step oO5 hr0
  obtain ⟨E2,o2⟩:=o1.step oO8 hr1
  obtain ⟨E3,o3⟩:=o2.step (oSl rR3) hr2
  obtain ⟨N,hN⟩:=hplain x0 x1 x2 ok0 ok1 ok2
  have hT:=tab_laid (name := "internal/strconv.uint64pow10") hl (by kernel_rfl) (i:=2) (by kernel_rfl) (g:=1) (by kernel_rfl) (t:=291) (by kernel_rfl) (e:=271) (n:=20) (by kernel_rfl) (by kernel_rfl) (by kernel_rfl) (by kernel_rfl) (k:=.u64) (zs:=Go.Lib.pow10Tab)
  have hc:=law_callsT (A:=powT) (law43_ExplainPermits_ct N x0 x1 x2 true hN) rfl rfl (fun _ h=>h) hT (E:=E3) (w:=W) o3.one (o3.V rfl)
  have a0:((oO5:Opn _).cells 0 x0).map (den E3)=v0.cells.toList:=(o3.args _ (List.mem_append.2 (.inl (List.mem_append.2 (.inl (List.mem_append.2 (.inr (List.mem_singleton.2 rfl)))))))).1
  have a1:((oO8:Opn _).cells 4 x1).map (den E3)=v1.cells.toList:=(o3.args _ (List.mem_append.2 (.inl (List.mem_append.2 (.inr (List.mem_singleton.2 rfl)))))).1
  have a2:(((oSl rR3):Opn _).cells 7 x2).map (den E3)=v2.cells.toList:=(o3.args _ (List.mem_append.2 (.inr (List.mem_singleton.2 rfl)))).1
  obtain ⟨cs0,rfl⟩:=arg_agg (P:=Tryz.prog) (t:=27) (by kernel_rfl) (hval 0 27 v0 rfl rfl)
  have b0:Value.agg ((((oO5:Opn _).cells 0 x0).map (den E3)).toArray)=.agg cs0:=by rw [a0];rfl
  obtain ⟨cs1,rfl⟩:=arg_agg (P:=Tryz.prog) (t:=31) (by kernel_rfl) (hval 1 31 v1 rfl rfl)
  have b1:Value.agg ((((oO8:Opn _).cells 4 x1).map (den E3)).toArray)=.agg cs1:=by rw [a1];rfl
  have l2:=arg_leaf (P:=Tryz.prog) (t:=41) (by kernel_rfl) (hval 2 41 v2 rfl rfl)
  rw [l2] at a2
  have b2:=(List.cons.inj a2).1
  have hc:Calls Tryz.prog 6 #[Value.agg ((((oO5:Opn _).cells 0 x0).map (den E3)).toArray),Value.agg ((((oO8:Opn _).cells 4 x1).map (den E3)).toArray),den E3 (.sl 7)] W _:=hc
  rw [b0,b1,b2] at hc
  refine hc.mono fun e W' ⟨he,hx⟩=>⟨_,he,?_⟩
  exact law_post (tb:=4) (by kernel_rfl) (by kernel_rfl) rfl (by kernel_rfl) (by kernel_rfl) hW0 rfl hx
theorem own:ownKnob Tryz.prog.godebug=none:=by kernel_rfl
/-- A world for the witness: the settled one, the listed variables holding what they are laid with. -/
noncomputable def laidWorld (os:Os):World:={ World.holding Tryz.prog os ⟨#[],#[],[]⟩ with heap:=((((((World.holding Tryz.prog os ⟨#[],#[],[]⟩).heap).modify 2 (fun o=>match o with | .cells _ t frozen=>.cells (laidFlat 9 Rows.laid_math_bits_deBruijn32tab).toArray t frozen | o=>o)).modify 3 (fun o=>match o with | .cells _ t frozen=>.cells (laidFlat 9 Rows.laid_math_bits_deBruijn64tab).toArray t frozen | o=>o)).modify 1 (fun o=>match o with | .cells _ t frozen=>.cells (laidFlat 9 Rows.laid_internal_strconv_uint64pow10).toArray t frozen | o=>o)).modify 5 (fun o=>match o with | .cells _ t frozen=>.cells (laidFlat 9 Rows.laid_unicode_utf8_acceptRanges).toArray t frozen | o=>o)).modify 4 (fun o=>match o with | .cells _ t frozen=>.cells (laidFlat 9 Rows.laid_unicode_utf8_first).toArray t frozen | o=>o) }
theorem laid_met (os:Os):laidMet Tryz.prog Rows.explainPermitsUptoRow.laid ((laidWorld os).forCall (fun _ _=>0) ⟨#[],#[(.agg #[.string .empty,.slice none 0 0,.slice none 0 0,.int .i64 (0),.int .i64 (0),.int .i64 (0),.slice none 0 0,.slice none 0 0]:Value),(.agg #[.int .i64 (0),.int .i64 (0),.int .i64 (0),.slice none 0 0,.slice none 0 0,.slice none 0 0]:Value),(.slice none 0 0:Value)],[]⟩).memory :=
  laidMet_of_run' 8 (by kernel_rfl) (by kernel_rfl)
theorem reads (os:Os) {H:Type} (enc:TypeId × Value→H):∃ places,DataW.whole enc Tryz.prog ((laidWorld os).forCall (fun _ _=>0) ⟨#[],#[(.agg #[.string .empty,.slice none 0 0,.slice none 0 0,.int .i64 (0),.int .i64 (0),.int .i64 (0),.slice none 0 0,.slice none 0 0]:Value),(.agg #[.int .i64 (0),.int .i64 (0),.int .i64 (0),.slice none 0 0,.slice none 0 0,.slice none 0 0]:Value),(.slice none 0 0:Value)],[]⟩).memory Tryz.f6.params.toList Rows.explainPermitsSpec.vars false (#[(.agg #[.string .empty,.slice none 0 0,.slice none 0 0,.int .i64 (0),.int .i64 (0),.int .i64 (0),.slice none 0 0,.slice none 0 0]:Value),(.agg #[.int .i64 (0),.int .i64 (0),.int .i64 (0),.slice none 0 0,.slice none 0 0,.slice none 0 0]:Value),(.slice none 0 0:Value)]:Array Value).toList 12=some ([.agg [.lit (.string []),.nil,.nil,.lit (.int .i64 0),.lit (.int .i64 0),.lit (.int .i64 0),.nil,.nil],.agg [.lit (.int .i64 0),.lit (.int .i64 0),.lit (.int .i64 0),.nil,.nil,.nil],.nil],[],places) :=
  ⟨[],by kernel_rfl⟩
set_option maxRecDepth 100000 in
theorem lifted (hplain:∀ (x0:T5) (x1:T8) (x2:(List T3)),k_api_Global x0→k_api_Machine x1→(x2.length≤bd∧∀ y∈x2,k_api_Event y)→∃ N,law43_ExplainPermits N x0 x1 x2=some true) (os:Os) (started:os.Started) (H:Type) (enc:TypeId × Value→H) (F:Stop.Interp) :
    ReturnsInHanded {} Tryz.checked os 6 .any ((Rows.OpenSpec.upto Rows.explainPermitsSpec).preRow enc Tryz.prog Tryz.f6 Rows.explainPermitsUptoRow.domain false Rows.explainPermitsUptoRow.laid) (((Rows.OpenSpec.upto Rows.explainPermitsSpec).at F).post enc Tryz.prog Tryz.f6 false true false false):=by
  obtain ⟨places,hx⟩:=reads os enc
  refine returnsInHanded_of_row (C:=Tryz.checked) (s:=Rows.OpenSpec.upto Rows.explainPermitsSpec) own started (by kernel_rfl) Tryz.func6
    (witness_row_at (enc:=enc) (C:=Tryz.checked) false (laidWorld os) #[(.agg #[.string .empty,.slice none 0 0,.slice none 0 0,.int .i64 (0),.int .i64 (0),.int .i64 (0),.slice none 0 0,.slice none 0 0]:Value),(.agg #[.int .i64 (0),.int .i64 (0),.int .i64 (0),.slice none 0 0,.slice none 0 0,.slice none 0 0]:Value),(.slice none 0 0:Value)] rfl (by kernel_rfl) (by kernel_rfl) (by kernel_rfl)
      (OpenSpec.preRow_of_cond 12 hx (by kernel_rfl) (fun k hk=>by cases hk;kernel_rfl) (by kernel_rfl) (laid_met os))) ?_
  intro W base args ds gs before hval hW _ hcond _ h4 _ _
  exact contract hplain H enc W base args ds gs before hval hW (hcond _ rfl) h4
end Go.Proofs.YtdlhgdfjpilcjaaGreatDoor
end
