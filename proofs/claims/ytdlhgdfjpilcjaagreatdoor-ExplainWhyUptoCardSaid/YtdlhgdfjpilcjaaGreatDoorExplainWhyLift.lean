/- The contract of the law, and that its calls meet it. -/
import Derived.LaidLaws
import Derived.Test.YtdlhgdfjpilcjaaGreatDoorCards
import Derived.Test.YtdlhgdfjpilcjaaGreatDoorTie
import Derived.Test.YtdlhgdfjpilcjaaGreatDoorExplainWhyWalk3
import Derived.Test.YtdlhgdfjpilcjaaGreatDoorExplainWhyPlain3
set_option linter.all false
section
open Go Go.Kx Go.Proofs Go.ChangeShapes Go.WideShapes Go.ChangeAt Go.RowKit Gx
namespace Go.Proofs.YtdlhgdfjpilcjaaGreatDoor
theorem Zn4 {H:Type} (d:DataW H):1≤Rows.uptoBulk d:=by
  cases d with
  | lit l=>cases l<;>simp [Rows.uptoBulk]
  | nil=>simp [Rows.uptoBulk]
  | ptr d=>simp [Rows.uptoBulk]
  | slice elems spare=>simp [Rows.uptoBulk]
  | agg parts=>simp [Rows.uptoBulk]
  | iface t d=>simp [Rows.uptoBulk]
  | map entries=>simp [Rows.uptoBulk]
  | held h=>simp [Rows.uptoBulk]
def bk:Bulk:=⟨fun d=>Rows.uptoBulk d,fun l=>Rows.uptoBulkAll l,fun b=>by simp [Rows.uptoBulk],fun e s=>by simp [Rows.uptoBulk],fun l=>by simp [Rows.uptoBulk],by simp [Rows.uptoBulkAll],fun d l=>by simp [Rows.uptoBulkAll],Zn4⟩
set_option maxRecDepth 20000 in
theorem LU:Rdb Tryz.prog bk 9 rS (fun x=>x.size≤bd):=by exact Rdb.str Tryz.underlying9 (by kernel_rfl)
set_option maxRecDepth 20000 in
theorem ZoZ:Rdb Tryz.prog bk 22 (YP rS) (fun x=>x.length≤bd∧∀ y∈x,y.size≤bd):=by exact Rdb.slice Tryz.underlying22 (by kernel_rfl) LU
set_option maxRecDepth 20000 in
theorem YS:Rdb Tryz.prog bk 3 (rI .i64) (fun x=>(Lit.int .i64 x).wf=true):=by exact Rdb.int Tryz.underlying3 (by kernel_rfl)
set_option maxRecDepth 20000 in
theorem Zqm:Rdb Tryz.prog bk 66 ZdX ZiW:=by exact Rdb.struct (α:=Yb) (f:=fun x=>(x.Kind,x.Lo,x.Hi)) (g:=fun y=>⟨y.1,y.2.1,y.2.2⟩) Tryz.underlying66 (by kernel_rfl) (fun _=>rfl) (RdF.cons YS (RdF.cons YS (RdF.one YS) rfl) rfl)
set_option maxRecDepth 20000 in
theorem Zru:Rdb Tryz.prog bk 68 YM Zdp:=by exact Rdb.struct (α:=T4) (f:=fun x=>(x.Name,x.Sort')) (g:=fun y=>⟨y.1,y.2⟩) Tryz.underlying68 (by kernel_rfl) (fun _=>rfl) (RdF.cons LU (RdF.one Zqm) rfl)
set_option maxRecDepth 20000 in
theorem ZlE:Rdb Tryz.prog bk 69 (YP YM) (fun x=>x.length≤bd∧∀ y∈x,Zdp y):=by exact Rdb.slice Tryz.underlying69 (by kernel_rfl) Zru
set_option maxRecDepth 20000 in
theorem Zl8:Rdb Tryz.prog bk 128 YO Zd9:=by exact Rdb.struct (α:=T1) (f:=fun x=>(x.X,x.Y,x.C)) (g:=fun y=>⟨y.1,y.2.1,y.2.2⟩) Tryz.underlying128 (by kernel_rfl) (fun _=>rfl) (RdF.cons YS (RdF.cons YS (RdF.one YS) rfl) rfl)
set_option maxRecDepth 20000 in
theorem Zl7:Rdb Tryz.prog bk 70 (YP YO) (fun x=>x.length≤bd∧∀ y∈x,Zd9 y):=by exact Rdb.slice Tryz.underlying70 (by kernel_rfl) Zl8
set_option maxRecDepth 20000 in
theorem ZoW:Rdb Tryz.prog bk 32 (rP (rI .i64) (rI .i64)) (fun x=>((Lit.int .i64 x.1).wf=true)∧((Lit.int .i64 x.2).wf=true)):=by exact Rdb.array Tryz.underlying32 (by kernel_rfl) (RdA.cons YS (RdA.one YS))
set_option maxRecDepth 20000 in
theorem Zk8:Rdb Tryz.prog bk 71 (YP (rP (rI .i64) (rI .i64))) (fun x=>x.length≤bd∧∀ y∈x,((Lit.int .i64 y.1).wf=true)∧((Lit.int .i64 y.2).wf=true)):=by exact Rdb.slice Tryz.underlying71 (by kernel_rfl) ZoW
set_option maxRecDepth 20000 in
theorem ZrM:Rdb Tryz.prog bk 73 rR6 Zfp:=by exact Rdb.struct (α:=T6) (f:=fun x=>(x.Diffs,x.Equals)) (g:=fun y=>⟨y.1,y.2⟩) Tryz.underlying73 (by kernel_rfl) (fun _=>rfl) (RdF.cons Zl7 (RdF.one Zk8) rfl)
set_option maxRecDepth 20000 in
theorem ZpO:Rdb Tryz.prog bk 75 ZL Hx:=by exact Rdb.struct (α:=T0) (f:=fun x=>(x.Name,x.Fields,x.First,x.Guard)) (g:=fun y=>⟨y.1,y.2.1,y.2.2.1,y.2.2.2⟩) Tryz.underlying75 (by kernel_rfl) (fun _=>rfl) (RdF.cons LU (RdF.cons ZlE (RdF.cons YS (RdF.one ZrM) rfl) rfl) rfl)
set_option maxRecDepth 20000 in
theorem Zn1:Rdb Tryz.prog bk 23 (YP ZL) (fun x=>x.length≤bd∧∀ y∈x,Hx y):=by exact Rdb.slice Tryz.underlying23 (by kernel_rfl) ZpO
set_option maxRecDepth 20000 in
theorem Zmt:Rdb Tryz.prog bk 77 rR7 Zi8:=by exact Rdb.struct (α:=T7) (f:=fun x=>(x.From,x.To,x.Label)) (g:=fun y=>⟨y.1,y.2.1,y.2.2⟩) Tryz.underlying77 (by kernel_rfl) (fun _=>rfl) (RdF.cons YS (RdF.cons YS (RdF.one YS) rfl) rfl)
set_option maxRecDepth 20000 in
theorem HY:Rdb Tryz.prog bk 4 rB (fun x=>True):=by exact Rdb.bool Tryz.underlying4 (by kernel_rfl)
set_option maxRecDepth 20000 in
theorem ZnN:Rdb Tryz.prog bk 79 Yf ZeO:=by exact Rdb.struct (α:=T2) (f:=fun x=>(x.From,x.Act,x.To,x.Again)) (g:=fun y=>⟨y.1,y.2.1,y.2.2.1,y.2.2.2⟩) Tryz.underlying79 (by kernel_rfl) (fun _=>rfl) (RdF.cons YS (RdF.cons Zmt (RdF.cons YS (RdF.one HY) rfl) rfl) rfl)
set_option maxRecDepth 20000 in
theorem Zsx:Rdb Tryz.prog bk 24 (YP Yf) (fun x=>x.length≤bd∧∀ y∈x,ZeO y):=by exact Rdb.slice Tryz.underlying24 (by kernel_rfl) ZnN
set_option maxRecDepth 20000 in
theorem ZoM:Rdb Tryz.prog bk 54 Z2 ZbI:=by exact Rdb.struct (α:=Yj) (f:=fun x=>(x.State,x.Ticks,x.Else)) (g:=fun y=>⟨y.1,y.2.1,y.2.2⟩) Tryz.underlying54 (by kernel_rfl) (fun _=>rfl) (RdF.cons YS (RdF.cons YS (RdF.one YS) rfl) rfl)
set_option maxRecDepth 20000 in
theorem Zjn:Rdb Tryz.prog bk 25 (YP Z2) (fun x=>x.length≤bd∧∀ y∈x,ZbI y):=by exact Rdb.slice Tryz.underlying25 (by kernel_rfl) ZoM
set_option maxRecDepth 20000 in
theorem ZpK:Rdb Tryz.prog bk 27 rR5 Tg:=by exact Rdb.struct (α:=T5) (f:=fun x=>(x.Name,x.Roles,x.Decls,x.States,x.Start,x.End,x.Edges,x.Timeouts)) (g:=fun y=>⟨y.1,y.2.1,y.2.2.1,y.2.2.2.1,y.2.2.2.2.1,y.2.2.2.2.2.1,y.2.2.2.2.2.2.1,y.2.2.2.2.2.2.2⟩) Tryz.underlying27 (by kernel_rfl) (fun _=>rfl) (RdF.cons LU (RdF.cons ZoZ (RdF.cons Zn1 (RdF.cons YS (RdF.cons YS (RdF.cons YS (RdF.cons Zsx (RdF.one Zjn) rfl) rfl) rfl) rfl) rfl) rfl) rfl)
set_option maxRecDepth 20000 in
theorem ZkB:Rdb Tryz.prog bk 28 (YP rB) (fun x=>x.length≤bd∧∀ y∈x,True):=by exact Rdb.slice Tryz.underlying28 (by kernel_rfl) HY
set_option maxRecDepth 20000 in
theorem ZkM:Rdb Tryz.prog bk 52 Xn ZeC:=by exact Rdb.struct (α:=T9) (f:=fun x=>(x.From,x.Send,x.Peer,x.Label,x.To,x.Again)) (g:=fun y=>⟨y.1,y.2.1,y.2.2.1,y.2.2.2.1,y.2.2.2.2.1,y.2.2.2.2.2⟩) Tryz.underlying52 (by kernel_rfl) (fun _=>rfl) (RdF.cons YS (RdF.cons HY (RdF.cons YS (RdF.cons YS (RdF.cons YS (RdF.one HY) rfl) rfl) rfl) rfl) rfl)
set_option maxRecDepth 20000 in
theorem Zk7:Rdb Tryz.prog bk 29 (YP Xn) (fun x=>x.length≤bd∧∀ y∈x,ZeC y):=by exact Rdb.slice Tryz.underlying29 (by kernel_rfl) ZkM
set_option maxRecDepth 20000 in
theorem ZnP:Rdb Tryz.prog bk 31 rR8 Pb:=by exact Rdb.struct (α:=T8) (f:=fun x=>(x.Role,x.States,x.Start,x.Finals,x.Moves,x.Timeouts)) (g:=fun y=>⟨y.1,y.2.1,y.2.2.1,y.2.2.2.1,y.2.2.2.2.1,y.2.2.2.2.2⟩) Tryz.underlying31 (by kernel_rfl) (fun _=>rfl) (RdF.cons YS (RdF.cons YS (RdF.cons YS (RdF.cons ZkB (RdF.cons Zk7 (RdF.one Zjn) rfl) rfl) rfl) rfl) rfl)
set_option maxRecDepth 20000 in
theorem Zr6:Rdb Tryz.prog bk 83 ZD Zd0:=by exact Rdb.struct (α:=Zm) (f:=fun x=>(x.Kind,x.N,x.S)) (g:=fun y=>⟨y.1,y.2.1,y.2.2⟩) Tryz.underlying83 (by kernel_rfl) (fun _=>rfl) (RdF.cons YS (RdF.cons YS (RdF.one LU) rfl) rfl)
set_option maxRecDepth 20000 in
theorem Zof:Rdb Tryz.prog bk 44 (YP ZD) (fun x=>x.length≤bd∧∀ y∈x,Zd0 y):=by exact Rdb.slice Tryz.underlying44 (by kernel_rfl) Zr6
set_option maxRecDepth 20000 in
theorem ZsK:Rdb Tryz.prog bk 46 Yv Sc:=by exact Rdb.struct (α:=T3) (f:=fun x=>(x.Role,x.Send,x.Peer,x.Label,x.Values)) (g:=fun y=>⟨y.1,y.2.1,y.2.2.1,y.2.2.2.1,y.2.2.2.2⟩) Tryz.underlying46 (by kernel_rfl) (fun _=>rfl) (RdF.cons YS (RdF.cons HY (RdF.cons YS (RdF.cons YS (RdF.one Zof) rfl) rfl) rfl) rfl)
set_option maxRecDepth 20000 in
theorem ZnH:Rdb Tryz.prog bk 41 (YP Yv) (fun x=>x.length≤bd∧∀ y∈x,Sc y):=by exact Rdb.slice Tryz.underlying41 (by kernel_rfl) ZsK
set_option maxRecDepth 20000 in
theorem contract (hplain:∀ (x0:T5) (x1:T8) (x2:(List T3)),Tg x0→Pb x1→(x2.length≤bd∧∀ y∈x2,Sc y)→∃ N,TJ N x0 x1 x2=some true) (H:Type) (enc:TypeId × Value→H) (W:World) (base:Nat) (args:Array Value) (ds gs:List (DataW H)) (before:List MemPlace)
    (hval:∀ (j:Nat) t v,Tryz.f4.params[j]? = some t→args[j]? = some v→Value.okWide Tryz.prog W .any base t v)
    (hW:DataW.Whole enc Tryz.prog Tryz.f4.params.toList Rows.explainWhySpec.vars false W args.toList ds gs before) (hk:Rows.uptoSmall H (ds++gs)=true) (hl:laidMetH Tryz.prog Rows.explainWhyUptoRow.laid W) :
    Calls Tryz.prog 4 args W fun e W'=>∃ v,e=.returned v∧Rows.explainWhySpec.post enc Tryz.prog Tryz.f4 false true false false W args v W':=by
  have hW0:=hW
  obtain ⟨p,q,hA0,hV,rfl,hz,hn⟩:=hW
  have hA:DataW.TrodAll enc Tryz.prog W 0 (fun _=>true) true [27,31,41] args.toList ds p:=hA0
  obtain ⟨v0,vs0,d0,ds0,p0,q0,hargs,rfl,rfl,h0,r0⟩:=trodAll_cons hA
  obtain ⟨v1,vs1,d1,ds1,p1,q1,e1,rfl,rfl,h1,r1⟩:=trodAll_cons r0
  subst e1
  obtain ⟨v2,vs2,d2,ds2,p2,q2,e2,rfl,rfl,h2,r2⟩:=trodAll_cons r1
  subst e2
  obtain ⟨e3,rfl,rfl⟩:=trodAll_nil r2
  subst e3
  obtain rfl:args=#[v0,v1,v2]:=by cases args;simpa using hargs
  obtain ⟨rfl,rfl⟩:=trodVars_none hV
  have hb:Rows.uptoBulkAll [d0,d1,d2]≤1048576:=of_decide_eq_true hk
  simp only [Rows.uptoBulkAll] at hb
  obtain ⟨n0,hf0⟩:=h0
  obtain ⟨x0,hr0,ok0⟩:=ZpK.2 enc W n0 _ _ hf0 (by show Rows.uptoBulk d0≤1048576;omega)
  obtain ⟨n1,hf1⟩:=h1
  obtain ⟨x1,hr1,ok1⟩:=ZnP.2 enc W n1 _ _ hf1 (by show Rows.uptoBulk d1≤1048576;omega)
  obtain ⟨n2,hf2⟩:=h2
  obtain ⟨x2,hr2,ok2⟩:=ZnH.2 enc W n2 _ _ hf2 (by show Rows.uptoBulk d2≤1048576;omega)
  have o0:=Opened.start (Ur W) W
  obtain ⟨E1,o1⟩:=o0.step oO5 hr0
  obtain ⟨E2,o2⟩:=o1.step LM hr1
  obtain ⟨E3,o3⟩:=o2.step (XQ Yv) hr2
  obtain ⟨N,hN⟩:=hplain x0 x1 x2 ok0 ok1 ok2
  have hT:=Zs4 (name := "internal/strconv.uint64pow10") hl (by kernel_rfl) (i:=2) (by kernel_rfl) (g:=1) (by kernel_rfl) (t:=291) (by kernel_rfl) (e:=271) (n:=20) (by kernel_rfl) (by kernel_rfl) (by kernel_rfl) (by kernel_rfl) (k:=.u64) (zs:=Go.Lib.pow10Tab)
  have hc:=Zqn (A:=powT) (ZlI N x0 x1 x2 true hN) rfl rfl (fun _ h=>h) hT (E:=E3) (w:=W) o3.one (o3.V rfl)
  have a0:((oO5:Ya _).cells 0 x0).map (Zt E3)=v0.cells.toList:=(o3.args _ (List.mem_append.2 (.inl (List.mem_append.2 (.inl (List.mem_append.2 (.inr (List.mem_singleton.2 rfl)))))))).1
  have a1:((LM:Ya _).cells 4 x1).map (Zt E3)=v1.cells.toList:=(o3.args _ (List.mem_append.2 (.inl (List.mem_append.2 (.inr (List.mem_singleton.2 rfl)))))).1
  have a2:(((XQ Yv):Ya _).cells 7 x2).map (Zt E3)=v2.cells.toList:=(o3.args _ (List.mem_append.2 (.inr (List.mem_singleton.2 rfl)))).1
  obtain ⟨cs0,rfl⟩:=ZiT (P:=Tryz.prog) (t:=27) (by kernel_rfl) (hval 0 27 v0 rfl rfl)
  have b0:Value.agg ((((oO5:Ya _).cells 0 x0).map (Zt E3)).toArray)=.agg cs0:=by rw [a0];rfl
  obtain ⟨cs1,rfl⟩:=ZiT (P:=Tryz.prog) (t:=31) (by kernel_rfl) (hval 1 31 v1 rfl rfl)
  have b1:Value.agg ((((LM:Ya _).cells 4 x1).map (Zt E3)).toArray)=.agg cs1:=by rw [a1];rfl
  have l2:=ZkS (P:=Tryz.prog) (t:=41) (by kernel_rfl) (hval 2 41 v2 rfl rfl)
  rw [l2] at a2
  have b2:=(List.cons.inj a2).1
  have hc:Calls Tryz.prog 4 #[Value.agg ((((oO5:Ya _).cells 0 x0).map (Zt E3)).toArray),Value.agg ((((LM:Ya _).cells 4 x1).map (Zt E3)).toArray),Zt E3 (.sl 7)] W _:=hc
  rw [b0,b1,b2] at hc
  refine hc.mono fun e W' ⟨he,hx⟩=>⟨_,he,?_⟩
  exact Zq6 (tb:=4) (by kernel_rfl) (by kernel_rfl) rfl (by kernel_rfl) (by kernel_rfl) hW0 rfl hx
theorem own:ownKnob Tryz.prog.godebug=none:=by kernel_rfl
/-- A world for the witness: the settled one, the listed variables holding what they are laid with. -/
noncomputable def ZcN (os:Os):World:={ World.holding Tryz.prog os ⟨#[],#[],[]⟩ with heap:=((((((World.holding Tryz.prog os ⟨#[],#[],[]⟩).heap).modify 2 (fun o=>match o with | .cells _ t frozen=>.cells (Lz 9 Rows.laid_math_bits_deBruijn32tab).toArray t frozen | o=>o)).modify 3 (fun o=>match o with | .cells _ t frozen=>.cells (Lz 9 Rows.laid_math_bits_deBruijn64tab).toArray t frozen | o=>o)).modify 1 (fun o=>match o with | .cells _ t frozen=>.cells (Lz 9 Rows.laid_internal_strconv_uint64pow10).toArray t frozen | o=>o)).modify 5 (fun o=>match o with | .cells _ t frozen=>.cells (Lz 9 Rows.laid_unicode_utf8_acceptRanges).toArray t frozen | o=>o)).modify 4 (fun o=>match o with | .cells _ t frozen=>.cells (Lz 9 Rows.laid_unicode_utf8_first).toArray t frozen | o=>o) }
theorem Znf (os:Os):laidMet Tryz.prog Rows.explainWhyUptoRow.laid ((ZcN os).forCall (fun _ _=>0) ⟨#[],#[(.agg #[.string .empty,.slice none 0 0,.slice none 0 0,.int .i64 (0),.int .i64 (0),.int .i64 (0),.slice none 0 0,.slice none 0 0]:Value),(.agg #[.int .i64 (0),.int .i64 (0),.int .i64 (0),.slice none 0 0,.slice none 0 0,.slice none 0 0]:Value),(.slice none 0 0:Value)],[]⟩).memory :=
  laidMet_of_run' 8 (by kernel_rfl) (by kernel_rfl)
theorem ZnS (os:Os) {H:Type} (enc:TypeId × Value→H):∃ places,DataW.whole enc Tryz.prog ((ZcN os).forCall (fun _ _=>0) ⟨#[],#[(.agg #[.string .empty,.slice none 0 0,.slice none 0 0,.int .i64 (0),.int .i64 (0),.int .i64 (0),.slice none 0 0,.slice none 0 0]:Value),(.agg #[.int .i64 (0),.int .i64 (0),.int .i64 (0),.slice none 0 0,.slice none 0 0,.slice none 0 0]:Value),(.slice none 0 0:Value)],[]⟩).memory Tryz.f4.params.toList Rows.explainWhySpec.vars false (#[(.agg #[.string .empty,.slice none 0 0,.slice none 0 0,.int .i64 (0),.int .i64 (0),.int .i64 (0),.slice none 0 0,.slice none 0 0]:Value),(.agg #[.int .i64 (0),.int .i64 (0),.int .i64 (0),.slice none 0 0,.slice none 0 0,.slice none 0 0]:Value),(.slice none 0 0:Value)]:Array Value).toList 12=some ([.agg [.lit (.string []),.nil,.nil,.lit (.int .i64 0),.lit (.int .i64 0),.lit (.int .i64 0),.nil,.nil],.agg [.lit (.int .i64 0),.lit (.int .i64 0),.lit (.int .i64 0),.nil,.nil,.nil],.nil],[],places) :=
  ⟨[],by kernel_rfl⟩
set_option maxRecDepth 100000 in
theorem ZsN (hplain:∀ (x0:T5) (x1:T8) (x2:(List T3)),Tg x0→Pb x1→(x2.length≤bd∧∀ y∈x2,Sc y)→∃ N,TJ N x0 x1 x2=some true) (os:Os) (started:os.Started) (H:Type) (enc:TypeId × Value→H) (F:Stop.Interp) :
    ReturnsInHanded {} Tryz.checked os 4 .any ((Rows.OpenSpec.upto Rows.explainWhySpec).preRow enc Tryz.prog Tryz.f4 Rows.explainWhyUptoRow.domain false Rows.explainWhyUptoRow.laid) (((Rows.OpenSpec.upto Rows.explainWhySpec).at F).post enc Tryz.prog Tryz.f4 false true false false):=by
  obtain ⟨places,hx⟩:=ZnS os enc
  refine returnsInHanded_of_row (C:=Tryz.checked) (s:=Rows.OpenSpec.upto Rows.explainWhySpec) own started (by kernel_rfl) Tryz.func4
    (witness_row_at (enc:=enc) (C:=Tryz.checked) false (ZcN os) #[(.agg #[.string .empty,.slice none 0 0,.slice none 0 0,.int .i64 (0),.int .i64 (0),.int .i64 (0),.slice none 0 0,.slice none 0 0]:Value),(.agg #[.int .i64 (0),.int .i64 (0),.int .i64 (0),.slice none 0 0,.slice none 0 0,.slice none 0 0]:Value),(.slice none 0 0:Value)] rfl (by kernel_rfl) (by kernel_rfl) (by kernel_rfl)
      (OpenSpec.preRow_of_cond 12 hx (by kernel_rfl) (fun k hk=>by cases hk;kernel_rfl) (by kernel_rfl) (Znf os))) ?_
  intro W base args ds gs before hval hW _ hcond _ h4 _ _
  exact contract hplain H enc W base args ds gs before hval hW (hcond _ rfl) h4
end Go.Proofs.YtdlhgdfjpilcjaaGreatDoor
end
