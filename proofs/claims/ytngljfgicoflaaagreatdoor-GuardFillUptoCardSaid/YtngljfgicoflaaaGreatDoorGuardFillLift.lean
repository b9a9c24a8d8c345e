/- The contract of the law, and that its calls meet it. -/
import Derived.LaidLaws
import Derived.Test.YtngljfgicoflaaaGreatDoorCards
import Derived.Test.YtngljfgicoflaaaGreatDoorTie
import Derived.Test.YtngljfgicoflaaaGreatDoorGuardFillWalk1
import Derived.Test.YtngljfgicoflaaaGreatDoorGuardFillPlain3
set_option linter.all false
section
open Go Go.Kx Go.Proofs Go.ChangeShapes Go.WideShapes Go.ChangeAt Go.RowKit Gx
namespace Go.Proofs.YtngljfgicoflaaaGreatDoor
theorem bulk_one {H:Type} (d:DataW H):1≤Rows.uptoBulk d:=by
  cases d with
  | lit l=>cases l<;>simp [Rows.uptoBulk]
  | nil=>simp [Rows.uptoBulk]
  | ptr d=>simp [Rows.uptoBulk]
  | slice elems spare=>simp [Rows.uptoBulk]
  | agg parts=>simp [Rows.uptoBulk]
  | iface t d=>simp [Rows.uptoBulk]
  | map entries=>simp [Rows.uptoBulk]
  | held h=>simp [Rows.uptoBulk]
def bk:Bulk:=⟨fun d=>Rows.uptoBulk d,fun l=>Rows.uptoBulkAll l,fun b=>by simp [Rows.uptoBulk],fun e s=>by simp [Rows.uptoBulk],fun l=>by simp [Rows.uptoBulk],by simp [Rows.uptoBulkAll],fun d l=>by simp [Rows.uptoBulkAll],bulk_one⟩
set_option maxRecDepth 20000 in
theorem rd_9:Rdb Tryz.prog bk 9 rS (fun x=>x.size≤bd):=by exact Rdb.str Tryz.underlying9 (by kernel_rfl)
set_option maxRecDepth 20000 in
theorem rd_3:Rdb Tryz.prog bk 3 (rI .i64) (fun x=>(Lit.int .i64 x).wf=true):=by exact Rdb.int Tryz.underlying3 (by kernel_rfl)
set_option maxRecDepth 20000 in
theorem rd_66:Rdb Tryz.prog bk 66 rR4 k_api_Sort:=by exact Rdb.struct (α:=T4) (f:=fun x=>(x.Kind,x.Lo,x.Hi)) (g:=fun y=>⟨y.1,y.2.1,y.2.2⟩) Tryz.underlying66 (by kernel_rfl) (fun _=>rfl) (RdF.cons rd_3 (RdF.cons rd_3 (RdF.one rd_3) rfl) rfl)
set_option maxRecDepth 20000 in
theorem rd_68:Rdb Tryz.prog bk 68 rR2 k_api_Field:=by exact Rdb.struct (α:=T2) (f:=fun x=>(x.Name,x.Sort')) (g:=fun y=>⟨y.1,y.2⟩) Tryz.underlying68 (by kernel_rfl) (fun _=>rfl) (RdF.cons rd_9 (RdF.one rd_66) rfl)
set_option maxRecDepth 20000 in
theorem rd_45:Rdb Tryz.prog bk 45 (rSl rR2) (fun x=>x.length≤bd∧∀ y∈x,k_api_Field y):=by exact Rdb.slice Tryz.underlying45 (by kernel_rfl) rd_68
set_option maxRecDepth 20000 in
theorem rd_59:Rdb Tryz.prog bk 59 rR1 k_api_Diff:=by exact Rdb.struct (α:=T1) (f:=fun x=>(x.X,x.Y,x.C)) (g:=fun y=>⟨y.1,y.2.1,y.2.2⟩) Tryz.underlying59 (by kernel_rfl) (fun _=>rfl) (RdF.cons rd_3 (RdF.cons rd_3 (RdF.one rd_3) rfl) rfl)
set_option maxRecDepth 20000 in
theorem rd_46:Rdb Tryz.prog bk 46 (rSl rR1) (fun x=>x.length≤bd∧∀ y∈x,k_api_Diff y):=by exact Rdb.slice Tryz.underlying46 (by kernel_rfl) rd_59
set_option maxRecDepth 20000 in
theorem rd_60:Rdb Tryz.prog bk 60 (rP (rI .i64) (rI .i64)) (fun x=>((Lit.int .i64 x.1).wf=true)∧((Lit.int .i64 x.2).wf=true)):=by exact Rdb.array Tryz.underlying60 (by kernel_rfl) (RdA.cons rd_3 (RdA.one rd_3))
set_option maxRecDepth 20000 in
theorem rd_47:Rdb Tryz.prog bk 47 (rSl (rP (rI .i64) (rI .i64))) (fun x=>x.length≤bd∧∀ y∈x,((Lit.int .i64 y.1).wf=true)∧((Lit.int .i64 y.2).wf=true)):=by exact Rdb.slice Tryz.underlying47 (by kernel_rfl) rd_60
set_option maxRecDepth 20000 in
theorem rd_49:Rdb Tryz.prog bk 49 rR3 k_api_Guard:=by exact Rdb.struct (α:=T3) (f:=fun x=>(x.Diffs,x.Equals)) (g:=fun y=>⟨y.1,y.2⟩) Tryz.underlying49 (by kernel_rfl) (fun _=>rfl) (RdF.cons rd_46 (RdF.one rd_47) rfl)
set_option maxRecDepth 20000 in
theorem rd_51:Rdb Tryz.prog bk 51 rR0 k_api_Decl:=by exact Rdb.struct (α:=T0) (f:=fun x=>(x.Name,x.Fields,x.First,x.Guard)) (g:=fun y=>⟨y.1,y.2.1,y.2.2.1,y.2.2.2⟩) Tryz.underlying51 (by kernel_rfl) (fun _=>rfl) (RdF.cons rd_9 (RdF.cons rd_45 (RdF.cons rd_3 (RdF.one rd_49) rfl) rfl) rfl)
set_option maxRecDepth 20000 in
theorem rd_22:Rdb Tryz.prog bk 22 (rSl rR0) (fun x=>x.length≤bd∧∀ y∈x,k_api_Decl y):=by exact Rdb.slice Tryz.underlying22 (by kernel_rfl) rd_51
set_option maxRecDepth 20000 in
theorem rd_42:Rdb Tryz.prog bk 42 rR5 k_api_Value:=by exact Rdb.struct (α:=T5) (f:=fun x=>(x.Kind,x.N,x.S)) (g:=fun y=>⟨y.1,y.2.1,y.2.2⟩) Tryz.underlying42 (by kernel_rfl) (fun _=>rfl) (RdF.cons rd_3 (RdF.cons rd_3 (RdF.one rd_9) rfl) rfl)
set_option maxRecDepth 20000 in
theorem rd_23:Rdb Tryz.prog bk 23 (rSl rR5) (fun x=>x.length≤bd∧∀ y∈x,k_api_Value y):=by exact Rdb.slice Tryz.underlying23 (by kernel_rfl) rd_42
set_option maxRecDepth 20000 in
theorem contract (hplain:∀ (x0:(List T0)) (x1:Int) (x2:(List T5)),(x0.length≤bd∧∀ y∈x0,k_api_Decl y)→((Lit.int .i64 x1).wf=true)→(x2.length≤bd∧∀ y∈x2,k_api_Value y)→∃ N,law14_GuardFill N x0 x1 x2=some true) (H:Type) (enc:TypeId × Value→H) (W:World) (base:Nat) (args:Array Value) (ds gs:List (DataW H)) (before:List MemPlace)
    (hval:∀ (j:Nat) t v,Tryz.f3.params[j]? = some t→args[j]? = some v→Value.okWide Tryz.prog W .any base t v)
    (hW:DataW.Whole enc Tryz.prog Tryz.f3.params.toList Rows.guardFillSpec.vars false W args.toList ds gs before) (hk:Rows.uptoSmall H (ds++gs)=true) :
    Calls Tryz.prog 3 args W fun e W'=>∃ v,e=.returned v∧Rows.guardFillSpec.post enc Tryz.prog Tryz.f3 false true false false W args v W':=by
  have hW0:=hW
  obtain ⟨p,q,hA0,hV,rfl,hz,hn⟩:=hW
  have hA:DataW.TrodAll enc Tryz.prog W 0 (fun _=>true) true [22,3,23] args.toList ds p:=hA0
  obtain ⟨v0,vs0,d0,ds0,p0,q0,hargs,rfl,rfl,h0,r0⟩:=trodAll_cons hA
  obtain ⟨v1,vs1,d1,ds1,p1,q1,e1,rfl,rfl,h1,r1⟩:=trodAll_cons r0
  subst e1
  obtain ⟨v2,vs2,d2,ds2,p2,q2,e2,rfl,rfl,h2,r2⟩:=trodAll_cons r1
  subst e2
  obtain ⟨e3,rfl,rfl⟩:=trodAll_nil r2
  subst e3
  obtain rfl:args=#[v0,v1,v2]:=by cases args;simpa using hargs
  obtain ⟨rfl,rfl⟩:=trodVars_none hV
  have hb:Rows.uptoBulkAll [d0,d1,d2]≤1048576:=of_decide_eq_true hk
  simp only [Rows.uptoBulkAll] at hb
  obtain ⟨n0,hf0⟩:=h0
  obtain ⟨x0,hr0,ok0⟩:=rd_22.2 enc W n0 _ _ hf0 (by show Rows.uptoBulk d0≤1048576;omega)
  obtain ⟨n1,hf1⟩:=h1
  obtain ⟨x1,hr1,ok1⟩:=rd_3.2 enc W n1 _ _ hf1 (by show Rows.uptoBulk d1≤1048576;omega)
  obtain ⟨n2,hf2⟩:=h2
  obtain ⟨x2,hr2,ok2⟩:=rd_23.2 enc W n2 _ _ hf2 (by show Rows.uptoBulk d2≤1048576;omega)
  have o0:=Opened.start (Old W) W
  obtain ⟨E1,o1⟩:=o0.step (oSl rR0) hr0
  obtain ⟨E2,o2⟩:=o1.step (oI .i64) hr1
  obtain ⟨E3,o3⟩:=o2.step (oSl rR5) hr2
  obtain ⟨N,hN⟩:=hplain x0 x1 x2 ok0 ok1 ok2
  have hc:=law_calls (law14_GuardFill_ct N x0 x1 x2 true hN) rfl rfl (E:=E3) (w:=W) o3.one (o3.V rfl)
  have a0:(((oSl rR0):Opn _).cells 0 x0).map (den E3)=v0.cells.toList:=(o3.args _ (List.mem_append.2 (.inl (List.mem_append.2 (.inl (List.mem_append.2 (.inr (List.mem_singleton.2 rfl)))))))).1
  have a1:(((oI .i64):Opn _).cells 1 x1).map (den E3)=v1.cells.toList:=(o3.args _ (List.mem_append.2 (.inl (List.mem_append.2 (.inr (List.mem_singleton.2 rfl)))))).1
  have a2:(((oSl rR5):Opn _).cells 1 x2).map (den E3)=v2.cells.toList:=(o3.args _ (List.mem_append.2 (.inr (List.mem_singleton.2 rfl)))).1
  have l0:=arg_leaf (P:=Tryz.prog) (t:=22) (by kernel_rfl) (hval 0 22 v0 rfl rfl)
  rw [l0] at a0
  have b0:=(List.cons.inj a0).1
  have l1:=arg_leaf (P:=Tryz.prog) (t:=3) (by kernel_rfl) (hval 1 3 v1 rfl rfl)
  rw [l1] at a1
  have b1:=(List.cons.inj a1).1
  have l2:=arg_leaf (P:=Tryz.prog) (t:=23) (by kernel_rfl) (hval 2 23 v2 rfl rfl)
  rw [l2] at a2
  have b2:=(List.cons.inj a2).1
  have hc:Calls Tryz.prog 3 #[den E3 (.sl 0),den E3 (.i .i64 x1),den E3 (.sl 1)] W _:=hc
  rw [b0,b1,b2] at hc
  refine hc.mono fun e W' ⟨he,hx⟩=>⟨_,he,?_⟩
  exact law_post (tb:=4) (by kernel_rfl) (by kernel_rfl) rfl (by kernel_rfl) (by kernel_rfl) hW0 rfl hx
theorem own:ownKnob Tryz.prog.godebug=none:=by kernel_rfl
/-- A world for the witness: the settled one, the listed variables holding what they are laid with. -/
noncomputable def laidWorld (os:Os):World:={ World.holding Tryz.prog os ⟨#[],#[],[]⟩ with heap:=((((((World.holding Tryz.prog os ⟨#[],#[],[]⟩).heap).modify 4 (fun o=>match o with | .cells _ t frozen=>.cells (laidFlat 9 Rows.laid_math_bits_deBruijn32tab).toArray t frozen | o=>o)).modify 5 (fun o=>match o with | .cells _ t frozen=>.cells (laidFlat 9 Rows.laid_math_bits_deBruijn64tab).toArray t frozen | o=>o)).modify 1 (fun o=>match o with | .cells _ t frozen=>.cells (laidFlat 9 Rows.laid_internal_strconv_uint64pow10).toArray t frozen | o=>o)).modify 3 (fun o=>match o with | .cells _ t frozen=>.cells (laidFlat 9 Rows.laid_unicode_utf8_acceptRanges).toArray t frozen | o=>o)).modify 2 (fun o=>match o with | .cells _ t frozen=>.cells (laidFlat 9 Rows.laid_unicode_utf8_first).toArray t frozen | o=>o) }
theorem laid_met (os:Os):laidMet Tryz.prog Rows.guardFillUptoRow.laid ((laidWorld os).forCall (fun _ _=>0) ⟨#[],#[(.slice none 0 0:Value),(.int .i64 (0):Value),(.slice none 0 0:Value)],[]⟩).memory :=
  laidMet_of_run' 8 (by kernel_rfl) (by kernel_rfl)
theorem reads (os:Os) {H:Type} (enc:TypeId × Value→H):∃ places,DataW.whole enc Tryz.prog ((laidWorld os).forCall (fun _ _=>0) ⟨#[],#[(.slice none 0 0:Value),(.int .i64 (0):Value),(.slice none 0 0:Value)],[]⟩).memory Tryz.f3.params.toList Rows.guardFillSpec.vars false (#[(.slice none 0 0:Value),(.int .i64 (0):Value),(.slice none 0 0:Value)]:Array Value).toList 12=some ([.nil,.lit (.int .i64 0),.nil],[],places) :=
  ⟨[],by kernel_rfl⟩
set_option maxRecDepth 100000 in
theorem lifted (hplain:∀ (x0:(List T0)) (x1:Int) (x2:(List T5)),(x0.length≤bd∧∀ y∈x0,k_api_Decl y)→((Lit.int .i64 x1).wf=true)→(x2.length≤bd∧∀ y∈x2,k_api_Value y)→∃ N,law14_GuardFill N x0 x1 x2=some true) (os:Os) (started:os.Started) (H:Type) (enc:TypeId × Value→H) (F:Stop.Interp) :
    ReturnsInHanded {} Tryz.checked os 3 .any ((Rows.OpenSpec.upto Rows.guardFillSpec).preRow enc Tryz.prog Tryz.f3 Rows.guardFillUptoRow.domain false Rows.guardFillUptoRow.laid) (((Rows.OpenSpec.upto Rows.guardFillSpec).at F).post enc Tryz.prog Tryz.f3 false true false false):=by
  obtain ⟨places,hx⟩:=reads os enc
  refine returnsInHanded_of_row (C:=Tryz.checked) (s:=Rows.OpenSpec.upto Rows.guardFillSpec) own started (by kernel_rfl) Tryz.func3
    (witness_row_at (enc:=enc) (C:=Tryz.checked) false (laidWorld os) #[(.slice none 0 0:Value),(.int .i64 (0):Value),(.slice none 0 0:Value)] rfl (by kernel_rfl) (by kernel_rfl) (by kernel_rfl)
      (OpenSpec.preRow_of_cond 12 hx (by kernel_rfl) (fun k hk=>by cases hk;kernel_rfl) (by kernel_rfl) (laid_met os))) ?_
  intro W base args ds gs before hval hW _ hcond _ _ _ _
  exact contract hplain H enc W base args ds gs before hval hW (hcond _ rfl)
end Go.Proofs.YtngljfgicoflaaaGreatDoor
end
