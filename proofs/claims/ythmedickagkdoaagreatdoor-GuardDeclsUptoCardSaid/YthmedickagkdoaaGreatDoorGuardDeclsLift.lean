/- The contract of the law, and that its calls meet it. -/
import Derived.LaidLaws
import Derived.Test.YthmedickagkdoaaGreatDoorCards
import Derived.Test.YthmedickagkdoaaGreatDoorTie
import Derived.Test.YthmedickagkdoaaGreatDoorGuardDeclsWalk3
import Derived.Test.YthmedickagkdoaaGreatDoorGuardDeclsPlain2
set_option linter.all false
section
open Go Go.Kx Go.Proofs Go.ChangeShapes Go.WideShapes Go.ChangeAt Go.RowKit Gx
namespace Go.Proofs.YthmedickagkdoaaGreatDoor
theorem ZnE {H:Type} (d:DataW H):1<=Rows.uptoBulk d:=by
  cases d with
  | lit l=>cases l<;>simp [Rows.uptoBulk]
  | nil=>simp [Rows.uptoBulk]
  | ptr d=>simp [Rows.uptoBulk]
  | slice elems spare=>simp [Rows.uptoBulk]
  | agg parts=>simp [Rows.uptoBulk]
  | iface t d=>simp [Rows.uptoBulk]
  | map entries=>simp [Rows.uptoBulk]
  | held h=>simp [Rows.uptoBulk]
def bk:Bulk:=⟨fun d=>Rows.uptoBulk d,fun l=>Rows.uptoBulkAll l,fun b=>by simp [Rows.uptoBulk],fun e s=>by simp [Rows.uptoBulk],fun l=>by simp [Rows.uptoBulk],by simp [Rows.uptoBulkAll],fun d l=>by simp [Rows.uptoBulkAll],ZnE⟩
set_option maxRecDepth 20000 in
theorem Gz:Rdb Tryz.prog bk 9 rS (fun x=>x.size<=bd):=by exact Rdb.str Tryz.underlying9 (by kernel_rfl)
set_option maxRecDepth 20000 in
theorem Gy:Rdb Tryz.prog bk 3 (rI .i64) (fun x=>(Lit.int .i64 x).wf=true):=by exact Rdb.int Tryz.underlying3 (by kernel_rfl)
set_option maxRecDepth 20000 in
theorem ZrC:Rdb Tryz.prog bk 67 rR4 ZjZ:=by exact Rdb.struct (α:=T4) (f:=fun x=>(x.Zq,x.Lo,x.Hi)) (g:=fun y=>⟨y.1,y.2.1,y.2.2⟩) Tryz.underlying67 (by kernel_rfl) (fun _=>rfl) (RdF.cons Gy (RdF.cons Gy (RdF.one Gy) rfl) rfl)
set_option maxRecDepth 20000 in
theorem ZrD:Rdb Tryz.prog bk 69 YU ZeR:=by exact Rdb.struct (α:=T2) (f:=fun x=>(x.Zt,x.Zu)) (g:=fun y=>⟨y.1,y.2⟩) Tryz.underlying69 (by kernel_rfl) (fun _=>rfl) (RdF.cons Gz (RdF.one ZrC) rfl)
set_option maxRecDepth 20000 in
theorem Zrz:Rdb Tryz.prog bk 55 (Yx YU) (fun x=>x.length<=bd/\∀ y∈x,ZeR y):=by exact Rdb.slice Tryz.underlying55 (by kernel_rfl) ZrD
set_option maxRecDepth 20000 in
theorem ZkS:Rdb Tryz.prog bk 93 Lg ZeT:=by exact Rdb.struct (α:=Yq) (f:=fun x=>(x.Zq,x.Zv,x.Field,x.N)) (g:=fun y=>⟨y.1,y.2.1,y.2.2.1,y.2.2.2⟩) Tryz.underlying93 (by kernel_rfl) (fun _=>rfl) (RdF.cons Gy (RdF.cons Gz (RdF.cons Gz (RdF.one Gy) rfl) rfl) rfl)
set_option maxRecDepth 20000 in
theorem ZrE:Rdb Tryz.prog bk 95 Q6 ZeS:=by exact Rdb.struct (α:=Wu) (f:=fun x=>(x.Zw,x.Op,x.Zx)) (g:=fun y=>⟨y.1,y.2.1,y.2.2⟩) Tryz.underlying95 (by kernel_rfl) (fun _=>rfl) (RdF.cons ZkS (RdF.cons Gz (RdF.one ZkS) rfl) rfl)
set_option maxRecDepth 20000 in
theorem ZrA:Rdb Tryz.prog bk 56 (Yx Q6) (fun x=>x.length<=bd/\∀ y∈x,ZeS y):=by exact Rdb.slice Tryz.underlying56 (by kernel_rfl) ZrE
set_option maxRecDepth 20000 in
theorem ZrB:Rdb Tryz.prog bk 58 Xm SZ:=by exact Rdb.struct (α:=Yg) (f:=fun x=>(x.Zt,x.Zy,x.Zz)) (g:=fun y=>⟨y.1,y.2.1,y.2.2⟩) Tryz.underlying58 (by kernel_rfl) (fun _=>rfl) (RdF.cons Gz (RdF.cons Zrz (RdF.one ZrA) rfl) rfl)
set_option maxRecDepth 20000 in
theorem Zry:Rdb Tryz.prog bk 22 (Yx Xm) (fun x=>x.length<=bd/\∀ y∈x,SZ y):=by exact Rdb.slice Tryz.underlying22 (by kernel_rfl) ZrB
set_option maxRecDepth 20000 in
theorem contract (hplain:∀ (x0:(List Yg)),(x0.length<=bd/\∀ y∈x0,SZ y)->∃ N,S3 N x0=some true) (H:Type) (enc:TypeId × Value->H) (W:World) (base:Nat) (args:Array Value) (ds gs:List (DataW H)) (before:List MemPlace)
    (hval:∀ (j:Nat) t v,Tryz.f3.params[j]? = some t->args[j]? = some v->Value.okWide Tryz.prog W .any base t v)
    (hW:DataW.Whole enc Tryz.prog Tryz.f3.params.toList Rows.guardDeclsSpec.vars false W args.toList ds gs before) (hk:Rows.uptoSmall H (ds++gs)=true) (hl:laidMetH Tryz.prog Rows.guardDeclsUptoRow.laid W) :
    Calls Tryz.prog 3 args W fun e W'=>∃ v,e=.returned v/\Rows.guardDeclsSpec.post enc Tryz.prog Tryz.f3 false true false false W args v W':=by
  have hW0:=hW
  obtain ⟨p,q,hA0,hV,rfl,hz,hn⟩:=hW
  have hA:DataW.TrodAll enc Tryz.prog W 0 (fun _=>true) true [22] args.toList ds p:=hA0
  obtain ⟨v0,vs0,d0,ds0,p0,q0,hargs,rfl,rfl,h0,r0⟩:=trodAll_cons hA
  obtain ⟨e1,rfl,rfl⟩:=trodAll_nil r0
  subst e1
  obtain rfl:args=#[v0]:=by cases args;simpa using hargs
  obtain ⟨rfl,rfl⟩:=trodVars_none hV
  have hb:Rows.uptoBulkAll [d0]<=1048576:=of_decide_eq_true hk
  simp only [Rows.uptoBulkAll] at hb
  have ⟨n0,hf0⟩:=h0
  have ⟨x0,hr0,ok0⟩:=Zry.2 enc W n0 _ _ hf0 (by show Rows.uptoBulk d0<=1048576;omega)
  have o0:=Opened.start (Vz W) W
  have ⟨E1,o1⟩:=o0.step (Y8 Xm) hr0
  have ⟨N,hN⟩:=hplain x0 ok0
  have hT:=Zsx (name := "internal/strconv.uint64pow10") hl (by kernel_rfl) (i:=2) (by kernel_rfl) (g:=3) (by kernel_rfl) (t:=316) (by kernel_rfl) (e:=252) (n:=20) (by kernel_rfl) (by kernel_rfl) (by kernel_rfl) (by kernel_rfl) (k:=.u64) (zs:=Go.Lib.pow10Tab)
  have hc:=ZpX (A:=powT) (ZpW N x0 true hN) rfl rfl (fun _ h=>h) hT (E:=E1) (w:=W) o1.one (o1.V rfl)
  have a0:(((Y8 Xm):Opn _).cells 0 x0).map (ZZ E1)=v0.cells.toList:=(o1.args _ (List.mem_append.2 (.inr (List.mem_singleton.2 rfl)))).1
  have l0:=Znm (P:=Tryz.prog) (t:=22) (by kernel_rfl) (hval 0 22 v0 rfl rfl)
  rw [l0] at a0
  have b0:=(List.cons.inj a0).1
  have hc:Calls Tryz.prog 3 #[ZZ E1 (.sl 0)] W _:=hc
  rw [b0] at hc
  refine hc.mono fun e W' ⟨he,hx⟩=>⟨_,he,?_⟩
  exact ZpY (tb:=4) (by kernel_rfl) (by kernel_rfl) rfl (by kernel_rfl) (by kernel_rfl) hW0 rfl hx
theorem own:ownKnob Tryz.prog.godebug=none:=by kernel_rfl
/-- A world for the witness: the settled one, the listed variables holding what they are laid with. -/
noncomputable def ZeW (os:Os):World:={ World.holding Tryz.prog os ⟨#[],#[],[]⟩ with heap:=((((((World.holding Tryz.prog os ⟨#[],#[],[]⟩).heap).modify 4 (fun o=>match o with | .cells _ t frozen=>.cells (M7 9 Rows.laid_math_bits_deBruijn32tab).toArray t frozen | o=>o)).modify 5 (fun o=>match o with | .cells _ t frozen=>.cells (M7 9 Rows.laid_math_bits_deBruijn64tab).toArray t frozen | o=>o)).modify 3 (fun o=>match o with | .cells _ t frozen=>.cells (M7 9 Rows.laid_internal_strconv_uint64pow10).toArray t frozen | o=>o)).modify 2 (fun o=>match o with | .cells _ t frozen=>.cells (M7 9 Rows.laid_unicode_utf8_acceptRanges).toArray t frozen | o=>o)).modify 1 (fun o=>match o with | .cells _ t frozen=>.cells (M7 9 Rows.laid_unicode_utf8_first).toArray t frozen | o=>o) }
theorem ZpV (os:Os):laidMet Tryz.prog Rows.guardDeclsUptoRow.laid ((ZeW os).forCall (fun _ _=>0) ⟨#[],#[(.slice none 0 0:Value)],[]⟩).memory :=
  laidMet_of_run' 8 (by kernel_rfl) (by kernel_rfl)
theorem ZrF (os:Os) {H:Type} (enc:TypeId × Value->H):∃ places,DataW.whole enc Tryz.prog ((ZeW os).forCall (fun _ _=>0) ⟨#[],#[(.slice none 0 0:Value)],[]⟩).memory Tryz.f3.params.toList Rows.guardDeclsSpec.vars false (#[(.slice none 0 0:Value)]:Array Value).toList 12=some ([.nil],[],places) :=
  ⟨[],by kernel_rfl⟩
set_option maxRecDepth 100000 in
theorem Zp1 (hplain:∀ (x0:(List Yg)),(x0.length<=bd/\∀ y∈x0,SZ y)->∃ N,S3 N x0=some true) (os:Os) (started:os.Started) (H:Type) (enc:TypeId × Value->H) (F:Stop.Interp) :
    ReturnsInHanded {} Tryz.checked os 3 .any ((Rows.OpenSpec.upto Rows.guardDeclsSpec).preRow enc Tryz.prog Tryz.f3 Rows.guardDeclsUptoRow.domain false Rows.guardDeclsUptoRow.laid) (((Rows.OpenSpec.upto Rows.guardDeclsSpec).at F).post enc Tryz.prog Tryz.f3 false true false false):=by
  have ⟨places,hx⟩:=ZrF os enc
  refine returnsInHanded_of_row (C:=Tryz.checked) (s:=Rows.OpenSpec.upto Rows.guardDeclsSpec) own started (by kernel_rfl) Tryz.func3
    (witness_row_at (enc:=enc) (C:=Tryz.checked) false (ZeW os) #[(.slice none 0 0:Value)] rfl (by kernel_rfl) (by kernel_rfl) (by kernel_rfl)
      (OpenSpec.preRow_of_cond 12 hx (by kernel_rfl) (fun k hk=>by cases hk;kernel_rfl) (by kernel_rfl) (ZpV os))) ?_
  intro W base args ds gs before hval hW _ hcond _ h4 _ _
  exact contract hplain H enc W base args ds gs before hval hW (hcond _ rfl) h4
end Go.Proofs.YthmedickagkdoaaGreatDoor
end
