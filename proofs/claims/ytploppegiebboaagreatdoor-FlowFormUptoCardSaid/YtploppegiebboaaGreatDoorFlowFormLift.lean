/- The contract of the law, and that its calls meet it. -/
import Derived.LaidLaws
import Derived.Test.YtploppegiebboaaGreatDoorCards
import Derived.Test.YtploppegiebboaaGreatDoorTie
import Derived.Test.YtploppegiebboaaGreatDoorFlowFormWalk3
import Derived.Test.YtploppegiebboaaGreatDoorFlowFormPlain3
set_option linter.all false
open Go.Proofs.Tryz renaming prog→aB,f3→jo,checked→kF
open Nat renaming le_succ→cB
section
open Go Go.Kx Go.Proofs Go.ChangeShapes Go.WideShapes Go.ChangeAt Go.RowKit Gx
namespace Go.Proofs.YtploppegiebboaaGreatDoor
theorem Zn2 {H:Type} (d:DataW H):1<=Rows.uptoBulk d:=by
  cases d with
  | lit l=>cases l<;>simp [Rows.uptoBulk]
  | nil=>simp [Rows.uptoBulk]
  | ptr d=>simp [Rows.uptoBulk]
  | slice elems spare=>simp [Rows.uptoBulk]
  | agg parts=>simp [Rows.uptoBulk]
  | iface t d=>simp [Rows.uptoBulk]
  | map entries=>simp [Rows.uptoBulk]
  | held h=>simp [Rows.uptoBulk]
def bk:Bulk:=⟨fun d=>Rows.uptoBulk d,fun l=>Rows.uptoBulkAll l,fun b=>by simp [Rows.uptoBulk],fun e s=>by simp [Rows.uptoBulk],fun l=>by simp [Rows.uptoBulk],by simp [Rows.uptoBulkAll],fun d l=>by simp [Rows.uptoBulkAll],Zn2⟩
set_option maxRecDepth 20000 in
theorem S5:Rdb aB bk 9 rS (fun x=>x.size<=bd):=by exact Rdb.str Tryz.underlying9 (by kernel_rfl)
set_option maxRecDepth 20000 in
theorem Zla:Rdb aB bk 22 (YH rS) (fun x=>x.length<=bd/\∀ y∈x,y.size<=bd):=by exact Rdb.slice Tryz.underlying22 (by kernel_rfl) S5
set_option maxRecDepth 20000 in
theorem P2:Rdb aB bk 3 (rI .i64) (fun x=>(Lit.int .i64 x).wf=true):=by exact Rdb.int Tryz.underlying3 (by kernel_rfl)
set_option maxRecDepth 20000 in
theorem Zta:Rdb aB bk 136 rR7 Zj5:=by exact Rdb.struct (α:=T7) (f:=fun x=>(x.Zt,x.Lo,x.Hi)) (g:=fun y=>⟨y.1,y.2.1,y.2.2⟩) Tryz.underlying136 (by kernel_rfl) (fun _=>rfl) (RdF.cons P2 (RdF.cons P2 (RdF.one P2) rfl) rfl)
set_option maxRecDepth 20000 in
theorem Ztb:Rdb aB bk 138 XJ Zfe:=by exact Rdb.struct (α:=T3) (f:=fun x=>(x.Zu,x.Zv)) (g:=fun y=>⟨y.1,y.2⟩) Tryz.underlying138 (by kernel_rfl) (fun _=>rfl) (RdF.cons S5 (RdF.one Zta) rfl)
set_option maxRecDepth 20000 in
theorem Zte:Rdb aB bk 87 (YH XJ) (fun x=>x.length<=bd/\∀ y∈x,Zfe y):=by exact Rdb.slice Tryz.underlying87 (by kernel_rfl) Ztb
set_option maxRecDepth 20000 in
theorem Zlb:Rdb aB bk 99 Hl Zfh:=by exact Rdb.struct (α:=Y5) (f:=fun x=>(x.Zt,x.Zw,x.Field,x.N)) (g:=fun y=>⟨y.1,y.2.1,y.2.2.1,y.2.2.2⟩) Tryz.underlying99 (by kernel_rfl) (fun _=>rfl) (RdF.cons P2 (RdF.cons S5 (RdF.cons S5 (RdF.one P2) rfl) rfl) rfl)
set_option maxRecDepth 20000 in
theorem Zs9:Rdb aB bk 101 Hk Zff:=by exact Rdb.struct (α:=Ls) (f:=fun x=>(x.Zx,x.Op,x.Zy)) (g:=fun y=>⟨y.1,y.2.1,y.2.2⟩) Tryz.underlying101 (by kernel_rfl) (fun _=>rfl) (RdF.cons Zlb (RdF.cons S5 (RdF.one Zlb) rfl) rfl)
set_option maxRecDepth 20000 in
theorem Ztf:Rdb aB bk 88 (YH Hk) (fun x=>x.length<=bd/\∀ y∈x,Zff y):=by exact Rdb.slice Tryz.underlying88 (by kernel_rfl) Zs9
set_option maxRecDepth 20000 in
theorem Ztg:Rdb aB bk 90 UE Zfg:=by exact Rdb.struct (α:=Ve) (f:=fun x=>(x.Zu,x.Zz,x.ZA)) (g:=fun y=>⟨y.1,y.2.1,y.2.2⟩) Tryz.underlying90 (by kernel_rfl) (fun _=>rfl) (RdF.cons S5 (RdF.cons Zte (RdF.one Ztf) rfl) rfl)
set_option maxRecDepth 20000 in
theorem Ztc:Rdb aB bk 23 (YH UE) (fun x=>x.length<=bd/\∀ y∈x,Zfg y):=by exact Rdb.slice Tryz.underlying23 (by kernel_rfl) Ztg
set_option maxRecDepth 20000 in
theorem Zlc:∀ m,k6 aB bk m 93 Wa QM Qa
  | 0=>k6.zero (by kernel_rfl)
  | m+1=>by
    have ih:=Zlc m;have hs:=k6.struct (m:=m) (α:=Xq) (f:=fun x=>(x.Zt,x.ZB,x.To,x.Zu,x.As,x.ZC,x.ZD)) (g:=fun y=>⟨y.1,y.2.1,y.2.2.1,y.2.2.2.1,y.2.2.2.2.1,y.2.2.2.2.2.1,y.2.2.2.2.2.2⟩) Tryz.underlying93 (by kernel_rfl) (fun _=>rfl) (ke.cons (k6.of P2) (ke.cons (k6.of S5) (ke.cons (k6.of Zla) (ke.cons (k6.of S5) (ke.cons (k6.of S5) (ke.cons (k6.of P2) (ke.one ((k6.slice Tryz.underlying91 (by kernel_rfl) ((k6.slice Tryz.underlying24 (by kernel_rfl) ih).less (cB _))).less (cB _))) rfl) rfl) rfl) rfl) rfl) rfl);refine k6.conv hs rfl (fun F w x vs h=>(ZfP Zk8 F w x vs).2 h) (fun a h=>?_) (fun a=>?_)
    · have ⟨a0,a1,a2,a3,a4,a5,a6⟩:=a;simp only [QM];exact ⟨h.1,h.2.1,h.2.2.1,h.2.2.2.1,h.2.2.2.2.1,h.2.2.2.2.2.1,⟨h.2.2.2.2.2.2.1,Zj3 _ h.2.2.2.2.2.2.2⟩⟩
    · have ⟨a0,a1,a2,a3,a4,a5,a6⟩:=a;simp only [Qa];rw [Zmh];omega
set_option maxRecDepth 20000 in
theorem Zth:∀ m,k6 aB bk m 26 Uc QN Q5:=fun m=>by have hs:=(k6.struct (m:=m) (α:=Xp) (f:=fun x=>(x.Zu,x.ZE,x.ZF,x.ZG)) (g:=fun y=>⟨y.1,y.2.1,y.2.2.1,y.2.2.2⟩) Tryz.underlying26 (by kernel_rfl) (fun _=>rfl) (ke.cons (k6.of S5) (ke.cons (k6.of Zla) (ke.cons (k6.of Ztc) (ke.one ((k6.slice Tryz.underlying24 (by kernel_rfl) (Zlc _)).less (cB _))) rfl) rfl) rfl)).less (cB _);exact k6.conv hs rfl (fun _ _ _ _ h=>h) (fun a h=>h) (fun a=>by show Ue Qa a.ZG<=_;dsimp only;omega)
set_option maxRecDepth 20000 in
theorem Ztd:Rdb aB bk 26 Uc (fun x=>(QN x)/\Q5 x<=bd):=Rdb.ofW fun m=>by exact Zth m
set_option maxRecDepth 20000 in
theorem contract (hplain:∀ (x0:Xp),((QN x0)/\Q5 x0<=bd)->∃ N,RM N x0=some true) (H:Type) (enc:TypeId × Value->H) (W:World) (base:Nat) (args:Array Value) (ds gs:List (DataW H)) (before:List MemPlace)
    (hval:∀ (j:Nat) t v,jo.params[j]? = some t->args[j]? = some v->Value.okWide aB W .any base t v)
    (hW:DataW.Whole enc aB jo.params.toList Rows.flowFormSpec.vars false W args.toList ds gs before) (hk:Rows.uptoSmall H (ds++gs)=true) (hl:laidMetH aB Rows.flowFormUptoRow.laid W) :
    Calls aB 3 args W fun e W'=>∃ v,e=.returned v/\Rows.flowFormSpec.post enc aB jo false true false false W args v W':=by
  have hW0:=hW;obtain ⟨p,q,hA0,hV,rfl,hz,hn⟩:=hW;have hA:DataW.TrodAll enc aB W 0 (fun _=>true) true [26] args.toList ds p:=hA0;obtain ⟨v0,vs0,d0,ds0,p0,q0,hargs,rfl,rfl,h0,r0⟩:=trodAll_cons hA;obtain ⟨e1,rfl,rfl⟩:=trodAll_nil r0;subst e1;obtain rfl:args=#[v0]:=by cases args;simpa using hargs
  obtain ⟨rfl,rfl⟩:=trodVars_none hV;have hb:Rows.uptoBulkAll [d0]<=1048576:=of_decide_eq_true hk;simp only [Rows.uptoBulkAll] at hb;have ⟨n0,hf0⟩:=h0;have ⟨x0,hr0,ok0⟩:=Ztd.2 enc W n0 _ _ hf0 (by show Rows.uptoBulk d0<=1048576;omega);have o0:=Opened.start (Ui W) W;have ⟨E1,o1⟩:=o0.step Tz hr0;have ⟨N,hN⟩:=hplain x0 ok0;have hT:=Zup (name := "internal/strconv.uint64pow10") hl (by kernel_rfl) (i:=2) (by kernel_rfl) (g:=1) (by kernel_rfl) (t:=329) (by kernel_rfl) (e:=286) (n:=20) (by kernel_rfl) (by kernel_rfl) (by kernel_rfl) (by kernel_rfl) (k:=.u64) (zs:=Go.Lib.pow10Tab);have hc:=Zq4 (A:=kh) (Zq2 N x0 true hN) rfl rfl (fun _ h=>h) hT (E:=E1) (w:=W) o1.one (o1.V rfl);have a0:((Tz:kX _).cells 0 x0).map (Yn E1)=v0.cells.toList:=(o1.args _ (List.mem_append.2 (.inr (List.mem_singleton.2 rfl)))).1;obtain ⟨cs0,rfl⟩:=ZnH (P:=aB) (t:=26) (by kernel_rfl) (hval 0 26 v0 rfl rfl);have b0:Value.agg ((((Tz:kX _).cells 0 x0).map (Yn E1)).toArray)=.agg cs0:=by rw [a0];rfl
  have hc:Calls aB 3 #[Value.agg ((((Tz:kX _).cells 0 x0).map (Yn E1)).toArray)] W _:=hc;rw [b0] at hc;refine hc.mono fun e W' ⟨he,hx⟩=>⟨_,he,?_⟩
  exact Zq5 (tb:=4) (by kernel_rfl) (by kernel_rfl) rfl (by kernel_rfl) (by kernel_rfl) hW0 rfl hx
theorem own:ownKnob aB.godebug=none:=by kernel_rfl
/-- A world for the witness: the settled one, the listed variables holding what they are laid with. -/
noncomputable def Zfl (os:Os):World:={ World.holding aB os ⟨#[],#[],[]⟩ with heap:=((((((World.holding aB os ⟨#[],#[],[]⟩).heap).modify 4 (fun o=>match o with | .cells _ t frozen=>.cells (L6 9 Rows.laid_math_bits_deBruijn32tab).toArray t frozen | o=>o)).modify 5 (fun o=>match o with | .cells _ t frozen=>.cells (L6 9 Rows.laid_math_bits_deBruijn64tab).toArray t frozen | o=>o)).modify 1 (fun o=>match o with | .cells _ t frozen=>.cells (L6 9 Rows.laid_internal_strconv_uint64pow10).toArray t frozen | o=>o)).modify 3 (fun o=>match o with | .cells _ t frozen=>.cells (L6 9 Rows.laid_unicode_utf8_acceptRanges).toArray t frozen | o=>o)).modify 2 (fun o=>match o with | .cells _ t frozen=>.cells (L6 9 Rows.laid_unicode_utf8_first).toArray t frozen | o=>o) }
theorem Zq1 (os:Os):laidMet aB Rows.flowFormUptoRow.laid ((Zfl os).forCall (fun _ _=>0) ⟨#[],#[(.agg #[.string .empty,.slice none 0 0,.slice none 0 0,.slice none 0 0]:Value)],[]⟩).memory :=
  laidMet_of_run' 8 (by kernel_rfl) (by kernel_rfl)
theorem Zti (os:Os) {H:Type} (enc:TypeId × Value->H):∃ places,DataW.whole enc aB ((Zfl os).forCall (fun _ _=>0) ⟨#[],#[(.agg #[.string .empty,.slice none 0 0,.slice none 0 0,.slice none 0 0]:Value)],[]⟩).memory jo.params.toList Rows.flowFormSpec.vars false (#[(.agg #[.string .empty,.slice none 0 0,.slice none 0 0,.slice none 0 0]:Value)]:Array Value).toList 12=some ([.agg [.lit (.string []),.nil,.nil,.nil]],[],places) :=
  ⟨[],by kernel_rfl⟩
set_option maxRecDepth 100000 in
theorem Zq9 (hplain:∀ (x0:Xp),((QN x0)/\Q5 x0<=bd)->∃ N,RM N x0=some true) (os:Os) (started:os.Started) (H:Type) (enc:TypeId × Value->H) (F:Stop.Interp) :
    ReturnsInHanded {} kF os 3 .any ((Rows.OpenSpec.upto Rows.flowFormSpec).preRow enc aB jo Rows.flowFormUptoRow.domain false Rows.flowFormUptoRow.laid) (((Rows.OpenSpec.upto Rows.flowFormSpec).at F).post enc aB jo false true false false):=by
  have ⟨places,hx⟩:=Zti os enc;refine returnsInHanded_of_row (C:=kF) (s:=Rows.OpenSpec.upto Rows.flowFormSpec) own started (by kernel_rfl) Tryz.func3
    (witness_row_at (enc:=enc) (C:=kF) false (Zfl os) #[(.agg #[.string .empty,.slice none 0 0,.slice none 0 0,.slice none 0 0]:Value)] rfl (by kernel_rfl) (by kernel_rfl) (by kernel_rfl)
      (OpenSpec.preRow_of_cond 12 hx (by kernel_rfl) (fun k hk=>by cases hk;kernel_rfl) (by kernel_rfl) (Zq1 os))) ?_
  intro W base args ds gs before hval hW _ hcond _ h4 _ _;exact contract hplain H enc W base args ds gs before hval hW (hcond _ rfl) h4
end Go.Proofs.YtploppegiebboaaGreatDoor
end
