/- The contract of the law, and that its calls meet it. -/
import Derived.LaidLaws
import Derived.Test.YtpkbkcejjnemaaaGreatDoorCards
import Derived.Test.YtpkbkcejjnemaaaGreatDoorTie
import Derived.Test.YtpkbkcejjnemaaaGreatDoorExplainSuggestWalk2
import Derived.Test.YtpkbkcejjnemaaaGreatDoorExplainSuggestPlain4
set_option linter.all false
section
open Go Go.Kx Go.Proofs Go.ChangeShapes Go.WideShapes Go.ChangeAt Go.RowKit Gx
namespace Go.Proofs.YtpkbkcejjnemaaaGreatDoor
theorem ZmF {H:Type} (d:DataW H):1<=Rows.uptoBulk d:=by
  cases d with
  | lit l=>cases l<;>simp [Rows.uptoBulk]
  | nil=>simp [Rows.uptoBulk]
  | ptr d=>simp [Rows.uptoBulk]
  | slice elems spare=>simp [Rows.uptoBulk]
  | agg parts=>simp [Rows.uptoBulk]
  | iface t d=>simp [Rows.uptoBulk]
  | map entries=>simp [Rows.uptoBulk]
  | held h=>simp [Rows.uptoBulk]
def bk:Bulk:=⟨fun d=>Rows.uptoBulk d,fun l=>Rows.uptoBulkAll l,fun b=>by simp [Rows.uptoBulk],fun e s=>by simp [Rows.uptoBulk],fun l=>by simp [Rows.uptoBulk],by simp [Rows.uptoBulkAll],fun d l=>by simp [Rows.uptoBulkAll],ZmF⟩
set_option maxRecDepth 20000 in
theorem HZ:Rdb Tryz.prog bk 9 rS (fun x=>x.size<=bd):=by exact Rdb.str Tryz.underlying9 (by kernel_rfl)
set_option maxRecDepth 20000 in
theorem ZqM:Rdb Tryz.prog bk 22 (XO rS) (fun x=>x.length<=bd/\∀ y∈x,y.size<=bd):=by exact Rdb.slice Tryz.underlying22 (by kernel_rfl) HZ
set_option maxRecDepth 20000 in
theorem XR:Rdb Tryz.prog bk 3 (rI .i64) (fun x=>(Lit.int .i64 x).wf=true):=by exact Rdb.int Tryz.underlying3 (by kernel_rfl)
set_option maxRecDepth 20000 in
theorem ZqW:Rdb Tryz.prog bk 50 Zea Zit:=by exact Rdb.struct (α:=YV) (f:=fun x=>(x.Zt,x.Lo,x.Hi)) (g:=fun y=>⟨y.1,y.2.1,y.2.2⟩) Tryz.underlying50 (by kernel_rfl) (fun _=>rfl) (RdF.cons XR (RdF.cons XR (RdF.one XR) rfl) rfl)
set_option maxRecDepth 20000 in
theorem ZqX:Rdb Tryz.prog bk 52 XN ZdC:=by exact Rdb.struct (α:=T4) (f:=fun x=>(x.Zu,x.Zv)) (g:=fun y=>⟨y.1,y.2⟩) Tryz.underlying52 (by kernel_rfl) (fun _=>rfl) (RdF.cons HZ (RdF.one ZqW) rfl)
set_option maxRecDepth 20000 in
theorem ZqY:Rdb Tryz.prog bk 53 (XO XN) (fun x=>x.length<=bd/\∀ y∈x,ZdC y):=by exact Rdb.slice Tryz.underlying53 (by kernel_rfl) ZqX
set_option maxRecDepth 20000 in
theorem ZqJ:Rdb Tryz.prog bk 122 Xe ZdA:=by exact Rdb.struct (α:=T1) (f:=fun x=>(x.X,x.Y,x.C)) (g:=fun y=>⟨y.1,y.2.1,y.2.2⟩) Tryz.underlying122 (by kernel_rfl) (fun _=>rfl) (RdF.cons XR (RdF.cons XR (RdF.one XR) rfl) rfl)
set_option maxRecDepth 20000 in
theorem ZqZ:Rdb Tryz.prog bk 54 (XO Xe) (fun x=>x.length<=bd/\∀ y∈x,ZdA y):=by exact Rdb.slice Tryz.underlying54 (by kernel_rfl) ZqJ
set_option maxRecDepth 20000 in
theorem ZqK:Rdb Tryz.prog bk 123 (rP (rI .i64) (rI .i64)) (fun x=>((Lit.int .i64 x.1).wf=true)/\((Lit.int .i64 x.2).wf=true)):=by exact Rdb.array Tryz.underlying123 (by kernel_rfl) (RdA.cons XR (RdA.one XR))
set_option maxRecDepth 20000 in
theorem Zq0:Rdb Tryz.prog bk 55 (XO (rP (rI .i64) (rI .i64))) (fun x=>x.length<=bd/\∀ y∈x,((Lit.int .i64 y.1).wf=true)/\((Lit.int .i64 y.2).wf=true)):=by exact Rdb.slice Tryz.underlying55 (by kernel_rfl) ZqK
set_option maxRecDepth 20000 in
theorem Zq1:Rdb Tryz.prog bk 57 rR6 Zir:=by exact Rdb.struct (α:=T6) (f:=fun x=>(x.Zw,x.Zy)) (g:=fun y=>⟨y.1,y.2⟩) Tryz.underlying57 (by kernel_rfl) (fun _=>rfl) (RdF.cons ZqZ (RdF.one Zq0) rfl)
set_option maxRecDepth 20000 in
theorem Zq2:Rdb Tryz.prog bk 59 Ys HK:=by exact Rdb.struct (α:=T0) (f:=fun x=>(x.Zu,x.Zz,x.ZA,x.ZB)) (g:=fun y=>⟨y.1,y.2.1,y.2.2.1,y.2.2.2⟩) Tryz.underlying59 (by kernel_rfl) (fun _=>rfl) (RdF.cons HZ (RdF.cons ZqY (RdF.cons XR (RdF.one Zq1) rfl) rfl) rfl)
set_option maxRecDepth 20000 in
theorem ZqN:Rdb Tryz.prog bk 23 (XO Ys) (fun x=>x.length<=bd/\∀ y∈x,HK y):=by exact Rdb.slice Tryz.underlying23 (by kernel_rfl) Zq2
set_option maxRecDepth 20000 in
theorem Zq3:Rdb Tryz.prog bk 61 rR7 Zis:=by exact Rdb.struct (α:=T7) (f:=fun x=>(x.ZC,x.To,x.ZD)) (g:=fun y=>⟨y.1,y.2.1,y.2.2⟩) Tryz.underlying61 (by kernel_rfl) (fun _=>rfl) (RdF.cons XR (RdF.cons XR (RdF.one XR) rfl) rfl)
set_option maxRecDepth 20000 in
theorem HY:Rdb Tryz.prog bk 4 rB (fun x=>True):=by exact Rdb.bool Tryz.underlying4 (by kernel_rfl)
set_option maxRecDepth 20000 in
theorem Zq4:Rdb Tryz.prog bk 63 Xb ZdB:=by exact Rdb.struct (α:=T2) (f:=fun x=>(x.ZC,x.Act,x.To,x.ZE)) (g:=fun y=>⟨y.1,y.2.1,y.2.2.1,y.2.2.2⟩) Tryz.underlying63 (by kernel_rfl) (fun _=>rfl) (RdF.cons XR (RdF.cons Zq3 (RdF.cons XR (RdF.one HY) rfl) rfl) rfl)
set_option maxRecDepth 20000 in
theorem ZqO:Rdb Tryz.prog bk 24 (XO Xb) (fun x=>x.length<=bd/\∀ y∈x,ZdB y):=by exact Rdb.slice Tryz.underlying24 (by kernel_rfl) Zq4
set_option maxRecDepth 20000 in
theorem ZqL:Rdb Tryz.prog bk 152 YN BP:=by exact Rdb.struct (α:=XB) (f:=fun x=>(x.ZF,x.ZG,x.ZH)) (g:=fun y=>⟨y.1,y.2.1,y.2.2⟩) Tryz.underlying152 (by kernel_rfl) (fun _=>rfl) (RdF.cons XR (RdF.cons XR (RdF.one XR) rfl) rfl)
set_option maxRecDepth 20000 in
theorem Zjy:Rdb Tryz.prog bk 25 (XO YN) (fun x=>x.length<=bd/\∀ y∈x,BP y):=by exact Rdb.slice Tryz.underlying25 (by kernel_rfl) ZqL
set_option maxRecDepth 20000 in
theorem ZqP:Rdb Tryz.prog bk 27 rR5 Rj:=by exact Rdb.struct (α:=T5) (f:=fun x=>(x.Zu,x.ZI,x.ZJ,x.ZL,x.ZM,x.ZN,x.ZO,x.ZP)) (g:=fun y=>⟨y.1,y.2.1,y.2.2.1,y.2.2.2.1,y.2.2.2.2.1,y.2.2.2.2.2.1,y.2.2.2.2.2.2.1,y.2.2.2.2.2.2.2⟩) Tryz.underlying27 (by kernel_rfl) (fun _=>rfl) (RdF.cons HZ (RdF.cons ZqM (RdF.cons ZqN (RdF.cons XR (RdF.cons XR (RdF.cons XR (RdF.cons ZqO (RdF.one Zjy) rfl) rfl) rfl) rfl) rfl) rfl) rfl)
set_option maxRecDepth 20000 in
theorem ZqQ:Rdb Tryz.prog bk 28 (XO rB) (fun x=>x.length<=bd/\∀ y∈x,True):=by exact Rdb.slice Tryz.underlying28 (by kernel_rfl) HY
set_option maxRecDepth 20000 in
theorem Zq5:Rdb Tryz.prog bk 65 Wh ZdD:=by exact Rdb.struct (α:=T9) (f:=fun x=>(x.ZC,x.ZQ,x.ZR,x.ZD,x.To,x.ZE)) (g:=fun y=>⟨y.1,y.2.1,y.2.2.1,y.2.2.2.1,y.2.2.2.2.1,y.2.2.2.2.2⟩) Tryz.underlying65 (by kernel_rfl) (fun _=>rfl) (RdF.cons XR (RdF.cons HY (RdF.cons XR (RdF.cons XR (RdF.cons XR (RdF.one HY) rfl) rfl) rfl) rfl) rfl)
set_option maxRecDepth 20000 in
theorem ZqR:Rdb Tryz.prog bk 29 (XO Wh) (fun x=>x.length<=bd/\∀ y∈x,ZdD y):=by exact Rdb.slice Tryz.underlying29 (by kernel_rfl) Zq5
set_option maxRecDepth 20000 in
theorem ZqS:Rdb Tryz.prog bk 31 rR8 Pb:=by exact Rdb.struct (α:=T8) (f:=fun x=>(x.ZS,x.ZL,x.ZM,x.ZT,x.ZU,x.ZP)) (g:=fun y=>⟨y.1,y.2.1,y.2.2.1,y.2.2.2.1,y.2.2.2.2.1,y.2.2.2.2.2⟩) Tryz.underlying31 (by kernel_rfl) (fun _=>rfl) (RdF.cons XR (RdF.cons XR (RdF.cons XR (RdF.cons ZqQ (RdF.cons ZqR (RdF.one Zjy) rfl) rfl) rfl) rfl) rfl)
set_option maxRecDepth 20000 in
theorem Zq6:Rdb Tryz.prog bk 74 Ym ZdE:=by exact Rdb.struct (α:=T12) (f:=fun x=>(x.Zt,x.N,x.S)) (g:=fun y=>⟨y.1,y.2.1,y.2.2⟩) Tryz.underlying74 (by kernel_rfl) (fun _=>rfl) (RdF.cons XR (RdF.cons XR (RdF.one HZ) rfl) rfl)
set_option maxRecDepth 20000 in
theorem ZqU:Rdb Tryz.prog bk 35 (XO Ym) (fun x=>x.length<=bd/\∀ y∈x,ZdE y):=by exact Rdb.slice Tryz.underlying35 (by kernel_rfl) Zq6
set_option maxRecDepth 20000 in
theorem ZqV:Rdb Tryz.prog bk 48 Xf RX:=by exact Rdb.struct (α:=T3) (f:=fun x=>(x.ZS,x.ZQ,x.ZR,x.ZD,x.ZV)) (g:=fun y=>⟨y.1,y.2.1,y.2.2.1,y.2.2.2.1,y.2.2.2.2⟩) Tryz.underlying48 (by kernel_rfl) (fun _=>rfl) (RdF.cons XR (RdF.cons HY (RdF.cons XR (RdF.cons XR (RdF.one ZqU) rfl) rfl) rfl) rfl)
set_option maxRecDepth 20000 in
theorem ZqT:Rdb Tryz.prog bk 32 (XO Xf) (fun x=>x.length<=bd/\∀ y∈x,RX y):=by exact Rdb.slice Tryz.underlying32 (by kernel_rfl) ZqV
set_option maxRecDepth 20000 in
theorem contract (hplain:∀ (x0:T5) (x1:T8) (x2:(List T3)),Rj x0->Pb x1->(x2.length<=bd/\∀ y∈x2,RX y)->∃ N,Rk N x0 x1 x2=some true) (H:Type) (enc:TypeId × Value->H) (W:World) (base:Nat) (args:Array Value) (ds gs:List (DataW H)) (before:List MemPlace)
    (hval:∀ (j:Nat) t v,Tryz.f3.params[j]? = some t->args[j]? = some v->Value.okWide Tryz.prog W .any base t v)
    (hW:DataW.Whole enc Tryz.prog Tryz.f3.params.toList Rows.explainSuggestSpec.vars false W args.toList ds gs before) (hk:Rows.uptoSmall H (ds++gs)=true) (hl:laidMetH Tryz.prog Rows.explainSuggestUptoRow.laid W) :
    Calls Tryz.prog 3 args W fun e W'=>∃ v,e=.returned v/\Rows.explainSuggestSpec.post enc Tryz.prog Tryz.f3 false true false false W args v W':=by
  have hW0:=hW
  obtain ⟨p,q,hA0,hV,rfl,hz,hn⟩:=hW
  have hA:DataW.TrodAll enc Tryz.prog W 0 (fun _=>true) true [27,31,32] args.toList ds p:=hA0
  obtain ⟨v0,vs0,d0,ds0,p0,q0,hargs,rfl,rfl,h0,r0⟩:=trodAll_cons hA
  obtain ⟨v1,vs1,d1,ds1,p1,q1,e1,rfl,rfl,h1,r1⟩:=trodAll_cons r0
  subst e1
  obtain ⟨v2,vs2,d2,ds2,p2,q2,e2,rfl,rfl,h2,r2⟩:=trodAll_cons r1
  subst e2
  obtain ⟨e3,rfl,rfl⟩:=trodAll_nil r2
  subst e3
  obtain rfl:args=#[v0,v1,v2]:=by cases args;simpa using hargs
  obtain ⟨rfl,rfl⟩:=trodVars_none hV
  have hb:Rows.uptoBulkAll [d0,d1,d2]<=1048576:=of_decide_eq_true hk
  simp only [Rows.uptoBulkAll] at hb
  have ⟨n0,hf0⟩:=h0
  have ⟨x0,hr0,ok0⟩:=ZqP.2 enc W n0 _ _ hf0 (by show Rows.uptoBulk d0<=1048576;omega)
  have ⟨n1,hf1⟩:=h1
  have ⟨x1,hr1,ok1⟩:=ZqS.2 enc W n1 _ _ hf1 (by show Rows.uptoBulk d1<=1048576;omega)
  have ⟨n2,hf2⟩:=h2
  have ⟨x2,hr2,ok2⟩:=ZqT.2 enc W n2 _ _ hf2 (by show Rows.uptoBulk d2<=1048576;omega)
  have o0:=Opened.start (UY W) W
  have ⟨E1,o1⟩:=o0.step oO5 hr0
  have ⟨E2,o2⟩:=o1.step HT hr1
  have ⟨E3,o3⟩:=o2.step (WX Xf) hr2
  have ⟨N,hN⟩:=hplain x0 x1 x2 ok0 ok1 ok2
  have hT:=ZsL (name := "internal/strconv.uint64pow10") hl (by kernel_rfl) (i:=2) (by kernel_rfl) (g:=1) (by kernel_rfl) (t:=285) (by kernel_rfl) (e:=234) (n:=20) (by kernel_rfl) (by kernel_rfl) (by kernel_rfl) (by kernel_rfl) (k:=.u64) (zs:=Go.Lib.pow10Tab)
  have hc:=ZoT (A:=powT) (ZoS N x0 x1 x2 true hN) rfl rfl (fun _ h=>h) hT (E:=E3) (w:=W) o3.one (o3.V rfl)
  have a0:((oO5:YU _).cells 0 x0).map (Yd E3)=v0.cells.toList:=(o3.args _ (List.mem_append.2 (.inl (List.mem_append.2 (.inl (List.mem_append.2 (.inr (List.mem_singleton.2 rfl)))))))).1
  have a1:((HT:YU _).cells 4 x1).map (Yd E3)=v1.cells.toList:=(o3.args _ (List.mem_append.2 (.inl (List.mem_append.2 (.inr (List.mem_singleton.2 rfl)))))).1
  have a2:(((WX Xf):YU _).cells 7 x2).map (Yd E3)=v2.cells.toList:=(o3.args _ (List.mem_append.2 (.inr (List.mem_singleton.2 rfl)))).1
  obtain ⟨cs0,rfl⟩:=ZgN (P:=Tryz.prog) (t:=27) (by kernel_rfl) (hval 0 27 v0 rfl rfl)
  have b0:Value.agg ((((oO5:YU _).cells 0 x0).map (Yd E3)).toArray)=.agg cs0:=by rw [a0];rfl
  obtain ⟨cs1,rfl⟩:=ZgN (P:=Tryz.prog) (t:=31) (by kernel_rfl) (hval 1 31 v1 rfl rfl)
  have b1:Value.agg ((((HT:YU _).cells 4 x1).map (Yd E3)).toArray)=.agg cs1:=by rw [a1];rfl
  have l2:=Zmk (P:=Tryz.prog) (t:=32) (by kernel_rfl) (hval 2 32 v2 rfl rfl)
  rw [l2] at a2
  have b2:=(List.cons.inj a2).1
  have hc:Calls Tryz.prog 3 #[Value.agg ((((oO5:YU _).cells 0 x0).map (Yd E3)).toArray),Value.agg ((((HT:YU _).cells 4 x1).map (Yd E3)).toArray),Yd E3 (.sl 7)] W _:=hc
  rw [b0,b1,b2] at hc
  refine hc.mono fun e W' ⟨he,hx⟩=>⟨_,he,?_⟩
  exact ZoU (tb:=4) (by kernel_rfl) (by kernel_rfl) rfl (by kernel_rfl) (by kernel_rfl) hW0 rfl hx
theorem own:ownKnob Tryz.prog.godebug=none:=by kernel_rfl
/-- A world for the witness: the settled one, the listed variables holding what they are laid with. -/
noncomputable def ZdH (os:Os):World:={ World.holding Tryz.prog os ⟨#[],#[],[]⟩ with heap:=((((((World.holding Tryz.prog os ⟨#[],#[],[]⟩).heap).modify 2 (fun o=>match o with | .cells _ t frozen=>.cells (MQ 9 Rows.laid_math_bits_deBruijn32tab).toArray t frozen | o=>o)).modify 3 (fun o=>match o with | .cells _ t frozen=>.cells (MQ 9 Rows.laid_math_bits_deBruijn64tab).toArray t frozen | o=>o)).modify 1 (fun o=>match o with | .cells _ t frozen=>.cells (MQ 9 Rows.laid_internal_strconv_uint64pow10).toArray t frozen | o=>o)).modify 5 (fun o=>match o with | .cells _ t frozen=>.cells (MQ 9 Rows.laid_unicode_utf8_acceptRanges).toArray t frozen | o=>o)).modify 4 (fun o=>match o with | .cells _ t frozen=>.cells (MQ 9 Rows.laid_unicode_utf8_first).toArray t frozen | o=>o) }
theorem ZoR (os:Os):laidMet Tryz.prog Rows.explainSuggestUptoRow.laid ((ZdH os).forCall (fun _ _=>0) ⟨#[],#[(.agg #[.string .empty,.slice none 0 0,.slice none 0 0,.int .i64 (0),.int .i64 (0),.int .i64 (0),.slice none 0 0,.slice none 0 0]:Value),(.agg #[.int .i64 (0),.int .i64 (0),.int .i64 (0),.slice none 0 0,.slice none 0 0,.slice none 0 0]:Value),(.slice none 0 0:Value)],[]⟩).memory :=
  laidMet_of_run' 8 (by kernel_rfl) (by kernel_rfl)
theorem Zrc (os:Os) {H:Type} (enc:TypeId × Value->H):∃ places,DataW.whole enc Tryz.prog ((ZdH os).forCall (fun _ _=>0) ⟨#[],#[(.agg #[.string .empty,.slice none 0 0,.slice none 0 0,.int .i64 (0),.int .i64 (0),.int .i64 (0),.slice none 0 0,.slice none 0 0]:Value),(.agg #[.int .i64 (0),.int .i64 (0),.int .i64 (0),.slice none 0 0,.slice none 0 0,.slice none 0 0]:Value),(.slice none 0 0:Value)],[]⟩).memory Tryz.f3.params.toList Rows.explainSuggestSpec.vars false (#[(.agg #[.string .empty,.slice none 0 0,.slice none 0 0,.int .i64 (0),.int .i64 (0),.int .i64 (0),.slice none 0 0,.slice none 0 0]:Value),(.agg #[.int .i64 (0),.int .i64 (0),.int .i64 (0),.slice none 0 0,.slice none 0 0,.slice none 0 0]:Value),(.slice none 0 0:Value)]:Array Value).toList 12=some ([.agg [.lit (.string []),.nil,.nil,.lit (.int .i64 0),.lit (.int .i64 0),.lit (.int .i64 0),.nil,.nil],.agg [.lit (.int .i64 0),.lit (.int .i64 0),.lit (.int .i64 0),.nil,.nil,.nil],.nil],[],places) :=
  ⟨[],by kernel_rfl⟩
set_option maxRecDepth 100000 in
theorem ZoZ (hplain:∀ (x0:T5) (x1:T8) (x2:(List T3)),Rj x0->Pb x1->(x2.length<=bd/\∀ y∈x2,RX y)->∃ N,Rk N x0 x1 x2=some true) (os:Os) (started:os.Started) (H:Type) (enc:TypeId × Value->H) (F:Stop.Interp) :
    ReturnsInHanded {} Tryz.checked os 3 .any ((Rows.OpenSpec.upto Rows.explainSuggestSpec).preRow enc Tryz.prog Tryz.f3 Rows.explainSuggestUptoRow.domain false Rows.explainSuggestUptoRow.laid) (((Rows.OpenSpec.upto Rows.explainSuggestSpec).at F).post enc Tryz.prog Tryz.f3 false true false false):=by
  have ⟨places,hx⟩:=Zrc os enc
  refine returnsInHanded_of_row (C:=Tryz.checked) (s:=Rows.OpenSpec.upto Rows.explainSuggestSpec) own started (by kernel_rfl) Tryz.func3
    (witness_row_at (enc:=enc) (C:=Tryz.checked) false (ZdH os) #[(.agg #[.string .empty,.slice none 0 0,.slice none 0 0,.int .i64 (0),.int .i64 (0),.int .i64 (0),.slice none 0 0,.slice none 0 0]:Value),(.agg #[.int .i64 (0),.int .i64 (0),.int .i64 (0),.slice none 0 0,.slice none 0 0,.slice none 0 0]:Value),(.slice none 0 0:Value)] rfl (by kernel_rfl) (by kernel_rfl) (by kernel_rfl)
      (OpenSpec.preRow_of_cond 12 hx (by kernel_rfl) (fun k hk=>by cases hk;kernel_rfl) (by kernel_rfl) (ZoR os))) ?_
  intro W base args ds gs before hval hW _ hcond _ h4 _ _
  exact contract hplain H enc W base args ds gs before hval hW (hcond _ rfl) h4
end Go.Proofs.YtpkbkcejjnemaaaGreatDoor
end
