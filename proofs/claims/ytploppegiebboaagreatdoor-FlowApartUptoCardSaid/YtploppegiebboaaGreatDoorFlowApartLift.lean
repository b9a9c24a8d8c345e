/- The contract of the law, and that its calls meet it. -/
import Derived.LaidLaws
import Derived.Test.YtploppegiebboaaGreatDoorCards
import Derived.Test.YtploppegiebboaaGreatDoorTie
import Derived.Test.YtploppegiebboaaGreatDoorFlowApartWalk3
import Derived.Test.YtploppegiebboaaGreatDoorFlowApartPlain3
set_option linter.all false
open Go.Proofs.Tryz renaming prog→aB,checked→kP
open Nat renaming le_succ→cD
section
open Go Go.Kx Go.Proofs Go.ChangeShapes Go.WideShapes Go.ChangeAt Go.RowKit Gx
namespace Go.Proofs.YtploppegiebboaaGreatDoor
theorem Zor{H:Type}(d:DataW H):1<=Rows.uptoBulk d:=by
  cases d with
  |lit l=>cases l<;>simp[Rows.uptoBulk]
  |nil=>simp[Rows.uptoBulk]
  |ptr d=>simp[Rows.uptoBulk]
  |slice elems spare=>simp[Rows.uptoBulk]
  |agg parts=>simp[Rows.uptoBulk]
  |iface t d=>simp[Rows.uptoBulk]
  |map entries=>simp[Rows.uptoBulk]
  |held h=>simp[Rows.uptoBulk]
def bk:Bulk:=⟨fun d=>Rows.uptoBulk d,fun l=>Rows.uptoBulkAll l,fun b=>by simp[Rows.uptoBulk],fun e s=>by simp[Rows.uptoBulk],fun l=>by simp[Rows.uptoBulk],by simp[Rows.uptoBulkAll],fun d l=>by simp[Rows.uptoBulkAll],Zor⟩
set_option maxRecDepth 20000 in
theorem Rg:Rdb aB bk 9 rS (fun x=>x.size<=bd):=by exact Rdb.str Tryz.underlying9 (by kernel_rfl)
set_option maxRecDepth 20000 in
theorem ZlA:Rdb aB bk 22 (YH rS) (fun x=>x.length<=bd/\∀y∈x,y.size<=bd):=by exact Rdb.slice Tryz.underlying22 (by kernel_rfl) Rg
set_option maxRecDepth 20000 in
theorem Me:Rdb aB bk 3 (rI .i64) (fun x=>(Lit.int .i64 x).wf=true):=by exact Rdb.int Tryz.underlying3 (by kernel_rfl)
set_option maxRecDepth 20000 in
theorem Ztw:Rdb aB bk 136 rR7 Zkq:=by exact Rdb.struct (α:=T7) (f:=fun x=>(x.Zt,x.Lo,x.Hi)) (g:=fun y=>⟨y.1,y.2.1,y.2.2⟩) Tryz.underlying136 (by kernel_rfl) (fun _=>rfl) (RdF.cons Me (RdF.cons Me (RdF.one Me) rfl) rfl)
set_option maxRecDepth 20000 in
theorem Ztx:Rdb aB bk 138 XK Zfw:=by exact Rdb.struct (α:=T3) (f:=fun x=>(x.Zu,x.Zv)) (g:=fun y=>⟨y.1,y.2⟩) Tryz.underlying138 (by kernel_rfl) (fun _=>rfl) (RdF.cons Rg (RdF.one Ztw) rfl)
set_option maxRecDepth 20000 in
theorem ZtA:Rdb aB bk 87 (YH XK) (fun x=>x.length<=bd/\∀y∈x,Zfw y):=by exact Rdb.slice Tryz.underlying87 (by kernel_rfl) Ztx
set_option maxRecDepth 20000 in
theorem ZlB:Rdb aB bk 99 HB Zfz:=by exact Rdb.struct (α:=Y5) (f:=fun x=>(x.Zt,x.Zw,x.Field,x.N)) (g:=fun y=>⟨y.1,y.2.1,y.2.2.1,y.2.2.2⟩) Tryz.underlying99 (by kernel_rfl) (fun _=>rfl) (RdF.cons Me (RdF.cons Rg (RdF.cons Rg (RdF.one Me) rfl) rfl) rfl)
set_option maxRecDepth 20000 in
theorem Ztv:Rdb aB bk 101 HA Zfx:=by exact Rdb.struct (α:=LH) (f:=fun x=>(x.Zx,x.Op,x.Zy)) (g:=fun y=>⟨y.1,y.2.1,y.2.2⟩) Tryz.underlying101 (by kernel_rfl) (fun _=>rfl) (RdF.cons ZlB (RdF.cons Rg (RdF.one ZlB) rfl) rfl)
set_option maxRecDepth 20000 in
theorem ZtB:Rdb aB bk 88 (YH HA) (fun x=>x.length<=bd/\∀y∈x,Zfx y):=by exact Rdb.slice Tryz.underlying88 (by kernel_rfl) Ztv
set_option maxRecDepth 20000 in
theorem ZtC:Rdb aB bk 90 TM Zfy:=by exact Rdb.struct (α:=Vg) (f:=fun x=>(x.Zu,x.Zz,x.ZA)) (g:=fun y=>⟨y.1,y.2.1,y.2.2⟩) Tryz.underlying90 (by kernel_rfl) (fun _=>rfl) (RdF.cons Rg (RdF.cons ZtA (RdF.one ZtB) rfl) rfl)
set_option maxRecDepth 20000 in
theorem Zty:Rdb aB bk 23 (YH TM) (fun x=>x.length<=bd/\∀y∈x,Zfy y):=by exact Rdb.slice Tryz.underlying23 (by kernel_rfl) ZtC
set_option maxRecDepth 20000 in
theorem ZlC:∀m,km aB bk m 93 Wk QY Qi
  |0=>km.zero (by kernel_rfl)
  |m+1=>by
    have ih:=ZlC m;have hs:=km.struct (m:=m) (α:=Xq) (f:=fun x=>(x.Zt,x.ZB,x.To,x.Zu,x.As,x.ZC,x.ZD)) (g:=fun y=>⟨y.1,y.2.1,y.2.2.1,y.2.2.2.1,y.2.2.2.2.1,y.2.2.2.2.2.1,y.2.2.2.2.2.2⟩) Tryz.underlying93 (by kernel_rfl) (fun _=>rfl) (kr.cons (km.of Me) (kr.cons (km.of Rg) (kr.cons (km.of ZlA) (kr.cons (km.of Rg) (kr.cons (km.of Rg) (kr.cons (km.of Me) (kr.one ((km.slice Tryz.underlying91 (by kernel_rfl) ((km.slice Tryz.underlying24 (by kernel_rfl) ih).less (cD _))).less (cD _))) rfl) rfl) rfl) rfl) rfl) rfl);refine km.conv hs rfl (fun F w x vs h=>(Zf7 Zly F w x vs).2 h) (fun a h=>?_) (fun a=>?_)
    · have⟨a0,a1,a2,a3,a4,a5,a6⟩:=a;simp only[QY];exact⟨h.1,h.2.1,h.2.2.1,h.2.2.2.1,h.2.2.2.2.1,h.2.2.2.2.2.1,⟨h.2.2.2.2.2.2.1,Zko _ h.2.2.2.2.2.2.2⟩⟩
    · have⟨a0,a1,a2,a3,a4,a5,a6⟩:=a;simp only[Qi];rw[ZmG];omega
set_option maxRecDepth 20000 in
theorem ZtD:∀m,km aB bk m 26 Uk QZ Ph:=fun m=>by have hs:=(km.struct (m:=m) (α:=Xp) (f:=fun x=>(x.Zu,x.ZE,x.ZF,x.ZG)) (g:=fun y=>⟨y.1,y.2.1,y.2.2.1,y.2.2.2⟩) Tryz.underlying26 (by kernel_rfl) (fun _=>rfl) (kr.cons (km.of Rg) (kr.cons (km.of ZlA) (kr.cons (km.of Zty) (kr.one ((km.slice Tryz.underlying24 (by kernel_rfl) (ZlC _)).less (cD _))) rfl) rfl) rfl)).less (cD _);exact km.conv hs rfl (fun _ _ _ _ h=>h) (fun a h=>h) (fun a=>by show Um Qi a.ZG<=_;dsimp only;omega)
set_option maxRecDepth 20000 in
theorem Ztz:Rdb aB bk 26 Uk (fun x=>(QZ x)/\Ph x<=bd):=Rdb.ofW fun m=>by exact ZtD m
set_option maxRecDepth 20000 in
theorem contract(hplain:∀(x0:Xp),((QZ x0)/\Ph x0<=bd)->∃N,RV N x0=some true)(H:Type)(enc:TypeId×Value->H)(W:World)(base:Nat)(args:Array Value)(ds gs:List (DataW H))(before:List MemPlace)
    (hval:∀(j:Nat) t v,Tryz.f4.params[j]?=some t->args[j]?=some v->Value.okWide aB W .any base t v)
    (hW:DataW.Whole enc aB Tryz.f4.params.toList Rows.flowApartSpec.vars false W args.toList ds gs before) (hk:Rows.uptoSmall H (ds++gs)=true) (hl:laidMetH aB Rows.flowApartUptoRow.laid W) :
    Calls aB 4 args W fun e W'=>∃v,e=.returned v/\Rows.flowApartSpec.post enc aB Tryz.f4 false true false false W args v W':=by
  have hW0:=hW;obtain⟨p,q,hA0,hV,rfl,hz,hn⟩:=hW;have hA:DataW.TrodAll enc aB W 0 (fun _=>true) true [26] args.toList ds p:=hA0;obtain⟨v0,vs0,d0,ds0,p0,q0,hargs,rfl,rfl,h0,r0⟩:=trodAll_cons hA;obtain⟨e1,rfl,rfl⟩:=trodAll_nil r0;subst e1;obtain rfl:args=#[v0]:=by cases args;simpa using hargs
  obtain⟨rfl,rfl⟩:=trodVars_none hV;have hb:Rows.uptoBulkAll [d0]<=1048576:=of_decide_eq_true hk;simp only[Rows.uptoBulkAll]at hb;have⟨n0,hf0⟩:=h0;have⟨x0,hr0,ok0⟩:=Ztz.2 enc W n0 _ _ hf0 (by show Rows.uptoBulk d0<=1048576;omega);have o0:=Opened.start (Uq W) W;have⟨E1,o1⟩:=o0.step TI hr0;have⟨N,hN⟩:=hplain x0 ok0;have hT:=ZuL (name:= "internal/strconv.uint64pow10") hl (by kernel_rfl) (i:=2) (by kernel_rfl) (g:=1) (by kernel_rfl) (t:=329) (by kernel_rfl) (e:=286) (n:=20) (by kernel_rfl) (by kernel_rfl) (by kernel_rfl) (by kernel_rfl) (k:=.u64) (zs:=Go.Lib.pow10Tab);have hc:=Zrt (A:=kx) (Zrr N x0 true hN) rfl rfl (fun _ h=>h) hT (E:=E1) (w:=W) o1.one (o1.V rfl);have a0:((TI:ki _).cells 0 x0).map (Yn E1)=v0.cells.toList:=(o1.args _ (List.mem_append.2 (.inr (List.mem_singleton.2 rfl)))).1;obtain⟨cs0,rfl⟩:=Zn6 (P:=aB) (t:=26) (by kernel_rfl) (hval 0 26 v0 rfl rfl);have b0:Value.agg ((((TI:ki _).cells 0 x0).map (Yn E1)).toArray)=.agg cs0:=by rw[a0];rfl
  have hc:Calls aB 4 #[Value.agg ((((TI:ki _).cells 0 x0).map (Yn E1)).toArray)] W _:=hc;rw[b0]at hc;refine hc.mono fun e W' ⟨he,hx⟩=>⟨_,he,?_⟩
  exact Zru (tb:=4) (by kernel_rfl) (by kernel_rfl) rfl (by kernel_rfl) (by kernel_rfl) hW0 rfl hx
theorem own:ownKnob aB.godebug=none:=by kernel_rfl
/-- A world for the witness: the settled one, the listed variables holding what they are laid with. -/
noncomputable def ZfD (os:Os):World:={ World.holding aB os ⟨#[],#[],[]⟩ with heap:=((((((World.holding aB os ⟨#[],#[],[]⟩).heap).modify 4 (fun o=>match o with | .cells _ t frozen=>.cells (Hk 9 Rows.laid_math_bits_deBruijn32tab).toArray t frozen|o=>o)).modify 5 (fun o=>match o with | .cells _ t frozen=>.cells (Hk 9 Rows.laid_math_bits_deBruijn64tab).toArray t frozen|o=>o)).modify 1 (fun o=>match o with | .cells _ t frozen=>.cells (Hk 9 Rows.laid_internal_strconv_uint64pow10).toArray t frozen|o=>o)).modify 3 (fun o=>match o with | .cells _ t frozen=>.cells (Hk 9 Rows.laid_unicode_utf8_acceptRanges).toArray t frozen|o=>o)).modify 2 (fun o=>match o with | .cells _ t frozen=>.cells (Hk 9 Rows.laid_unicode_utf8_first).toArray t frozen|o=>o) }
theorem Zrq(os:Os):laidMet aB Rows.flowApartUptoRow.laid ((ZfD os).forCall (fun _ _=>0) ⟨#[],#[(.agg #[.string .empty,.slice none 0 0,.slice none 0 0,.slice none 0 0]:Value)],[]⟩).memory:=
  laidMet_of_run' 8 (by kernel_rfl) (by kernel_rfl)
theorem ZtE(os:Os){H:Type}(enc:TypeId×Value->H):∃places,DataW.whole enc aB ((ZfD os).forCall (fun _ _=>0) ⟨#[],#[(.agg #[.string .empty,.slice none 0 0,.slice none 0 0,.slice none 0 0]:Value)],[]⟩).memory Tryz.f4.params.toList Rows.flowApartSpec.vars false (#[(.agg #[.string .empty,.slice none 0 0,.slice none 0 0,.slice none 0 0]:Value)]:Array Value).toList 12=some ([.agg [.lit (.string []),.nil,.nil,.nil]],[],places):=
  ⟨[],by kernel_rfl⟩
set_option maxRecDepth 100000 in
theorem Zry(hplain:∀(x0:Xp),((QZ x0)/\Ph x0<=bd)->∃N,RV N x0=some true)(os:Os)(started:os.Started)(H:Type)(enc:TypeId×Value->H)(F:Stop.Interp) :
    ReturnsInHanded {} kP os 4 .any ((Rows.OpenSpec.upto Rows.flowApartSpec).preRow enc aB Tryz.f4 Rows.flowApartUptoRow.domain false Rows.flowApartUptoRow.laid) (((Rows.OpenSpec.upto Rows.flowApartSpec).at F).post enc aB Tryz.f4 false true false false):=by
  have⟨places,hx⟩:=ZtE os enc;refine returnsInHanded_of_row (C:=kP) (s:=Rows.OpenSpec.upto Rows.flowApartSpec) own started (by kernel_rfl) Tryz.func4
    (witness_row_at (enc:=enc) (C:=kP) false (ZfD os) #[(.agg #[.string .empty,.slice none 0 0,.slice none 0 0,.slice none 0 0]:Value)] rfl (by kernel_rfl) (by kernel_rfl) (by kernel_rfl)
      (OpenSpec.preRow_of_cond 12 hx (by kernel_rfl) (fun k hk=>by cases hk;kernel_rfl) (by kernel_rfl) (Zrq os))) ?_
  intro W base args ds gs before hval hW _ hcond _ h4 _ _;exact contract hplain H enc W base args ds gs before hval hW (hcond _ rfl) h4
end Go.Proofs.YtploppegiebboaaGreatDoor
end
