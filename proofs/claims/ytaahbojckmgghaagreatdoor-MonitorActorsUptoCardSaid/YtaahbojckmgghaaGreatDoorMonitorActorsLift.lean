/- The contract of the law, and that its calls meet it. -/
import Derived.LaidLaws
import Derived.Test.YtaahbojckmgghaaGreatDoorCards
import Derived.Test.YtaahbojckmgghaaGreatDoorTie
import Derived.Test.YtaahbojckmgghaaGreatDoorMonitorActorsWalk2
import Derived.Test.YtaahbojckmgghaaGreatDoorMonitorActorsPlain3
set_option linter.all false
section
open Go Go.Kx Go.Proofs Go.ChangeShapes Go.WideShapes Go.ChangeAt Go.RowKit Gx
namespace Go.Proofs.YtaahbojckmgghaaGreatDoor
theorem Zun {H:Type} (d:DataW H):1≤Rows.uptoBulk d:=by
  cases d with
  | lit l=>cases l<;>simp [Rows.uptoBulk]
  | nil=>simp [Rows.uptoBulk]
  | ptr d=>simp [Rows.uptoBulk]
  | slice elems spare=>simp [Rows.uptoBulk]
  | agg parts=>simp [Rows.uptoBulk]
  | iface t d=>simp [Rows.uptoBulk]
  | map entries=>simp [Rows.uptoBulk]
  | held h=>simp [Rows.uptoBulk]
def bk:Bulk:=⟨fun d=>Rows.uptoBulk d,fun l=>Rows.uptoBulkAll l,fun b=>by simp [Rows.uptoBulk],fun e s=>by simp [Rows.uptoBulk],fun l=>by simp [Rows.uptoBulk],by simp [Rows.uptoBulkAll],fun d l=>by simp [Rows.uptoBulkAll],Zun⟩
set_option maxRecDepth 20000 in
theorem RJ:Rdb Tryz.prog bk 9 rS (fun x=>x.size≤bd):=by exact Rdb.str Tryz.underlying9 (by kernel_rfl)
set_option maxRecDepth 20000 in
theorem Zls:Rdb Tryz.prog bk 22 (Yf rS) (fun x=>x.length≤bd∧∀ y∈x,y.size≤bd):=by exact Rdb.slice Tryz.underlying22 (by kernel_rfl) RJ
set_option maxRecDepth 20000 in
theorem YB:Rdb Tryz.prog bk 3 (rI .i64) (fun x=>(Lit.int .i64 x).wf=true):=by exact Rdb.int Tryz.underlying3 (by kernel_rfl)
set_option maxRecDepth 20000 in
theorem ZhI:Rdb Tryz.prog bk 97 ZcL ZfQ:=by exact Rdb.struct (α:=Yg) (f:=fun x=>(x.Kind,x.Lo,x.Hi)) (g:=fun y=>⟨y.1,y.2.1,y.2.2⟩) Tryz.underlying97 (by kernel_rfl) (fun _=>rfl) (RdF.cons YB (RdF.cons YB (RdF.one YB) rfl) rfl)
set_option maxRecDepth 20000 in
theorem ZsI:Rdb Tryz.prog bk 99 Y7 Zfs:=by exact Rdb.struct (α:=T4) (f:=fun x=>(x.Name,x.Sort')) (g:=fun y=>⟨y.1,y.2⟩) Tryz.underlying99 (by kernel_rfl) (fun _=>rfl) (RdF.cons RJ (RdF.one ZhI) rfl)
set_option maxRecDepth 20000 in
theorem Zpr:Rdb Tryz.prog bk 100 (Yf Y7) (fun x=>x.length≤bd∧∀ y∈x,Zfs y):=by exact Rdb.slice Tryz.underlying100 (by kernel_rfl) ZsI
set_option maxRecDepth 20000 in
theorem ZmA:Rdb Tryz.prog bk 191 Yy Zex:=by exact Rdb.struct (α:=T1) (f:=fun x=>(x.X,x.Y,x.C)) (g:=fun y=>⟨y.1,y.2.1,y.2.2⟩) Tryz.underlying191 (by kernel_rfl) (fun _=>rfl) (RdF.cons YB (RdF.cons YB (RdF.one YB) rfl) rfl)
set_option maxRecDepth 20000 in
theorem ZrA:Rdb Tryz.prog bk 101 (Yf Yy) (fun x=>x.length≤bd∧∀ y∈x,Zex y):=by exact Rdb.slice Tryz.underlying101 (by kernel_rfl) ZmA
set_option maxRecDepth 20000 in
theorem Zug:Rdb Tryz.prog bk 216 (rP (rI .i64) (rI .i64)) (fun x=>((Lit.int .i64 x.1).wf=true)∧((Lit.int .i64 x.2).wf=true)):=by exact Rdb.array Tryz.underlying216 (by kernel_rfl) (RdA.cons YB (RdA.one YB))
set_option maxRecDepth 20000 in
theorem ZrY:Rdb Tryz.prog bk 102 (Yf (rP (rI .i64) (rI .i64))) (fun x=>x.length≤bd∧∀ y∈x,((Lit.int .i64 y.1).wf=true)∧((Lit.int .i64 y.2).wf=true)):=by exact Rdb.slice Tryz.underlying102 (by kernel_rfl) Zug
set_option maxRecDepth 20000 in
theorem Zk4:Rdb Tryz.prog bk 104 rR6 Ziu:=by exact Rdb.struct (α:=T6) (f:=fun x=>(x.Diffs,x.Equals)) (g:=fun y=>⟨y.1,y.2⟩) Tryz.underlying104 (by kernel_rfl) (fun _=>rfl) (RdF.cons ZrA (RdF.one ZrY) rfl)
set_option maxRecDepth 20000 in
theorem Zog:Rdb Tryz.prog bk 106 ZQ Gy:=by exact Rdb.struct (α:=T0) (f:=fun x=>(x.Name,x.Fields,x.First,x.Guard)) (g:=fun y=>⟨y.1,y.2.1,y.2.2.1,y.2.2.2⟩) Tryz.underlying106 (by kernel_rfl) (fun _=>rfl) (RdF.cons RJ (RdF.cons Zpr (RdF.cons YB (RdF.one Zk4) rfl) rfl) rfl)
set_option maxRecDepth 20000 in
theorem ZrN:Rdb Tryz.prog bk 23 (Yf ZQ) (fun x=>x.length≤bd∧∀ y∈x,Gy y):=by exact Rdb.slice Tryz.underlying23 (by kernel_rfl) Zog
set_option maxRecDepth 20000 in
theorem Zsn:Rdb Tryz.prog bk 108 rR7 Zkw:=by exact Rdb.struct (α:=T7) (f:=fun x=>(x.From,x.To,x.Label)) (g:=fun y=>⟨y.1,y.2.1,y.2.2⟩) Tryz.underlying108 (by kernel_rfl) (fun _=>rfl) (RdF.cons YB (RdF.cons YB (RdF.one YB) rfl) rfl)
set_option maxRecDepth 20000 in
theorem BS:Rdb Tryz.prog bk 4 rB (fun x=>True):=by exact Rdb.bool Tryz.underlying4 (by kernel_rfl)
set_option maxRecDepth 20000 in
theorem ZsW:Rdb Tryz.prog bk 110 YQ ZfU:=by exact Rdb.struct (α:=T2) (f:=fun x=>(x.From,x.Act,x.To,x.Again)) (g:=fun y=>⟨y.1,y.2.1,y.2.2.1,y.2.2.2⟩) Tryz.underlying110 (by kernel_rfl) (fun _=>rfl) (RdF.cons YB (RdF.cons Zsn (RdF.cons YB (RdF.one BS) rfl) rfl) rfl)
set_option maxRecDepth 20000 in
theorem ZrT:Rdb Tryz.prog bk 24 (Yf YQ) (fun x=>x.length≤bd∧∀ y∈x,ZfU y):=by exact Rdb.slice Tryz.underlying24 (by kernel_rfl) ZsW
set_option maxRecDepth 20000 in
theorem ZmW:Rdb Tryz.prog bk 171 Z8 Zbq:=by exact Rdb.struct (α:=W5) (f:=fun x=>(x.State,x.Ticks,x.Else)) (g:=fun y=>⟨y.1,y.2.1,y.2.2⟩) Tryz.underlying171 (by kernel_rfl) (fun _=>rfl) (RdF.cons YB (RdF.cons YB (RdF.one YB) rfl) rfl)
set_option maxRecDepth 20000 in
theorem Zif:Rdb Tryz.prog bk 25 (Yf Z8) (fun x=>x.length≤bd∧∀ y∈x,Zbq y):=by exact Rdb.slice Tryz.underlying25 (by kernel_rfl) ZmW
set_option maxRecDepth 20000 in
theorem ZtH:Rdb Tryz.prog bk 27 rR5 DQ:=by exact Rdb.struct (α:=T5) (f:=fun x=>(x.Name,x.Roles,x.Decls,x.States,x.Start,x.End,x.Edges,x.Timeouts)) (g:=fun y=>⟨y.1,y.2.1,y.2.2.1,y.2.2.2.1,y.2.2.2.2.1,y.2.2.2.2.2.1,y.2.2.2.2.2.2.1,y.2.2.2.2.2.2.2⟩) Tryz.underlying27 (by kernel_rfl) (fun _=>rfl) (RdF.cons RJ (RdF.cons Zls (RdF.cons ZrN (RdF.cons YB (RdF.cons YB (RdF.cons YB (RdF.cons ZrT (RdF.one Zif) rfl) rfl) rfl) rfl) rfl) rfl) rfl)
set_option maxRecDepth 20000 in
theorem Znw:Rdb Tryz.prog bk 28 (Yf rB) (fun x=>x.length≤bd∧∀ y∈x,True):=by exact Rdb.slice Tryz.underlying28 (by kernel_rfl) BS
set_option maxRecDepth 20000 in
theorem Zpc:Rdb Tryz.prog bk 84 YL ZeH:=by exact Rdb.struct (α:=T9) (f:=fun x=>(x.From,x.Send,x.Peer,x.Label,x.To,x.Again)) (g:=fun y=>⟨y.1,y.2.1,y.2.2.1,y.2.2.2.1,y.2.2.2.2.1,y.2.2.2.2.2⟩) Tryz.underlying84 (by kernel_rfl) (fun _=>rfl) (RdF.cons YB (RdF.cons BS (RdF.cons YB (RdF.cons YB (RdF.cons YB (RdF.one BS) rfl) rfl) rfl) rfl) rfl)
set_option maxRecDepth 20000 in
theorem Zm4:Rdb Tryz.prog bk 29 (Yf YL) (fun x=>x.length≤bd∧∀ y∈x,ZeH y):=by exact Rdb.slice Tryz.underlying29 (by kernel_rfl) Zpc
set_option maxRecDepth 20000 in
theorem ZsE:Rdb Tryz.prog bk 31 rR8 ZdM:=by exact Rdb.struct (α:=T8) (f:=fun x=>(x.Role,x.States,x.Start,x.Finals,x.Moves,x.Timeouts)) (g:=fun y=>⟨y.1,y.2.1,y.2.2.1,y.2.2.2.1,y.2.2.2.2.1,y.2.2.2.2.2⟩) Tryz.underlying31 (by kernel_rfl) (fun _=>rfl) (RdF.cons YB (RdF.cons YB (RdF.cons YB (RdF.cons Znw (RdF.cons Zm4 (RdF.one Zif) rfl) rfl) rfl) rfl) rfl)
set_option maxRecDepth 20000 in
theorem Zjm:Rdb Tryz.prog bk 88 Zw Zbm:=by exact Rdb.struct (α:=Zk) (f:=fun x=>(x.Kind,x.N,x.S)) (g:=fun y=>⟨y.1,y.2.1,y.2.2⟩) Tryz.underlying88 (by kernel_rfl) (fun _=>rfl) (RdF.cons YB (RdF.cons YB (RdF.one RJ) rfl) rfl)
set_option maxRecDepth 20000 in
theorem Zrr:Rdb Tryz.prog bk 131 Y6 Zfx:=by exact Rdb.struct (α:=Tf) (f:=fun x=>(x.Name,x.Sort',x.Init)) (g:=fun y=>⟨y.1,y.2.1,y.2.2⟩) Tryz.underlying131 (by kernel_rfl) (fun _=>rfl) (RdF.cons RJ (RdF.cons ZhI (RdF.one Zjm) rfl) rfl)
set_option maxRecDepth 20000 in
theorem Znq:Rdb Tryz.prog bk 45 (Yf Y6) (fun x=>x.length≤bd∧∀ y∈x,Zfx y):=by exact Rdb.slice Tryz.underlying45 (by kernel_rfl) Zrr
set_option maxRecDepth 20000 in
theorem ZtP:Rdb Tryz.prog bk 147 Xw Zfj:=by exact Rdb.struct (α:=L9) (f:=fun x=>(x.Peer,x.Label,x.Entry)) (g:=fun y=>⟨y.1,y.2.1,y.2.2⟩) Tryz.underlying147 (by kernel_rfl) (fun _=>rfl) (RdF.cons YB (RdF.cons YB (RdF.one YB) rfl) rfl)
set_option maxRecDepth 20000 in
theorem Zov:Rdb Tryz.prog bk 46 (Yf Xw) (fun x=>x.length≤bd∧∀ y∈x,Zfj y):=by exact Rdb.slice Tryz.underlying46 (by kernel_rfl) ZtP
set_option maxRecDepth 20000 in
theorem ZmN:Rdb Tryz.prog bk 177 Xx ZfD:=by exact Rdb.struct (α:=U2) (f:=fun x=>(x.Peer,x.Label,x.When,x.Args)) (g:=fun y=>⟨y.1,y.2.1,y.2.2.1,y.2.2.2⟩) Tryz.underlying177 (by kernel_rfl) (fun _=>rfl) (RdF.cons YB (RdF.cons YB (RdF.cons YB (RdF.one YB) rfl) rfl) rfl)
set_option maxRecDepth 20000 in
theorem ZnE:Rdb Tryz.prog bk 47 (Yf Xx) (fun x=>x.length≤bd∧∀ y∈x,ZfD y):=by exact Rdb.slice Tryz.underlying47 (by kernel_rfl) ZmN
set_option maxRecDepth 20000 in
theorem ZlZ:Rdb Tryz.prog bk 129 Xz Zfe:=by exact Rdb.struct (α:=Wy) (f:=fun x=>(x.Op,x.N,x.S)) (g:=fun y=>⟨y.1,y.2.1,y.2.2⟩) Tryz.underlying129 (by kernel_rfl) (fun _=>rfl) (RdF.cons YB (RdF.cons YB (RdF.one RJ) rfl) rfl)
set_option maxRecDepth 20000 in
theorem ZmQ:Rdb Tryz.prog bk 48 (Yf Xz) (fun x=>x.length≤bd∧∀ y∈x,Zfe y):=by exact Rdb.slice Tryz.underlying48 (by kernel_rfl) ZlZ
set_option maxRecDepth 20000 in
theorem Zo2:Rdb Tryz.prog bk 50 ZdH ZeW:=by exact Rdb.struct (α:=Z6) (f:=fun x=>(x.Name,x.Role,x.Vars,x.Handlers,x.Offers,x.Code)) (g:=fun y=>⟨y.1,y.2.1,y.2.2.1,y.2.2.2.1,y.2.2.2.2.1,y.2.2.2.2.2⟩) Tryz.underlying50 (by kernel_rfl) (fun _=>rfl) (RdF.cons RJ (RdF.cons YB (RdF.cons Znq (RdF.cons Zov (RdF.cons ZnE (RdF.one ZmQ) rfl) rfl) rfl) rfl) rfl)
set_option maxRecDepth 20000 in
theorem Zng:Rdb Tryz.prog bk 52 Zkm LB:=by exact Rdb.struct (α:=Z7) (f:=fun x=>(x.G,x.M,x.P)) (g:=fun y=>⟨y.1,y.2.1,y.2.2⟩) Tryz.underlying52 (by kernel_rfl) (fun _=>rfl) (RdF.cons ZtH (RdF.cons ZsE (RdF.one Zo2) rfl) rfl)
set_option maxRecDepth 20000 in
theorem ZqP:Rdb Tryz.prog bk 5 (rI .u8) (fun x=>(Lit.int .u8 x).wf=true):=by exact Rdb.int Tryz.underlying5 (by kernel_rfl)
set_option maxRecDepth 20000 in
theorem Zqt:Rdb Tryz.prog bk 35 (Yf Zw) (fun x=>x.length≤bd∧∀ y∈x,Zbm y):=by exact Rdb.slice Tryz.underlying35 (by kernel_rfl) Zjm
set_option maxRecDepth 20000 in
theorem Znk:Rdb Tryz.prog bk 57 Sk RL:=by exact Rdb.struct (α:=XA) (f:=fun x=>(x.Send,x.Waited,x.Pick,x.Values)) (g:=fun y=>⟨y.1,y.2.1,y.2.2.1,y.2.2.2⟩) Tryz.underlying57 (by kernel_rfl) (fun _=>rfl) (RdF.cons BS (RdF.cons YB (RdF.cons ZqP (RdF.one Zqt) rfl) rfl) rfl)
set_option maxRecDepth 20000 in
theorem Zuf:Rdb Tryz.prog bk 53 (Yf Sk) (fun x=>x.length≤bd∧∀ y∈x,RL y):=by exact Rdb.slice Tryz.underlying53 (by kernel_rfl) Znk
set_option maxRecDepth 20000 in
theorem contract (hplain:∀ (x0:Z7) (x1:(List XA)),LB x0→(x1.length≤bd∧∀ y∈x1,RL y)→∃ N,SX N x0 x1=some true) (H:Type) (enc:TypeId × Value→H) (W:World) (base:Nat) (args:Array Value) (ds gs:List (DataW H)) (before:List MemPlace)
    (hval:∀ (j:Nat) t v,Tryz.f4.params[j]? = some t→args[j]? = some v→Value.okWide Tryz.prog W .any base t v)
    (hW:DataW.Whole enc Tryz.prog Tryz.f4.params.toList Rows.monitorActorsSpec.vars false W args.toList ds gs before) (hk:Rows.uptoSmall H (ds++gs)=true) :
    Calls Tryz.prog 4 args W fun e W'=>∃ v,e=.returned v∧Rows.monitorActorsSpec.post enc Tryz.prog Tryz.f4 false true false false W args v W':=by
  have hW0:=hW
  obtain ⟨p,q,hA0,hV,rfl,hz,hn⟩:=hW
  have hA:DataW.TrodAll enc Tryz.prog W 0 (fun _=>true) true [52,53] args.toList ds p:=hA0
  obtain ⟨v0,vs0,d0,ds0,p0,q0,hargs,rfl,rfl,h0,r0⟩:=trodAll_cons hA
  obtain ⟨v1,vs1,d1,ds1,p1,q1,e1,rfl,rfl,h1,r1⟩:=trodAll_cons r0
  subst e1
  obtain ⟨e2,rfl,rfl⟩:=trodAll_nil r1
  subst e2
  obtain rfl:args=#[v0,v1]:=by cases args;simpa using hargs
  obtain ⟨rfl,rfl⟩:=trodVars_none hV
  have hb:Rows.uptoBulkAll [d0,d1]≤1048576:=of_decide_eq_true hk
  simp only [Rows.uptoBulkAll] at hb
  obtain ⟨n0,hf0⟩:=h0
  obtain ⟨x0,hr0,ok0⟩:=Zng.2 enc W n0 _ _ hf0 (by show Rows.uptoBulk d0≤1048576;omega)
  obtain ⟨n1,hf1⟩:=h1
  obtain ⟨x1,hr1,ok1⟩:=Zuf.2 enc W n1 _ _ hf1 (by show Rows.uptoBulk d1≤1048576;omega)
  have o0:=Opened.start (Sp W) W
  obtain ⟨E1,o1⟩:=o0.step Zb9 hr0
  obtain ⟨E2,o2⟩:=o1.step (YK Sk) hr1
  obtain ⟨N,hN⟩:=hplain x0 x1 ok0 ok1
  have hc:=Zk6 (Zq9 N x0 x1 true hN) rfl rfl (E:=E2) (w:=W) o2.one (o2.V rfl)
  have a0:((Zb9:Z2 _).cells 0 x0).map (Zu E2)=v0.cells.toList:=(o2.args _ (List.mem_append.2 (.inl (List.mem_append.2 (.inr (List.mem_singleton.2 rfl)))))).1
  have a1:(((YK Sk):Z2 _).cells 11 x1).map (Zu E2)=v1.cells.toList:=(o2.args _ (List.mem_append.2 (.inr (List.mem_singleton.2 rfl)))).1
  obtain ⟨cs0,rfl⟩:=Zn1 (P:=Tryz.prog) (t:=52) (by kernel_rfl) (hval 0 52 v0 rfl rfl)
  have b0:Value.agg ((((Zb9:Z2 _).cells 0 x0).map (Zu E2)).toArray)=.agg cs0:=by rw [a0];rfl
  have l1:=Zqd (P:=Tryz.prog) (t:=53) (by kernel_rfl) (hval 1 53 v1 rfl rfl)
  rw [l1] at a1
  have b1:=(List.cons.inj a1).1
  have hc:Calls Tryz.prog 4 #[Value.agg ((((Zb9:Z2 _).cells 0 x0).map (Zu E2)).toArray),Zu E2 (.sl 11)] W _:=hc
  rw [b0,b1] at hc
  refine hc.mono fun e W' ⟨he,hx⟩=>⟨_,he,?_⟩
  exact Zq3 (tb:=4) (by kernel_rfl) (by kernel_rfl) rfl (by kernel_rfl) (by kernel_rfl) hW0 rfl hx
theorem own:ownKnob Tryz.prog.godebug=none:=by kernel_rfl
/-- A world for the witness: the settled one, the listed variables holding what they are laid with. -/
noncomputable def ZdG (os:Os):World:={ World.holding Tryz.prog os ⟨#[],#[],[]⟩ with heap:=(((World.holding Tryz.prog os ⟨#[],#[],[]⟩).heap).modify 2 (fun o=>match o with | .cells _ t frozen=>.cells (ZeK 9 Rows.laid_unicode_utf8_acceptRanges).toArray t frozen | o=>o)).modify 1 (fun o=>match o with | .cells _ t frozen=>.cells (ZeK 9 Rows.laid_unicode_utf8_first).toArray t frozen | o=>o) }
theorem ZtX (os:Os):laidMet Tryz.prog Rows.monitorActorsUptoRow.laid ((ZdG os).forCall (fun _ _=>0) ⟨#[],#[(.agg #[.string .empty,.slice none 0 0,.slice none 0 0,.int .i64 (0),.int .i64 (0),.int .i64 (0),.slice none 0 0,.slice none 0 0,.int .i64 (0),.int .i64 (0),.int .i64 (0),.slice none 0 0,.slice none 0 0,.slice none 0 0,.string .empty,.int .i64 (0),.slice none 0 0,.slice none 0 0,.slice none 0 0,.slice none 0 0]:Value),(.slice none 0 0:Value)],[]⟩).memory :=
  laidMet_of_run' 8 (by kernel_rfl) (by kernel_rfl)
theorem Zqa (os:Os) {H:Type} (enc:TypeId × Value→H):∃ places,DataW.whole enc Tryz.prog ((ZdG os).forCall (fun _ _=>0) ⟨#[],#[(.agg #[.string .empty,.slice none 0 0,.slice none 0 0,.int .i64 (0),.int .i64 (0),.int .i64 (0),.slice none 0 0,.slice none 0 0,.int .i64 (0),.int .i64 (0),.int .i64 (0),.slice none 0 0,.slice none 0 0,.slice none 0 0,.string .empty,.int .i64 (0),.slice none 0 0,.slice none 0 0,.slice none 0 0,.slice none 0 0]:Value),(.slice none 0 0:Value)],[]⟩).memory Tryz.f4.params.toList Rows.monitorActorsSpec.vars false (#[(.agg #[.string .empty,.slice none 0 0,.slice none 0 0,.int .i64 (0),.int .i64 (0),.int .i64 (0),.slice none 0 0,.slice none 0 0,.int .i64 (0),.int .i64 (0),.int .i64 (0),.slice none 0 0,.slice none 0 0,.slice none 0 0,.string .empty,.int .i64 (0),.slice none 0 0,.slice none 0 0,.slice none 0 0,.slice none 0 0]:Value),(.slice none 0 0:Value)]:Array Value).toList 12=some ([.agg [.agg [.lit (.string []),.nil,.nil,.lit (.int .i64 0),.lit (.int .i64 0),.lit (.int .i64 0),.nil,.nil],.agg [.lit (.int .i64 0),.lit (.int .i64 0),.lit (.int .i64 0),.nil,.nil,.nil],.agg [.lit (.string []),.lit (.int .i64 0),.nil,.nil,.nil,.nil]],.nil],[],places) :=
  ⟨[],by kernel_rfl⟩
set_option maxRecDepth 100000 in
theorem ZtJ (hplain:∀ (x0:Z7) (x1:(List XA)),LB x0→(x1.length≤bd∧∀ y∈x1,RL y)→∃ N,SX N x0 x1=some true) (os:Os) (started:os.Started) (H:Type) (enc:TypeId × Value→H) (F:Stop.Interp) :
    ReturnsInHanded {} Tryz.checked os 4 .any ((Rows.OpenSpec.upto Rows.monitorActorsSpec).preRow enc Tryz.prog Tryz.f4 Rows.monitorActorsUptoRow.domain false Rows.monitorActorsUptoRow.laid) (((Rows.OpenSpec.upto Rows.monitorActorsSpec).at F).post enc Tryz.prog Tryz.f4 false true false false):=by
  obtain ⟨places,hx⟩:=Zqa os enc
  refine returnsInHanded_of_row (C:=Tryz.checked) (s:=Rows.OpenSpec.upto Rows.monitorActorsSpec) own started (by kernel_rfl) Tryz.func4
    (witness_row_at (enc:=enc) (C:=Tryz.checked) false (ZdG os) #[(.agg #[.string .empty,.slice none 0 0,.slice none 0 0,.int .i64 (0),.int .i64 (0),.int .i64 (0),.slice none 0 0,.slice none 0 0,.int .i64 (0),.int .i64 (0),.int .i64 (0),.slice none 0 0,.slice none 0 0,.slice none 0 0,.string .empty,.int .i64 (0),.slice none 0 0,.slice none 0 0,.slice none 0 0,.slice none 0 0]:Value),(.slice none 0 0:Value)] rfl (by kernel_rfl) (by kernel_rfl) (by kernel_rfl)
      (OpenSpec.preRow_of_cond 12 hx (by kernel_rfl) (fun k hk=>by cases hk;kernel_rfl) (by kernel_rfl) (ZtX os))) ?_
  intro W base args ds gs before hval hW _ hcond _ _ _ _
  exact contract hplain H enc W base args ds gs before hval hW (hcond _ rfl)
end Go.Proofs.YtaahbojckmgghaaGreatDoor
end
