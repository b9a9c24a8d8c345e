/- The contract of the law, and that its calls meet it. -/
import Derived.LaidLaws
import Derived.Test.YtnlleampnlmdlaaGreatDoorCards
import Derived.Test.YtnlleampnlmdlaaGreatDoorTie
import Derived.Test.YtnlleampnlmdlaaGreatDoorExpandProblemsWalk3
import Derived.Test.YtnlleampnlmdlaaGreatDoorExpandProblemsPlain3
set_option linter.all false
section
open Go Go.Kx Go.Proofs Go.ChangeShapes Go.WideShapes Go.ChangeAt Go.RowKit Gx
namespace Go.Proofs.YtnlleampnlmdlaaGreatDoor
theorem ZlZ {H:Type} (d:DataW H):1<=Rows.uptoBulk d:=by
  cases d with
  | lit l=>cases l<;>simp [Rows.uptoBulk]
  | nil=>simp [Rows.uptoBulk]
  | ptr d=>simp [Rows.uptoBulk]
  | slice elems spare=>simp [Rows.uptoBulk]
  | agg parts=>simp [Rows.uptoBulk]
  | iface t d=>simp [Rows.uptoBulk]
  | map entries=>simp [Rows.uptoBulk]
  | held h=>simp [Rows.uptoBulk]
def bk:Bulk:=⟨fun d=>Rows.uptoBulk d,fun l=>Rows.uptoBulkAll l,fun b=>by simp [Rows.uptoBulk],fun e s=>by simp [Rows.uptoBulk],fun l=>by simp [Rows.uptoBulk],by simp [Rows.uptoBulkAll],fun d l=>by simp [Rows.uptoBulkAll],ZlZ⟩
set_option maxRecDepth 20000 in
theorem Tg:Rdb Tryz.prog bk 9 rS (fun x=>x.size<=bd):=by exact Rdb.str Tryz.underlying9 (by kernel_rfl)
set_option maxRecDepth 20000 in
theorem Zjg:Rdb Tryz.prog bk 24 (Yk rS) (fun x=>x.length<=bd/\∀ y∈x,y.size<=bd):=by exact Rdb.slice Tryz.underlying24 (by kernel_rfl) Tg
set_option maxRecDepth 20000 in
theorem Q4:Rdb Tryz.prog bk 3 (rI .i64) (fun x=>(Lit.int .i64 x).wf=true):=by exact Rdb.int Tryz.underlying3 (by kernel_rfl)
set_option maxRecDepth 20000 in
theorem ZpF:Rdb Tryz.prog bk 126 rR1 Zio:=by exact Rdb.struct (α:=T1) (f:=fun x=>(x.Zq,x.Lo,x.Hi)) (g:=fun y=>⟨y.1,y.2.1,y.2.2⟩) Tryz.underlying126 (by kernel_rfl) (fun _=>rfl) (RdF.cons Q4 (RdF.cons Q4 (RdF.one Q4) rfl) rfl)
set_option maxRecDepth 20000 in
theorem ZpG:Rdb Tryz.prog bk 128 Xs ZdW:=by exact Rdb.struct (α:=T0) (f:=fun x=>(x.Zt,x.Zu)) (g:=fun y=>⟨y.1,y.2⟩) Tryz.underlying128 (by kernel_rfl) (fun _=>rfl) (RdF.cons Tg (RdF.one ZpF) rfl)
set_option maxRecDepth 20000 in
theorem ZpH:Rdb Tryz.prog bk 29 (Yk Xs) (fun x=>x.length<=bd/\∀ y∈x,ZdW y):=by exact Rdb.slice Tryz.underlying29 (by kernel_rfl) ZpG
set_option maxRecDepth 20000 in
theorem Zjh:Rdb Tryz.prog bk 73 M4 ZdY:=by exact Rdb.struct (α:=Ys) (f:=fun x=>(x.Zq,x.Zv,x.Field,x.N)) (g:=fun y=>⟨y.1,y.2.1,y.2.2.1,y.2.2.2⟩) Tryz.underlying73 (by kernel_rfl) (fun _=>rfl) (RdF.cons Q4 (RdF.cons Tg (RdF.cons Tg (RdF.one Q4) rfl) rfl) rfl)
set_option maxRecDepth 20000 in
theorem ZpM:Rdb Tryz.prog bk 75 Q3 ZdX:=by exact Rdb.struct (α:=T9) (f:=fun x=>(x.Zw,x.Op,x.Zx)) (g:=fun y=>⟨y.1,y.2.1,y.2.2⟩) Tryz.underlying75 (by kernel_rfl) (fun _=>rfl) (RdF.cons Zjh (RdF.cons Tg (RdF.one Zjh) rfl) rfl)
set_option maxRecDepth 20000 in
theorem ZpK:Rdb Tryz.prog bk 69 (Yk Q3) (fun x=>x.length<=bd/\∀ y∈x,ZdX y):=by exact Rdb.slice Tryz.underlying69 (by kernel_rfl) ZpM
set_option maxRecDepth 20000 in
theorem ZpL:Rdb Tryz.prog bk 71 Xp B4:=by exact Rdb.struct (α:=Yi) (f:=fun x=>(x.Zt,x.Zy,x.Zz)) (g:=fun y=>⟨y.1,y.2.1,y.2.2⟩) Tryz.underlying71 (by kernel_rfl) (fun _=>rfl) (RdF.cons Tg (RdF.cons ZpH (RdF.one ZpK) rfl) rfl)
set_option maxRecDepth 20000 in
theorem ZpJ:Rdb Tryz.prog bk 44 (Yk Xp) (fun x=>x.length<=bd/\∀ y∈x,B4 y):=by exact Rdb.slice Tryz.underlying44 (by kernel_rfl) ZpL
set_option maxRecDepth 20000 in
theorem Zji:∀ m,RdbW Tryz.prog bk m 83 Yo TO SU
  | 0=>RdbW.zero (by kernel_rfl)
  | m+1=>by
    have ih:=Zji m
    have hs:=RdbW.struct (m:=m) (α:=ZT) (f:=fun x=>(x.Zq,x.ZA,x.To,x.Zt,x.As,x.ZB,x.ZC)) (g:=fun y=>⟨y.1,y.2.1,y.2.2.1,y.2.2.2.1,y.2.2.2.2.1,y.2.2.2.2.2.1,y.2.2.2.2.2.2⟩) Tryz.underlying83 (by kernel_rfl) (fun _=>rfl) (RdFW.cons (RdbW.of Q4) (RdFW.cons (RdbW.of Tg) (RdFW.cons (RdbW.of Zjg) (RdFW.cons (RdbW.of Tg) (RdFW.cons (RdbW.of Tg) (RdFW.cons (RdbW.of Q4) (RdFW.one ((RdbW.slice Tryz.underlying81 (by kernel_rfl) ((RdbW.slice Tryz.underlying45 (by kernel_rfl) ih).less (Nat.le_succ _))).less (Nat.le_succ _))) rfl) rfl) rfl) rfl) rfl) rfl)
    refine RdbW.conv hs rfl (fun F w x vs h=>(Zeq Zjb F w x vs).2 h) (fun a h=>?_) (fun a=>?_)
    · have ⟨a0,a1,a2,a3,a4,a5,a6⟩:=a
      simp only [TO]
      exact ⟨h.1,h.2.1,h.2.2.1,h.2.2.2.1,h.2.2.2.2.1,h.2.2.2.2.2.1,⟨h.2.2.2.2.2.2.1,Zin _ h.2.2.2.2.2.2.2⟩⟩
    · have ⟨a0,a1,a2,a3,a4,a5,a6⟩:=a
      simp only [SU]
      rw [Zkd]
      omega
set_option maxRecDepth 20000 in
theorem ZpN:∀ m,RdbW Tryz.prog bk m 47 Yp SH Un:=fun m=>by
  have hs:=(RdbW.struct (m:=m) (α:=ZU) (f:=fun x=>(x.Zt,x.ZD,x.ZE,x.ZF)) (g:=fun y=>⟨y.1,y.2.1,y.2.2.1,y.2.2.2⟩) Tryz.underlying47 (by kernel_rfl) (fun _=>rfl) (RdFW.cons (RdbW.of Tg) (RdFW.cons (RdbW.of Zjg) (RdFW.cons (RdbW.of ZpJ) (RdFW.one ((RdbW.slice Tryz.underlying45 (by kernel_rfl) (Zji _)).less (Nat.le_succ _))) rfl) rfl) rfl)).less (Nat.le_succ _)
  exact RdbW.conv hs rfl (fun _ _ _ _ h=>h) (fun a h=>h) (fun a=>by show XQ SU a.ZF<=_;dsimp only;omega)
set_option maxRecDepth 20000 in
theorem ZpI:Rdb Tryz.prog bk 41 (Yk Yp) (fun x=>(x.length<=bd/\∀ y∈x,SH y)/\XQ Un x<=bd):=Rdb.ofW fun m=>by exact ((RdbW.slice Tryz.underlying41 (by kernel_rfl) (ZpN _)).less (Nat.le_succ _))
set_option maxRecDepth 20000 in
theorem contract (hplain:∀ (x0:(List ZU)) (x1:ByteArray),((x0.length<=bd/\∀ y∈x0,SH y)/\XQ Un x0<=bd)->(x1.size<=bd)->∃ N,SI N x0 x1=some true) (H:Type) (enc:TypeId × Value->H) (W:World) (base:Nat) (args:Array Value) (ds gs:List (DataW H)) (before:List MemPlace)
    (hval:∀ (j:Nat) t v,Tryz.f4.params[j]? = some t->args[j]? = some v->Value.okWide Tryz.prog W .any base t v)
    (hW:DataW.Whole enc Tryz.prog Tryz.f4.params.toList Rows.expandProblemsSpec.vars false W args.toList ds gs before) (hk:Rows.uptoSmall H (ds++gs)=true) (hl:laidMetH Tryz.prog Rows.expandProblemsUptoRow.laid W) :
    Calls Tryz.prog 4 args W fun e W'=>∃ v,e=.returned v/\Rows.expandProblemsSpec.post enc Tryz.prog Tryz.f4 false true false false W args v W':=by
  have hW0:=hW
  obtain ⟨p,q,hA0,hV,rfl,hz,hn⟩:=hW
  have hA:DataW.TrodAll enc Tryz.prog W 0 (fun _=>true) true [41,9] args.toList ds p:=hA0
  obtain ⟨v0,vs0,d0,ds0,p0,q0,hargs,rfl,rfl,h0,r0⟩:=trodAll_cons hA
  obtain ⟨v1,vs1,d1,ds1,p1,q1,e1,rfl,rfl,h1,r1⟩:=trodAll_cons r0
  subst e1
  obtain ⟨e2,rfl,rfl⟩:=trodAll_nil r1
  subst e2
  obtain rfl:args=#[v0,v1]:=by cases args;simpa using hargs
  obtain ⟨rfl,rfl⟩:=trodVars_none hV
  have hb:Rows.uptoBulkAll [d0,d1]<=1048576:=of_decide_eq_true hk
  simp only [Rows.uptoBulkAll] at hb
  have ⟨n0,hf0⟩:=h0
  have ⟨x0,hr0,ok0⟩:=ZpI.2 enc W n0 _ _ hf0 (by show Rows.uptoBulk d0<=1048576;omega)
  have ⟨n1,hf1⟩:=h1
  have ⟨x1,hr1,ok1⟩:=Tg.2 enc W n1 _ _ hf1 (by show Rows.uptoBulk d1<=1048576;omega)
  have o0:=Opened.start (Vi W) W
  have ⟨E1,o1⟩:=o0.step (YQ Yp) hr0
  have ⟨E2,o2⟩:=o1.step oS hr1
  have ⟨N,hN⟩:=hplain x0 x1 ok0 ok1
  have hT:=ZqO (name := "internal/strconv.uint64pow10") hl (by kernel_rfl) (i:=2) (by kernel_rfl) (g:=1) (by kernel_rfl) (t:=281) (by kernel_rfl) (e:=244) (n:=20) (by kernel_rfl) (by kernel_rfl) (by kernel_rfl) (by kernel_rfl) (k:=.u64) (zs:=Go.Lib.pow10Tab)
  have hc:=Zn0 (A:=powT) (ZnZ N x0 x1 true hN) rfl rfl (fun _ h=>h) hT (E:=E2) (w:=W) o2.one (o2.V rfl)
  have a0:(((YQ Yp):Opn _).cells 0 x0).map (ZX E2)=v0.cells.toList:=(o2.args _ (List.mem_append.2 (.inl (List.mem_append.2 (.inr (List.mem_singleton.2 rfl)))))).1
  have a1:((oS:Opn _).cells 1 x1).map (ZX E2)=v1.cells.toList:=(o2.args _ (List.mem_append.2 (.inr (List.mem_singleton.2 rfl)))).1
  have l0:=Zgq (P:=Tryz.prog) (t:=41) (by kernel_rfl) (hval 0 41 v0 rfl rfl)
  rw [l0] at a0
  have b0:=(List.cons.inj a0).1
  have l1:=Zgq (P:=Tryz.prog) (t:=9) (by kernel_rfl) (hval 1 9 v1 rfl rfl)
  rw [l1] at a1
  have b1:=(List.cons.inj a1).1
  have hc:Calls Tryz.prog 4 #[ZX E2 (.sl 0),ZX E2 (.s x1)] W _:=hc
  rw [b0,b1] at hc
  refine hc.mono fun e W' ⟨he,hx⟩=>⟨_,he,?_⟩
  exact Zn1 (tb:=4) (by kernel_rfl) (by kernel_rfl) rfl (by kernel_rfl) (by kernel_rfl) hW0 rfl hx
theorem own:ownKnob Tryz.prog.godebug=none:=by kernel_rfl
/-- A world for the witness: the settled one, the listed variables holding what they are laid with. -/
noncomputable def Zd1 (os:Os):World:={ World.holding Tryz.prog os ⟨#[],#[],[]⟩ with heap:=((((((World.holding Tryz.prog os ⟨#[],#[],[]⟩).heap).modify 4 (fun o=>match o with | .cells _ t frozen=>.cells (MR 9 Rows.laid_math_bits_deBruijn32tab).toArray t frozen | o=>o)).modify 5 (fun o=>match o with | .cells _ t frozen=>.cells (MR 9 Rows.laid_math_bits_deBruijn64tab).toArray t frozen | o=>o)).modify 1 (fun o=>match o with | .cells _ t frozen=>.cells (MR 9 Rows.laid_internal_strconv_uint64pow10).toArray t frozen | o=>o)).modify 3 (fun o=>match o with | .cells _ t frozen=>.cells (MR 9 Rows.laid_unicode_utf8_acceptRanges).toArray t frozen | o=>o)).modify 2 (fun o=>match o with | .cells _ t frozen=>.cells (MR 9 Rows.laid_unicode_utf8_first).toArray t frozen | o=>o) }
theorem ZnY (os:Os):laidMet Tryz.prog Rows.expandProblemsUptoRow.laid ((Zd1 os).forCall (fun _ _=>0) ⟨#[],#[(.slice none 0 0:Value),(.string .empty:Value)],[]⟩).memory :=
  laidMet_of_run' 8 (by kernel_rfl) (by kernel_rfl)
theorem ZpO (os:Os) {H:Type} (enc:TypeId × Value->H):∃ places,DataW.whole enc Tryz.prog ((Zd1 os).forCall (fun _ _=>0) ⟨#[],#[(.slice none 0 0:Value),(.string .empty:Value)],[]⟩).memory Tryz.f4.params.toList Rows.expandProblemsSpec.vars false (#[(.slice none 0 0:Value),(.string .empty:Value)]:Array Value).toList 12=some ([.nil,.lit (.string [])],[],places) :=
  ⟨[],by kernel_rfl⟩
set_option maxRecDepth 100000 in
theorem Zn4 (hplain:∀ (x0:(List ZU)) (x1:ByteArray),((x0.length<=bd/\∀ y∈x0,SH y)/\XQ Un x0<=bd)->(x1.size<=bd)->∃ N,SI N x0 x1=some true) (os:Os) (started:os.Started) (H:Type) (enc:TypeId × Value->H) (F:Stop.Interp) :
    ReturnsInHanded {} Tryz.checked os 4 .any ((Rows.OpenSpec.upto Rows.expandProblemsSpec).preRow enc Tryz.prog Tryz.f4 Rows.expandProblemsUptoRow.domain false Rows.expandProblemsUptoRow.laid) (((Rows.OpenSpec.upto Rows.expandProblemsSpec).at F).post enc Tryz.prog Tryz.f4 false true false false):=by
  have ⟨places,hx⟩:=ZpO os enc
  refine returnsInHanded_of_row (C:=Tryz.checked) (s:=Rows.OpenSpec.upto Rows.expandProblemsSpec) own started (by kernel_rfl) Tryz.func4
    (witness_row_at (enc:=enc) (C:=Tryz.checked) false (Zd1 os) #[(.slice none 0 0:Value),(.string .empty:Value)] rfl (by kernel_rfl) (by kernel_rfl) (by kernel_rfl)
      (OpenSpec.preRow_of_cond 12 hx (by kernel_rfl) (fun k hk=>by cases hk;kernel_rfl) (by kernel_rfl) (ZnY os))) ?_
  intro W base args ds gs before hval hW _ hcond _ h4 _ _
  exact contract hplain H enc W base args ds gs before hval hW (hcond _ rfl) h4
end Go.Proofs.YtnlleampnlmdlaaGreatDoor
end
