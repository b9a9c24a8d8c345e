/- The contract of the law, and that its calls meet it. -/
import Derived.LaidLaws
import Derived.Test.YtnlleampnlmdlaaGreatDoorCards
import Derived.Test.YtnlleampnlmdlaaGreatDoorTie
import Derived.Test.YtnlleampnlmdlaaGreatDoorExpandApartWalk3
import Derived.Test.YtnlleampnlmdlaaGreatDoorExpandApartPlain2
set_option linter.all false
section
open Go Go.Kx Go.Proofs Go.ChangeShapes Go.WideShapes Go.ChangeAt Go.RowKit Gx
namespace Go.Proofs.YtnlleampnlmdlaaGreatDoor
theorem bulk_one {H:Type} (d:DataW H):1≤Rows.uptoBulk d:=by
  cases d with
  | lit l=>cases l<;>simp [Rows.uptoBulk]
  | nil=>simp [Rows.uptoBulk]
  | ptr d=>simp [Rows.uptoBulk]
  | slice elems spare=>simp [Rows.uptoBulk]
  | agg parts=>simp [Rows.uptoBulk]
  | iface t d=>simp [Rows.uptoBulk]
  | map entries=>simp [Rows.uptoBulk]
  | held h=>simp [Rows.uptoBulk]
def bk:Bulk:=⟨fun d=>Rows.uptoBulk d,fun l=>Rows.uptoBulkAll l,fun b=>by simp [Rows.uptoBulk],fun e s=>by simp [Rows.uptoBulk],fun l=>by simp [Rows.uptoBulk],by simp [Rows.uptoBulkAll],fun d l=>by simp [Rows.uptoBulkAll],bulk_one⟩
set_option maxRecDepth 20000 in
theorem rd_9:Rdb Tryz.prog bk 9 rS (fun x=>x.size≤bd):=by exact Rdb.str Tryz.underlying9 (by kernel_rfl)
set_option maxRecDepth 20000 in
theorem rd_24:Rdb Tryz.prog bk 24 (rSl rS) (fun x=>x.length≤bd∧∀ y∈x,y.size≤bd):=by exact Rdb.slice Tryz.underlying24 (by kernel_rfl) rd_9
set_option maxRecDepth 20000 in
theorem rd_3:Rdb Tryz.prog bk 3 (rI .i64) (fun x=>(Lit.int .i64 x).wf=true):=by exact Rdb.int Tryz.underlying3 (by kernel_rfl)
set_option maxRecDepth 20000 in
theorem rd_126:Rdb Tryz.prog bk 126 rR1 k_api_Sort:=by exact Rdb.struct (α:=T1) (f:=fun x=>(x.Kind,x.Lo,x.Hi)) (g:=fun y=>⟨y.1,y.2.1,y.2.2⟩) Tryz.underlying126 (by kernel_rfl) (fun _=>rfl) (RdF.cons rd_3 (RdF.cons rd_3 (RdF.one rd_3) rfl) rfl)
set_option maxRecDepth 20000 in
theorem rd_128:Rdb Tryz.prog bk 128 rR0 k_api_Field:=by exact Rdb.struct (α:=T0) (f:=fun x=>(x.Name,x.Sort')) (g:=fun y=>⟨y.1,y.2⟩) Tryz.underlying128 (by kernel_rfl) (fun _=>rfl) (RdF.cons rd_9 (RdF.one rd_126) rfl)
set_option maxRecDepth 20000 in
theorem rd_29:Rdb Tryz.prog bk 29 (rSl rR0) (fun x=>x.length≤bd∧∀ y∈x,k_api_Field y):=by exact Rdb.slice Tryz.underlying29 (by kernel_rfl) rd_128
set_option maxRecDepth 20000 in
theorem rd_73:Rdb Tryz.prog bk 73 rR18 k_ref10_Term:=by exact Rdb.struct (α:=T18) (f:=fun x=>(x.Kind,x.Message,x.Field,x.N)) (g:=fun y=>⟨y.1,y.2.1,y.2.2.1,y.2.2.2⟩) Tryz.underlying73 (by kernel_rfl) (fun _=>rfl) (RdF.cons rd_3 (RdF.cons rd_9 (RdF.cons rd_9 (RdF.one rd_3) rfl) rfl) rfl)
set_option maxRecDepth 20000 in
theorem rd_75:Rdb Tryz.prog bk 75 rR9 k_ref10_Atom:=by exact Rdb.struct (α:=T9) (f:=fun x=>(x.Left,x.Op,x.Right)) (g:=fun y=>⟨y.1,y.2.1,y.2.2⟩) Tryz.underlying75 (by kernel_rfl) (fun _=>rfl) (RdF.cons rd_73 (RdF.cons rd_9 (RdF.one rd_73) rfl) rfl)
set_option maxRecDepth 20000 in
theorem rd_69:Rdb Tryz.prog bk 69 (rSl rR9) (fun x=>x.length≤bd∧∀ y∈x,k_ref10_Atom y):=by exact Rdb.slice Tryz.underlying69 (by kernel_rfl) rd_75
set_option maxRecDepth 20000 in
theorem rd_71:Rdb Tryz.prog bk 71 rR11 k_ref10_Message:=by exact Rdb.struct (α:=T11) (f:=fun x=>(x.Name,x.Fields,x.Where)) (g:=fun y=>⟨y.1,y.2.1,y.2.2⟩) Tryz.underlying71 (by kernel_rfl) (fun _=>rfl) (RdF.cons rd_9 (RdF.cons rd_29 (RdF.one rd_69) rfl) rfl)
set_option maxRecDepth 20000 in
theorem rd_44:Rdb Tryz.prog bk 44 (rSl rR11) (fun x=>x.length≤bd∧∀ y∈x,k_ref10_Message y):=by exact Rdb.slice Tryz.underlying44 (by kernel_rfl) rd_71
set_option maxRecDepth 20000 in
theorem rdw_83:∀ m,RdbW Tryz.prog bk m 83 rR10 k_ref10_Item w_ref10_Item
  | 0=>RdbW.zero (by kernel_rfl)
  | m+1=>by
    have ih:=rdw_83 m
    have hs:=RdbW.struct (m:=m) (α:=T10) (f:=fun x=>(x.Kind,x.From,x.To,x.Name,x.As,x.Ticks,x.Blocks)) (g:=fun y=>⟨y.1,y.2.1,y.2.2.1,y.2.2.2.1,y.2.2.2.2.1,y.2.2.2.2.2.1,y.2.2.2.2.2.2⟩) Tryz.underlying83 (by kernel_rfl) (fun _=>rfl) (RdFW.cons (RdbW.of rd_3) (RdFW.cons (RdbW.of rd_9) (RdFW.cons (RdbW.of rd_24) (RdFW.cons (RdbW.of rd_9) (RdFW.cons (RdbW.of rd_9) (RdFW.cons (RdbW.of rd_3) (RdFW.one ((RdbW.slice Tryz.underlying81 (by kernel_rfl) ((RdbW.slice Tryz.underlying45 (by kernel_rfl) ih).less (Nat.le_succ _))).less (Nat.le_succ _))) rfl) rfl) rfl) rfl) rfl) rfl)
    refine RdbW.conv hs rfl (fun F w x vs h=>(rFix_iff r_ref10_Item_mono F w x vs).2 h) (fun a h=>?_) (fun a=>?_)
    · obtain ⟨a0,a1,a2,a3,a4,a5,a6⟩:=a
      simp only [k_ref10_Item]
      exact ⟨h.1,h.2.1,h.2.2.1,h.2.2.2.1,h.2.2.2.2.1,h.2.2.2.2.2.1,⟨h.2.2.2.2.2.2.1,kLL_ref10_Item_of _ h.2.2.2.2.2.2.2⟩⟩
    · obtain ⟨a0,a1,a2,a3,a4,a5,a6⟩:=a
      simp only [w_ref10_Item]
      rw [wLL_ref10_Item_eq]
      omega
set_option maxRecDepth 20000 in
theorem rdw_47:∀ m,RdbW Tryz.prog bk m 47 rR12 k_ref10_Protocol w_ref10_Protocol:=fun m=>by
  have hs:=(RdbW.struct (m:=m) (α:=T12) (f:=fun x=>(x.Name,x.Roles,x.Messages,x.Body)) (g:=fun y=>⟨y.1,y.2.1,y.2.2.1,y.2.2.2⟩) Tryz.underlying47 (by kernel_rfl) (fun _=>rfl) (RdFW.cons (RdbW.of rd_9) (RdFW.cons (RdbW.of rd_24) (RdFW.cons (RdbW.of rd_44) (RdFW.one ((RdbW.slice Tryz.underlying45 (by kernel_rfl) (rdw_83 _)).less (Nat.le_succ _))) rfl) rfl) rfl)).less (Nat.le_succ _)
  exact RdbW.conv hs rfl (fun _ _ _ _ h=>h) (fun a h=>h) (fun a=>by show wsum w_ref10_Item a.Body≤_;dsimp only;omega)
set_option maxRecDepth 20000 in
theorem rd_41:Rdb Tryz.prog bk 41 (rSl rR12) (fun x=>(x.length≤bd∧∀ y∈x,k_ref10_Protocol y)∧wsum w_ref10_Protocol x≤bd):=Rdb.ofW fun m=>by exact ((RdbW.slice Tryz.underlying41 (by kernel_rfl) (rdw_47 _)).less (Nat.le_succ _))
set_option maxRecDepth 20000 in
theorem rd_47:Rdb Tryz.prog bk 47 rR12 (fun x=>(k_ref10_Protocol x)∧w_ref10_Protocol x≤bd):=Rdb.ofW fun m=>by exact rdw_47 m
set_option maxRecDepth 20000 in
theorem rd_5:Rdb Tryz.prog bk 5 (rI .u8) (fun x=>(Lit.int .u8 x).wf=true):=by exact Rdb.int Tryz.underlying5 (by kernel_rfl)
set_option maxRecDepth 20000 in
theorem contract (hplain:∀ (x0:(List T12)) (x1:T12) (x2:Int),((x0.length≤bd∧∀ y∈x0,k_ref10_Protocol y)∧wsum w_ref10_Protocol x0≤bd)→((k_ref10_Protocol x1)∧w_ref10_Protocol x1≤bd)→((Lit.int .u8 x2).wf=true)→∃ N,law12_ExpandApart N x0 x1 x2=some true) (H:Type) (enc:TypeId × Value→H) (W:World) (base:Nat) (args:Array Value) (ds gs:List (DataW H)) (before:List MemPlace)
    (hval:∀ (j:Nat) t v,Tryz.f6.params[j]? = some t→args[j]? = some v→Value.okWide Tryz.prog W .any base t v)
    (hW:DataW.Whole enc Tryz.prog Tryz.f6.params.toList Rows.expandApartSpec.vars false W args.toList ds gs before) (hk:Rows.uptoSmall H (ds++gs)=true) (hl:laidMetH Tryz.prog Rows.expandApartUptoRow.laid W) :
    Calls Tryz.prog 6 args W fun e W'=>∃ v,e=.returned v∧Rows.expandApartSpec.post enc Tryz.prog Tryz.f6 false true false false W args v W':=by
  have hW0:=hW
  obtain ⟨p,q,hA0,hV,rfl,hz,hn⟩:=hW
  have hA:DataW.TrodAll enc Tryz.prog W 0 (fun _=>true) true [41,47,5] args.toList ds p:=hA0
  obtain ⟨v0,vs0,d0,ds0,p0,q0,hargs,rfl,rfl,h0,r0⟩:=trodAll_cons hA
  obtain ⟨v1,vs1,d1,ds1,p1,q1,e1,rfl,rfl,h1,r1⟩:=trodAll_cons r0
  subst e1
  obtain ⟨v2,vs2,d2,ds2,p2,q2,e2,rfl,rfl,h2,r2⟩:=trodAll_cons r1
  subst e2
  obtain ⟨e3,rfl,rfl⟩:=trodAll_nil r2
  subst e3
  obtain rfl:args=#[v0,v1,v2]:=by cases args;simpa using hargs
  obtain ⟨rfl,rfl⟩:=trodVars_none hV
  have hb:Rows.uptoBulkAll [d0,d1,d2]≤1048576:=of_decide_eq_true hk
  simp only [Rows.uptoBulkAll] at hb
  obtain ⟨n0,hf0⟩:=h0
  obtain ⟨x0,hr0,ok0⟩:=rd_41.2 enc W n0 _ _ hf0 (by show Rows.uptoBulk d0≤1048576;omega)
  obtain ⟨n1,hf1⟩:=h1
  obtain ⟨x1,hr1,ok1⟩:=rd_47.2 enc W n1 _ _ hf1 (by show Rows.uptoBulk d1≤1048576;omega)
  obtain ⟨n2,hf2⟩:=h2
  obtain ⟨x2,hr2,ok2⟩:=rd_5.2 enc W n2 _ _ hf2 (by show Rows.uptoBulk d2≤1048576;omega)
  have o0:=Opened.start (Old W) W
  obtain ⟨E1,o1⟩:=o0.step (oSl rR12) hr0
  obtain ⟨E2,o2⟩:=o1.step oO12 hr1
  obtain ⟨E3,o3⟩:=o2.step (oI .u8) hr2
  obtain ⟨N,hN⟩:=hplain x0 x1 x2 ok0 ok1 ok2
  have hT:=tab_laid (name := "internal/strconv.uint64pow10") hl (by kernel_rfl) (i:=2) (by kernel_rfl) (g:=1) (by kernel_rfl) (t:=281) (by kernel_rfl) (e:=244) (n:=20) (by kernel_rfl) (by kernel_rfl) (by kernel_rfl) (by kernel_rfl) (k:=.u64) (zs:=Go.Lib.pow10Tab)
  have hc:=law_callsT (A:=powT) (law12_ExpandApart_ct N x0 x1 x2 true hN) rfl rfl (fun _ h=>h) hT (E:=E3) (w:=W) o3.one (o3.V rfl)
  have a0:(((oSl rR12):Opn _).cells 0 x0).map (den E3)=v0.cells.toList:=(o3.args _ (List.mem_append.2 (.inl (List.mem_append.2 (.inl (List.mem_append.2 (.inr (List.mem_singleton.2 rfl)))))))).1
  have a1:((oO12:Opn _).cells 1 x1).map (den E3)=v1.cells.toList:=(o3.args _ (List.mem_append.2 (.inl (List.mem_append.2 (.inr (List.mem_singleton.2 rfl)))))).1
  have a2:(((oI .u8):Opn _).cells 4 x2).map (den E3)=v2.cells.toList:=(o3.args _ (List.mem_append.2 (.inr (List.mem_singleton.2 rfl)))).1
  have l0:=arg_leaf (P:=Tryz.prog) (t:=41) (by kernel_rfl) (hval 0 41 v0 rfl rfl)
  rw [l0] at a0
  have b0:=(List.cons.inj a0).1
  obtain ⟨cs1,rfl⟩:=arg_agg (P:=Tryz.prog) (t:=47) (by kernel_rfl) (hval 1 47 v1 rfl rfl)
  have b1:Value.agg ((((oO12:Opn _).cells 1 x1).map (den E3)).toArray)=.agg cs1:=by rw [a1];rfl
  have l2:=arg_leaf (P:=Tryz.prog) (t:=5) (by kernel_rfl) (hval 2 5 v2 rfl rfl)
  rw [l2] at a2
  have b2:=(List.cons.inj a2).1
  have hc:Calls Tryz.prog 6 #[den E3 (.sl 0),Value.agg ((((oO12:Opn _).cells 1 x1).map (den E3)).toArray),den E3 (.i .u8 x2)] W _:=hc
  rw [b0,b1,b2] at hc
  refine hc.mono fun e W' ⟨he,hx⟩=>⟨_,he,?_⟩
  exact law_post (tb:=4) (by kernel_rfl) (by kernel_rfl) rfl (by kernel_rfl) (by kernel_rfl) hW0 rfl hx
theorem own:ownKnob Tryz.prog.godebug=none:=by kernel_rfl
/-- A world for the witness: the settled one, the listed variables holding what they are laid with. -/
noncomputable def laidWorld (os:Os):World:={ World.holding Tryz.prog os ⟨#[],#[],[]⟩ with heap:=((((((World.holding Tryz.prog os ⟨#[],#[],[]⟩).heap).modify 4 (fun o=>match o with | .cells _ t frozen=>.cells (laidFlat 9 Rows.laid_math_bits_deBruijn32tab).toArray t frozen | o=>o)).modify 5 (fun o=>match o with | .cells _ t frozen=>.cells (laidFlat 9 Rows.laid_math_bits_deBruijn64tab).toArray t frozen | o=>o)).modify 1 (fun o=>match o with | .cells _ t frozen=>.cells (laidFlat 9 Rows.laid_internal_strconv_uint64pow10).toArray t frozen | o=>o)).modify 3 (fun o=>match o with | .cells _ t frozen=>.cells (laidFlat 9 Rows.laid_unicode_utf8_acceptRanges).toArray t frozen | o=>o)).modify 2 (fun o=>match o with | .cells _ t frozen=>.cells (laidFlat 9 Rows.laid_unicode_utf8_first).toArray t frozen | o=>o) }
theorem laid_met (os:Os):laidMet Tryz.prog Rows.expandApartUptoRow.laid ((laidWorld os).forCall (fun _ _=>0) ⟨#[],#[(.slice none 0 0:Value),(.agg #[.string .empty,.slice none 0 0,.slice none 0 0,.slice none 0 0]:Value),(.int .u8 (0):Value)],[]⟩).memory :=
  laidMet_of_run' 8 (by kernel_rfl) (by kernel_rfl)
theorem reads (os:Os) {H:Type} (enc:TypeId × Value→H):∃ places,DataW.whole enc Tryz.prog ((laidWorld os).forCall (fun _ _=>0) ⟨#[],#[(.slice none 0 0:Value),(.agg #[.string .empty,.slice none 0 0,.slice none 0 0,.slice none 0 0]:Value),(.int .u8 (0):Value)],[]⟩).memory Tryz.f6.params.toList Rows.expandApartSpec.vars false (#[(.slice none 0 0:Value),(.agg #[.string .empty,.slice none 0 0,.slice none 0 0,.slice none 0 0]:Value),(.int .u8 (0):Value)]:Array Value).toList 12=some ([.nil,.agg [.lit (.string []),.nil,.nil,.nil],.lit (.int .u8 0)],[],places) :=
  ⟨[],by kernel_rfl⟩
set_option maxRecDepth 100000 in
theorem lifted (hplain:∀ (x0:(List T12)) (x1:T12) (x2:Int),((x0.length≤bd∧∀ y∈x0,k_ref10_Protocol y)∧wsum w_ref10_Protocol x0≤bd)→((k_ref10_Protocol x1)∧w_ref10_Protocol x1≤bd)→((Lit.int .u8 x2).wf=true)→∃ N,law12_ExpandApart N x0 x1 x2=some true) (os:Os) (started:os.Started) (H:Type) (enc:TypeId × Value→H) (F:Stop.Interp) :
    ReturnsInHanded {} Tryz.checked os 6 .any ((Rows.OpenSpec.upto Rows.expandApartSpec).preRow enc Tryz.prog Tryz.f6 Rows.expandApartUptoRow.domain false Rows.expandApartUptoRow.laid) (((Rows.OpenSpec.upto Rows.expandApartSpec).at F).post enc Tryz.prog Tryz.f6 false true false false):=by
  obtain ⟨places,hx⟩:=reads os enc
  refine returnsInHanded_of_row (C:=Tryz.checked) (s:=Rows.OpenSpec.upto Rows.expandApartSpec) own started (by kernel_rfl) Tryz.func6
    (witness_row_at (enc:=enc) (C:=Tryz.checked) false (laidWorld os) #[(.slice none 0 0:Value),(.agg #[.string .empty,.slice none 0 0,.slice none 0 0,.slice none 0 0]:Value),(.int .u8 (0):Value)] rfl (by kernel_rfl) (by kernel_rfl) (by kernel_rfl)
      (OpenSpec.preRow_of_cond 12 hx (by kernel_rfl) (fun k hk=>by cases hk;kernel_rfl) (by kernel_rfl) (laid_met os))) ?_
  intro W base args ds gs before hval hW _ hcond _ h4 _ _
  exact contract hplain H enc W base args ds gs before hval hW (hcond _ rfl) h4
end Go.Proofs.YtnlleampnlmdlaaGreatDoor
end
