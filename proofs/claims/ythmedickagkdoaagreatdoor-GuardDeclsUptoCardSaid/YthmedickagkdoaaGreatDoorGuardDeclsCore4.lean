/- Aids for the walks, part 4: a symbolic state of the machine, and that each step of the machine keeps it. -/
import Derived.Test.YthmedickagkdoaaGreatDoorGuardDeclsCore3
set_option linter.all false
section
namespace Go.Kx
variable [LxP]
abbrev G1:={ v:Value // v.oneCell'=true }
def Wk:G1:=⟨.slice none 0 0,rfl⟩
def XR (u:G1) (v:Value):Prop:=v=u.1
def rNl (α:Type):TRep α where
 sz:=1
 pos:=Nat.one_pos
 rep _ _ _ vs:=vs=[.slice none 0 0]
 len h:=by rw [h];rfl
 mono _ h:=h
 one h:=by rw [h];intro v hv;rw [List.mem_singleton.1 hv];rfl
def oNl (α:Type):Opn (rNl α) where
 nk:=0
 cells _ _:=[.nil]
 facts _ _:=[]
 ok h j E ho:=⟨E,Env.Eqb.refl _ _,fun _=>rfl,fun _ _=>rfl,ho,h,by simp,by simp [SC.kb]⟩
 chk _ _ cs:=cs=[.nil]
 cok h E F w _:=by rw [h];rfl
 T:=ULift.{1,0} (List SC)
 lq _ _ cs:=⟨cs⟩
 rq _ _ _:=⟨[.nil]⟩
 eqn h:=congrArg ULift.down h
def rOp (α:Type):TRep α where
 sz:=1
 pos:=Nat.one_pos
 rep _ _ _ vs:=∃ v:G1,vs=[v.1]
 len h:=by have ⟨v,h⟩:=h;rw [h];rfl
 mono _ h:=h
 one h:=by have ⟨v,h⟩:=h;rw [h];intro u hu;rw [List.mem_singleton.1 hu];exact v.2
def oOp (α:Type):Opn (rOp α) where
 nk:=1
 cells k _:=[.sl k]
 facts _ _:=[]
 ok h k E ho:=by
  have ⟨v,e⟩:=h
  refine ⟨E.setρ k v.1,E.eqb_setρ _ _ _ (Zo _),fun _=>rfl,fun j hj=>?_,fun j=>?_,?_,fun p hp=>(by cases hp),?_⟩
  ·have:¬ j=k:=by omega
   simp [Env.setρ,this]
  ·simp only [Env.setρ];split
   ·exact v.2
   ·exact ho j
  ·rw [e];simp [ZZ,Env.setρ]
  ·intro c hc
   rw [List.mem_singleton.1 hc]
   exact Nat.lt_succ_self _
 chk _ _ cs:=cs=[.nil]
 cok h E F w _:=⟨Wk,by rw [h];rfl⟩
 T:=ULift.{1,0} (List SC)
 lq _ _ cs:=⟨cs⟩
 rq _ _ _:=⟨[.nil]⟩
 eqn h:=congrArg ULift.down h
def rDs {α:Type} (R:TRep α):TRep (G1 × Option (List α)) where
 sz:=1
 pos:=Nat.one_pos
 rep F w p vs:=vs=[p.1.1]/\∀ xs,p.2=some xs->SlR R F w xs p.1.1
 len h:=by rw [h.1];rfl
 mono g h:=⟨h.1,fun xs e=>(h.2 xs e).mono g⟩
 one {F w p vs} h:=by rw [h.1];intro u hu;rw [List.mem_singleton.1 hu];exact p.1.2
def oDs {α:Type} (R:TRep α):Opn (rDs R) where
 nk:=1
 cells k _:=[.sl k]
 facts k p:=[(k,.fn (XR p.1))]
 ok {F w p vs} h k E ho:=by
  refine ⟨E.setρ k p.1.1,E.eqb_setρ _ _ _ (Zo _),fun _=>rfl,fun j hj=>?_,fun j=>?_,?_,?_,?_⟩
  ·have:¬ j=k:=by omega
   simp [Env.setρ,this]
  ·simp only [Env.setρ];split
   ·exact p.1.2
   ·exact ho j
  ·rw [h.1];simp [ZZ,Env.setρ]
  ·intro q hq
   rw [List.mem_singleton.1 hq]
   exact ⟨Zo _,Nat.lt_succ_self _,rfl,by simp [Env.setρ,VF.ok,XR]⟩
  ·intro c hc
   rw [List.mem_singleton.1 hc]
   exact Nat.lt_succ_self _
 chk V p cs:=∃ k,cs=[.sl k]/\V k=some (.fn (XR p.1))/\p.2=none
 cok h E F w hV:=by
  have ⟨k,h1,h2,h3⟩:=h
  have:E.ρ k=_:=hV k _ h2
  refine ⟨by rw [h1];simp [ZZ,this],fun xs e=>by rw [h3] at e;cases e⟩
 T:=Option VF × ULift.{1,0} Bool
 lq V p cs:=match cs with
  | [.sl k]=>(V k,⟨p.2.isNone⟩)
  | _=>(none,⟨false⟩)
 rq _ p _:=(some (.fn (XR p.1)),⟨true⟩)
 eqn {V p cs} h:=by
  split at h
  ·rename_i k
   have h1:=(Prod.mk.inj h).1
   have h2:=congrArg ULift.down (Prod.mk.inj h).2
   exact ⟨k,rfl,h1,by simpa using h2⟩
  ·have h2:=congrArg ULift.down (Prod.mk.inj h).2
   cases h2
theorem SlR.see {α β:Type} {R:TRep α} {R':TRep β} {φ:α->β} (g:R'.sz=R.sz) (W:∀ {F w x c},R.rep F w x c->R'.rep F w (φ x) c) {F:YB} {w:World} {xs:List α} {v:Value} (h:SlR R F w xs v):SlR R' F w (xs.map φ) v:=by
 rcases h with ⟨d,e⟩ | ⟨b,off,cap,arr,el,fz,m,n,o,p,q⟩
 ·exact .inl ⟨by rw [d];rfl,e⟩
 ·refine .inr ⟨b,off,cap,arr,el,fz,by rw [List.length_map];exact m,by rw [List.length_map];exact n,o,p,?_⟩
  intro i y a
  rw [List.getElem?_map] at a
  cases f:xs[i]? with
  | none=>rw [f] at a;cases a
  | some x =>
   rw [f] at a
   cases a
   have ⟨c,d,l⟩:=q i x f
   refine ⟨c,W d,fun j v k=>?_⟩
   rw [g];exact l j v k
theorem Fn.see {P:Program} {f:FuncId} {α β:Type} {R:TRep α} {R':TRep β} {φ:α->β} (n:R'.sz=R.sz) (W:∀ {F w x vs},R.rep F w x vs->R'.rep F w (φ x) vs) {xs:List α} {nk d k:Nat} {a:List SV} {V g:List (Nat × VF)} {M i:List (Nat × MO)} {b:SV}
  (m:Fn P f ⟨nk,a,(k,.sl R' (xs.map φ))::V,M,d,b,g,i⟩):Fn P f ⟨nk,a,(k,.sl R xs)::V,M,d,b,g,i⟩ where
 callable:=m.callable
 calls E F w hp:=by
  have l:Ct.Pre ⟨nk,a,(k,.sl R' (xs.map φ))::V,M,d,b,g,i⟩ E F w:=⟨hp.one,hp.hF,fun j f c=>by
   have c:ZQ ((k,VF.sl R' (xs.map φ))::V) j=some f:=c
   rw [YG] at c
   split at c
   ·rename_i e
    cases c
    subst e
    have:=hp.V k (.sl R xs) (by show ZQ ((k,VF.sl R xs)::V) k=_;rw [YG,if_pos rfl])
    exact SlR.see n W this
   ·rename_i e
    exact hp.V j f (by show ZQ ((k,VF.sl R xs)::V) j=_;rw [YG,if_neg e];exact c),hp.M,hp.dis,hp.mF⟩
  refine Calls.mono (m.calls E F w l) fun e w' h=>?_
  have ⟨o,p,q,h⟩:=h
  exact ⟨o,p,q,h.env,h.one,h.V,h.M,h.dis,h.mF,h.fresh,h.F0,h.F1,h.Fs,h.ext⟩
section
variable {X:Ctx}
theorem QQ {α β:Type} {R:TRep α} {R':TRep β} {fr:Bool} {xs:List α} (ys:List β) (K:Nat) (l:R'.sz=R.sz) (e:ys.length=xs.length)
  (W:∀ (i:Nat) x y,xs[i]? = some x->ys[i]? = some y->∀ F w d,R.rep F w x d->R'.rep F w y d) {c:Cf}
  (k:Wc X (Sb (fun s=>⟨s.L,(K,.own R' ys fr)::s.M,s.V,s.nx⟩) c)) (n:ZQ c.st.M K=some (.own R xs fr):=by kernel_rfl):Wc X c:=by
 refine Q0 (fun E F w a o=>⟨E,F,o.setM (m':=.own R' ys fr) n rfl rfl .m (Zo _) (fun _ _ _=>rfl) (fun b q=>q) ?_ trivial (fun h=>h)⟩) k
 have h:OwnR R F w xs (E.ρ K):=o.hM K _ n
 show OwnR R' F w ys (E.ρ K)
 rcases h with ⟨f,g⟩ | ⟨b,off,cap,arr,el,fz,t,u,z,A,B,C⟩
 ·exact .inl ⟨List.eq_nil_of_length_eq_zero (by rw [e,f];rfl),g⟩
 ·refine .inr ⟨b,off,cap,arr,el,fz,by rw [e];exact t,by rw [e];exact u,by rw [l];exact z,A,B,fun i y p=>?_⟩
  have hi:i < xs.length:=by rw [<- e];exact (List.getElem?_eq_some_iff.1 p).1
  have ⟨d,f,g⟩:=C i xs[i] (Za hi)
  refine ⟨d,W i _ y (Za hi) p F w d f,fun j v r=>?_⟩
  rw [l];exact g j v r
theorem Gi (K:Nat) {c:Cf} (k:∀ u:G1,Wc X (Sb (fun s=>⟨s.L,s.M,(K,.fn (XR u))::s.V,s.nx⟩) c)) (d:Nat.blt K c.st.nx=true:=by kernel_rfl):Wc X c:=by
 have e:K < c.st.nx:=by unfold Nat.blt at d;exact Ze d
 cases c with
 | no=>exact (k Wk).1.elim
 | co f s=>exact ⟨fun E F w a b=>(k ⟨E.ρ K,b.one K⟩).1 E F w a (b.addFn e rfl)⟩
 | rg m ops i f s =>
  cases m with
  | none=>exact ⟨fun E F w a b=>(k ⟨E.ρ K,b.one K⟩).1 E F w a (b.addFn e rfl)⟩
  | some q=>exact (k Wk).1.elim
theorem eZn {α:Type} (R:TRep α) {c:Cf} (k:Wc X (Sb (fun s=>⟨s.L,(s.nx,.own R ([]:List α) true)::s.M,(s.nx,.fn (XR Wk))::s.V,s.nx+1⟩) c)):Wc X c:=by
 refine Q0 (fun E F w a f=>?_) k
 have g:E.Eqb c.st.nx (E.setρ c.st.nx (.slice none 0 0)):=E.eqb_setρ _ _ _ (Zo _)
 have e:(E.setρ c.st.nx (.slice none 0 0)).ρ c.st.nx=.slice none 0 0:=by simp [Env.setρ]
 have h:=f.env g (fun j=>by
  simp only [Env.setρ];split
  ·rfl
  ·exact f.one j)
 have i:=h.addM' (m:=.own R ([]:List α) true) (by
  show OwnR R F w [] ((E.setρ c.st.nx (.slice none 0 0)).ρ c.st.nx)
  rw [e];exact .inl ⟨rfl,rfl⟩) trivial (fun b d=>by
  have d:YH ((E.setρ c.st.nx (.slice none 0 0)).ρ c.st.nx)=some b:=d
  rw [e] at d;cases d) (fun _ b d=>by
  have d:YH ((E.setρ c.st.nx (.slice none 0 0)).ρ c.st.nx)=some b:=d
  rw [e] at d;cases d)
 exact ⟨_,F,i.addFn (k:=c.st.nx) (Nat.lt_succ_self _) e⟩
theorem eZd {α β:Type} {R:TRep α} {Rb:TRep β} {fr:Bool} {xs:List α} {ys:List β} {x:α} {u:G1} (n:α) (i:Nat) (K d:Nat) (o:xs[i]? = some x)
  (W:∀ F w l,R.rep F w x l->SlR Rb F w ys u.1->R.rep F w n l) (f:Nat.beq K d=false) {c:Cf}
  (k:Wc X (Sb (fun s=>⟨s.L,(K,.own R (xs.set i n) fr)::(d,.gone)::s.M,(d,.sl Rb ys)::s.V,s.nx⟩) c))
  (t:(ZQ c.st.M K,ZQ c.st.M d,ZQ c.st.V d)=(some (.own R xs fr),some (.own Rb ys true),some (.fn (XR u))):=by kernel_rfl):Wc X c:=by
 simp only [Zp] at t
 have ⟨p,z,G⟩:=t
 refine Q0 (fun E F w a v=>?_) k
 have B:E.ρ d=u.1:=v.hV d _ G
 have q:=v.freeze z
 have C:ZQ ((d,MO.gone)::c.st.M) K=some (.own R xs fr):=by
  rw [YG]
  have:¬ d=K:=fun e=>by
   rw [e,Nat.beq_refl K] at f;cases f
  rw [if_neg this];exact p
 have r:SlR Rb (fun b=>F b\/YH (E.ρ d)=some b) w ys u.1:=by
  have:=q.hV d (.sl Rb ys) (by rw [YG,if_pos rfl])
  have this:SlR Rb _ w ys (E.ρ d):=this
  rw [B] at this
  rw [B];exact this
 refine ⟨E,_,q.setM (m':=.own R (xs.set i n) fr) C rfl rfl .m (Zo _) (fun _ _ _=>rfl) (fun b D=>D) ?_ trivial (fun h=>h)⟩
 have h:OwnR R _ w xs (E.ρ K):=q.hM K _ C
 show OwnR R _ w (xs.set i n) (E.ρ K)
 rcases h with ⟨p,z⟩ | ⟨b,off,cap,arr,el,fz,N,O,P,S,T,A⟩
 ·rw [p] at o;simp at o
 ·refine .inr ⟨b,off,cap,arr,el,fz,by rw [List.length_set];exact N,by rw [List.length_set];exact O,P,S,T,fun j y g=>?_⟩
  rw [List.getElem?_set] at g
  split at g
  ·rename_i e
   subst e
   have hi:i < xs.length:=(List.getElem?_eq_some_iff.1 o).1
   try rw [if_pos hi] at g
   cases g
   have ⟨l,H,I⟩:=A i x o
   exact ⟨l,W _ w l H r,I⟩
  ·exact A j y g
def Gm (L:G1) (j:Nat) (v:Value):Prop:=v=WC L.1 j/\∃ (b off:Nat),v=.pointer (some ⟨b,off,none⟩)
theorem eZp {L:G1} (q K j:Nat) {c:Cf} (k:Wc X (Sb (fun s=>⟨s.L,s.M,(q,.fn (Gm L j))::s.V,s.nx⟩) c))
  (d:(ZQ c.st.V q,ZQ c.st.V K,Nat.blt q c.st.nx)=(some (.el K j),some (.fn (XR L)),true):=by kernel_rfl):Wc X c:=by
 simp only [Zp] at d
 have ⟨e,f,g⟩:=d
 refine Q0 (fun E F w a b=>⟨E,F,b.addFn (YT g) ?_⟩) k
 obtain ⟨h,i⟩:E.ρ q=WC (E.ρ K) j/\_:=b.hV q _ e
 have l:E.ρ K=L.1:=b.hV K _ f
 exact ⟨by rw [h,l],i⟩
theorem eZq {L:G1} (q K j:Nat) {c:Cf} (k:Wc X (Sb (fun s=>⟨s.L,s.M,(q,.el K j)::s.V,s.nx⟩) c))
  (g:(ZQ c.st.V q,ZQ c.st.V K,Nat.blt q c.st.nx && Nat.blt K c.st.nx)=(some (.fn (Gm L j)),some (.fn (XR L)),true):=by kernel_rfl):Wc X c:=by
 simp only [Zp,Zc] at g
 have ⟨h,l,m,n⟩:=g
 refine Q0 (fun E F w a d=>⟨E,F,?_⟩) k
 obtain ⟨o,p⟩:Gm L j (E.ρ q):=d.hV q _ h
 have r:E.ρ K=L.1:=d.hV K _ l
 exact { d with
  wf:=⟨d.wf.hL,d.wf.hM,fun i f b=>by
   rw [YG] at b
   split at b
   ·rename_i e;cases b;subst e;exact ⟨YT m,YT n⟩
   ·exact d.wf.hV i f b⟩
  hV:=fun i f b=>by
   rw [YG] at b
   split at b
   ·rename_i e;cases b;subst e;exact ⟨by rw [o,r],p⟩
   ·exact d.hV i f b }
theorem Gh {α:Type} {R:TRep α} {fr:Bool} {xs:List α} (ys:List α) (K:Nat) (e:ys=xs) {c:Cf}
  (k:Wc X (Sb (fun s=>⟨s.L,(K,.own R ys fr)::s.M,s.V,s.nx⟩) c)) (b:ZQ c.st.M K=some (.own R xs fr):=by kernel_rfl):Wc X c :=
 QQ ys K rfl (by rw [e]) (fun i x y d a F w f h=>by rw [e,d] at a;cases a;exact h) k b
variable {s:St} {ops:Array Oper} {todo:Act->World->Prop} {tt:List (Nat × TD)}
theorem WPr.ldk {α:Type} {R:TRep α} (O:Opn R) (htt:TTOk X.P tt) {i:Nat} {rest:List Nat} {o:Oper} {t:TypeId} {G:TD} {x:Operand} {d k q off:Nat} {n:Int} {xs:List α} {e:α} {fr:Bool} {v:SV} (z:SV)
  (hi:ZW xs n=some e) (K:ops[i]? = some o) (N:YO ops s.L o=some true) (A:o.op=.load t x) (S:o.dst=some d)
  (T:Yd s.L x=some (.c (.px q off))) (hV:ZQ s.V q=some (.el k (n.toNat * R.sz))) (hM:ZQ s.M k=some (.own R xs fr)) (U:ZQ tt t=some G)
  (W:WO G off (O.cells s.nx e)=some v) (Y:Nat.blt d X.fn.ntmps=true) (B:z.kb s.nx)
  (h:∀ E2 E F w,(∀ p∈O.facts s.nx e,p.2.ok E2 F w (E2.ρ p.1))->(∀ k f,ZQ s.V k=some f->f.ok E F w (E.ρ k))->Yc E2 v=Yc E z)
  (k:WPr X ops rest todo ⟨(d,z)::s.L,s.M,s.V,s.nx⟩):WPr X ops (i::rest) todo s:=by
 refine WPr.op K N (fun E F w a m=>?_) k
 rename_i k0
 have ⟨_,_,r⟩:=SX hi
 have y:=m.hM k0 _ hM
 simp only [MO.ok] at y
 rcases y with ⟨rfl,_⟩ | ⟨b,H,cap,arr,ty,fz,hv,I,_,_,hh,hr⟩
 ·simp at r
 have ⟨vs,u,C⟩:=hr n.toNat e r
 have ⟨E2,a1,_,_,a3,a4,a5,a6⟩:=O.ok u s.nx E m.one
 have ⟨hq,_⟩:=m.hV q _ hV
 have l:∀ (j:Nat) c,(O.cells s.nx e)[j]? = some c->arr[H+n.toNat * R.sz+j]? = some (ZZ E2 c):=fun j c Z=>C j _ (by rw [a4,List.getElem?_map,Z];rfl)
 have D:=GF (E:=E2) (base:=H+n.toNat * R.sz) (htt.get U) hh (cs:=O.cells s.nx e) l W
 have ⟨e1,_⟩:=m.eval T
 have g:(execOp a.eval o).run X.P w=.ok (.value (Yc E2 v)) w:=by
  have:(Instr.loadAt t (a.eval x)).run X.P w=.ok (Yc E2 v) w:=by
   rw [e1]
   simp only [Instr.loadAt,Yc,ZZ,hq,hv,WC,Instr.sureAddr,Sem.run_bind,Sem.run_pure,Result.andThen_ok,D]
  simp only [execOp,A]
  exact Y3 this
 rw [h E2 E F w (fun p hp=>(a5 p hp).2.2.2) m.hV] at g
 refine XW g ?_
 have s3:=m.setL (d:=d) (v:=z) B (YT Y)
 rw [S]
 exact ⟨E,F,s3⟩
def kOf:Option SV->Nat
 | some (.c (.sl q))=>q
 | _=>0
def kO1:Option SV->Nat
 | some (.a (.sl q::_))=>q
 | _=>0
def kO2:Option SV->Nat
 | some (.a (_::.sl q::_))=>q
 | _=>0
theorem ZeM {u:G1} {V:List (Nat × VF)} {k:Nat} {E:Env} {F:YB} {w:World} (h:ZQ V k=some (.fn (XR u))) (hV:∀ k f,ZQ V k=some f->f.ok E F w (E.ρ k)):E.ρ k=u.1:=hV k _ h
theorem ZeN {u:G1} {V:List (Nat × VF)} {k:Nat} {E:Env} {F:YB} {w:World} (h:ZQ V k=some (.fn (XR u))) (hV:∀ p∈V,p.2.ok E F w (E.ρ p.1)):E.ρ k=u.1:=hV _ (YY h)
def Zfi (V:List (Nat × VF)):List Nat->List (Nat × VF)
 | []=>[]
 | k::r=>match ZQ V k with
  | some f=>(k,f)::Zfi V r
  | none=>Zfi V r
def Xr (ks:List Nat) (c:Cf):St:=match c.md with
 | none=>c.st
 | some _=>⟨(ZV c).L,(ZV c).M,Zfi c.st.V ks++(ZV c).V,(ZV c).nx⟩
theorem ZsJ (a:List Nat) (c:Cf):(Xr a c).L=(ZV c).L:=by
 unfold Xr ZV UZ
 cases c.md<;>rfl
def goX (ks:List Nat) (d:Dl) (c:Cf):Cf:=Ls c.md c.ops c.i c.kk c.st (Xr ks c) d
def Wv (ks:List Nat) (c:Cf) (j:Nat):Option SV:=Yd (Xr ks c).L (Yl (ZP c).op j)
theorem Wc.evx (f:List Nat) {c:Cf} {d:Dl} (l:UW c=true) (w:d.dL.map (·.1)=(ZP c).dst.toList)
    (r:∀ nk E0 F0 w0 n0 Z rest K,c.ops[c.i]? = some (ZP c)->YO c.ops (Xr f c).L (ZP c)=some true->WPr (X.var nk E0 F0 w0 n0 Z) c.ops rest K (d.ap (Xr f c))->WPr (X.var nk E0 F0 w0 n0 Z) c.ops (c.i::rest) K (Xr f c))
    (k:Wc X (goX f d c)):Wc X c:=by
  unfold UW at l
  rw [Zc,Zc] at l
  obtain ⟨⟨p,x⟩,n⟩:=l
  cases c with
  | co k s=>cases p
  | no=>cases p
  | rg m ops i g s =>
    have a:ops[i]? = some (ZP (.rg m ops i g s)):=by
      have ⟨o,a⟩:=Option.isSome_iff_exists.1 x
      have a:ops[i]? = some o:=a
      unfold ZP
      show _=some ((ops[i]?).getD default)
      rw [a];rfl
    have j:YO ops (Xr f (.rg m ops i g s)).L (ZP (.rg m ops i g s))=some true:=by
      rw [ZsJ]
      split at n
      · rename_i b t;rw [n] at t;exact t
      · cases n
    have v:=fun nk E0 F0 w0 n0 Z=>Stp.of (X:=X.var nk E0 F0 w0 n0 Z) a j (fun K=>r nk E0 F0 w0 n0 Z [] K a j)
    have ⟨h⟩:=k
    refine ⟨?_⟩
    cases m with
    | none =>
      show WPr X ops (List.range' i (ops.size-i)) (rk X g) s
      rw [Gw a]
      exact WPr.op a j (v X.nk X.E0 X.F0 X.w0 X.n0 X.Z) h
    | some q =>
      intro y u
      refine h (y.snoc (e:=MX (Xr f (.rg (some q) ops i g s)) d) ?_) ?_
      · rw [Nat.zero_add,u]
        exact LS.ent a j w v
      · show (q.2.2++[MX (Xr f (.rg (some q) ops i g s)) d]).length=i+1
        rw [List.length_append,u];rfl
theorem eZl {α:Type} {R:TRep α} {xs:List α} {m:Int} {e:α} {u:G1} {c:Cf} (htt:TTOk X.P tt) (O:Opn R) (K:Nat) (hi:ZW xs m=some e) (k:Wc X (goX [K] (d1 c (.c (.sl K))) c))
  (f:(hB X.fn.ntmps c,(ZP c).dst,(ZP c).op,Wv [K] c 0,ZQ (Xr [K] c).V (Yo (Wv [K] c 0)),ZQ (Xr [K] c).M (Xs (ZQ (Xr [K] c).V (Yo (Wv [K] c 0)))),ZQ tt (Z8 (ZP c).op),WO (Yu tt (Z8 (ZP c).op)) (Xe (Wv [K] c 0)) (O.cells (Xr [K] c).nx e),
    ZQ (O.facts (Xr [K] c).nx e) (kOf (WO (Yu tt (Z8 (ZP c).op)) (Xe (Wv [K] c 0)) (O.cells (Xr [K] c).nx e))),ZQ (Xr [K] c).V K,Nat.blt K (Xr [K] c).nx) =
   (true,some (YL c),.load (Z8 (ZP c).op) (Yl (ZP c).op 0),some (.c (.px (Yo (Wv [K] c 0)) (Xe (Wv [K] c 0)))),some (.el (Xs (ZQ (Xr [K] c).V (Yo (Wv [K] c 0)))) (m.toNat * R.sz)),some (.own R xs (WM (ZQ (Xr [K] c).M (Xs (ZQ (Xr [K] c).V (Yo (Wv [K] c 0))))))),some (Yu tt (Z8 (ZP c).op)),
    some (.c (.sl (kOf (WO (Yu tt (Z8 (ZP c).op)) (Xe (Wv [K] c 0)) (O.cells (Xr [K] c).nx e))))),some (.fn (XR u)),some (.fn (XR u)),true):=by kernel_rfl):Wc X c:=by
 simp only [Zp] at f
 have ⟨o,g,p,q,r,t,v,x,y,a,b⟩:=f
 have ⟨z,A⟩:=Xi o
 refine Wc.evx [K] (d:=d1 c (.c (.sl K))) z (Xl g rfl) (fun nk E0 F0 w0 n0 Z rest B i j h=>WPr.ldk (X:=X.var nk E0 F0 w0 n0 Z) O htt (.c (.sl K)) hi i j p g q r t v x A (YT b) (fun E2 E F w l n=>?_) h) k
 show E2.ρ _=E.ρ K
 rw [ZeN y l,ZeM a n]
theorem eZm {α:Type} {R:TRep α} {xs:List α} {m:Int} {e:α} {u v:G1} {c:Cf} (htt:TTOk X.P tt) (O:Opn R) (K b:Nat) (hi:ZW xs m=some e) (k:Wc X (goX [K,b] (d1 c (.a [.sl K,.sl b])) c))
  (n:(hB X.fn.ntmps c,(ZP c).dst,(ZP c).op,Wv [K,b] c 0,ZQ (Xr [K,b] c).V (Yo (Wv [K,b] c 0)),ZQ (Xr [K,b] c).M (Xs (ZQ (Xr [K,b] c).V (Yo (Wv [K,b] c 0)))),ZQ tt (Z8 (ZP c).op),WO (Yu tt (Z8 (ZP c).op)) (Xe (Wv [K,b] c 0)) (O.cells (Xr [K,b] c).nx e),
    ZQ (O.facts (Xr [K,b] c).nx e) (kO1 (WO (Yu tt (Z8 (ZP c).op)) (Xe (Wv [K,b] c 0)) (O.cells (Xr [K,b] c).nx e))),ZQ (O.facts (Xr [K,b] c).nx e) (kO2 (WO (Yu tt (Z8 (ZP c).op)) (Xe (Wv [K,b] c 0)) (O.cells (Xr [K,b] c).nx e))),ZQ (Xr [K,b] c).V K,ZQ (Xr [K,b] c).V b,Nat.blt K (Xr [K,b] c).nx,Nat.blt b (Xr [K,b] c).nx) =
   (true,some (YL c),.load (Z8 (ZP c).op) (Yl (ZP c).op 0),some (.c (.px (Yo (Wv [K,b] c 0)) (Xe (Wv [K,b] c 0)))),some (.el (Xs (ZQ (Xr [K,b] c).V (Yo (Wv [K,b] c 0)))) (m.toNat * R.sz)),some (.own R xs (WM (ZQ (Xr [K,b] c).M (Xs (ZQ (Xr [K,b] c).V (Yo (Wv [K,b] c 0))))))),some (Yu tt (Z8 (ZP c).op)),
    some (.a [.sl (kO1 (WO (Yu tt (Z8 (ZP c).op)) (Xe (Wv [K,b] c 0)) (O.cells (Xr [K,b] c).nx e))),.sl (kO2 (WO (Yu tt (Z8 (ZP c).op)) (Xe (Wv [K,b] c 0)) (O.cells (Xr [K,b] c).nx e)))]),some (.fn (XR u)),some (.fn (XR v)),some (.fn (XR u)),some (.fn (XR v)),true,true):=by kernel_rfl):Wc X c:=by
 simp only [Zp] at n
 have ⟨z,r,A,B,C,D,G,H,I,f,g,i,j,l⟩:=n
 have ⟨L,N⟩:=Xi z
 refine Wc.evx [K,b] (d:=d1 c (.a [.sl K,.sl b])) L (Xl r rfl) (fun nk E0 F0 w0 n0 Z rest S t y h=>WPr.ldk (X:=X.var nk E0 F0 w0 n0 Z) O htt (.a [.sl K,.sl b]) hi t y A r B C D G H N (fun x o=>?_) (fun E2 E F w p q=>?_) h) k
 ·simp only [List.mem_cons,List.not_mem_nil,or_false] at o
  rcases o with rfl | rfl
  ·exact YT j
  ·exact YT l
 ·simp only [Yc,List.map_cons,List.map_nil,ZZ]
  rw [ZeN I p,ZeN f p,ZeM g q,ZeM i q]
theorem WPr.ncp {i:Nat} {rest:List Nat} {o:Oper} {x:Operand} {d k j q off:Nat} (g:ops[i]? = some o) (h:YO ops s.L o=some true) (e:o.op=.nilCheck x) (l:o.dst=some d)
  (m:Yd s.L x=some (.c (.px q off))) (hV:ZQ s.V q=some (.el k j)) (n:Nat.blt d X.fn.ntmps=true)
  (p:WPr X ops rest todo ⟨(d,.c (.px q off))::s.L,s.M,s.V,s.nx⟩):WPr X ops (i::rest) todo s:=by
 refine WPr.val (fun E F w a f=>?_) g h l n p
 have ⟨r,t⟩:=f.eval m
 have ⟨_,b,v,u⟩:=f.hV q _ hV
 refine ⟨?_,t⟩
 simp only [execOp,e,r,Yc,ZZ,u,WC]
 rfl
def H3:Op->Operand
 | .nilCheck x=>x
 | _=>.const (.bool true)
def elJ:Option VF->Nat
 | some (.el _ j)=>j
 | _=>0
theorem Gf {c:Cf} (q:Nat) (k:Wc X (Xh (d1 c (.c (.px q (Xe (Yd (ZV c).L (H3 (ZP c).op)))))) c))
  (a:(hB X.fn.ntmps c,(ZP c).dst,(ZP c).op,Yd (ZV c).L (H3 (ZP c).op),ZQ (ZV c).V q) =
   (true,some (YL c),.nilCheck (H3 (ZP c).op),some (.c (.px q (Xe (Yd (ZV c).L (H3 (ZP c).op))))),some (.el (Xs (ZQ (ZV c).V q)) (elJ (ZQ (ZV c).V q)))):=by kernel_rfl):Wc X c:=by
 simp only [Zp] at a
 have ⟨g,b,i,j,l⟩:=a
 have ⟨m,n⟩:=Xi g
 exact Wc.ev (d:=d1 c (.c (.px q (Xe (Yd (ZV c).L (H3 (ZP c).op)))))) m (Xl b rfl) (fun nk E0 F0 w0 n0 Z rest K e f h=>WPr.ncp (X:=X.var nk E0 F0 w0 n0 Z) e f i b j l n h) k
end
end Go.Kx
end
