/- Aids for the walks, part 3: a symbolic state of the machine, and that each step of the machine keeps it. -/
import Derived.KernelRfl
import Derived.Sort.AssemblyPlain
import Derived.Shelf.SlSortCmp.Insertion
import Derived.Shelf.SlSortCmp.NoneTotal
import Derived.Lib.LaidTab
import Derived.Lib.Builder
import Derived.Lib.UnsafeStr
import Derived.Sort.EncStr
import Derived.Sort.Grow
import Derived.Lib.SlicesCompact
import Derived.MapKept
import Derived.Test.YtnlleampnlmdlaaGreatDoorExpandProblemsCore2
set_option linter.all false
namespace Go.Kx
section
variable [LxP]
def Cf.ops:Cf->Array Oper
 | .rg _ o _ _ _=>o
 | _=>#[]
def Cf.i:Cf->Nat
 | .rg _ _ i _ _=>i
 | _=>0
def Cf.md:Cf->Option (Nat × St × List Ent)
 | .rg m _ _ _ _=>m
 | _=>none
def Cf.kk:Cf->List Item
 | .rg _ _ _ k _=>k
 | .co (_::k) _=>k
 | _=>[]
def Cf.st:Cf->St
 | .rg _ _ _ _ s=>s
 | .co _ s=>s
 | .no=>⟨[],[],[],0⟩
def Cf.isR:Cf->Bool
 | .rg _ _ _ _ _=>true
 | _=>false
def ZN (c:Cf):Oper:=(c.ops[c.i]?).getD default
def ZW (c:Cf):St:=Tm c.md c.ops (ZN c) c.st
def Y5 (d:Dl) (c:Cf):Cf:=H7 c.md c.ops c.i c.kk c.st (ZW c) d
def TQ (c:Cf):Bool:=c.isR && (c.ops[c.i]?).isSome && (match YJ c.ops (ZW c).L (ZN c) with | some b=>b | none=>false)
def YI (c:Cf):Nat:=(ZN c).dst.getD 0
def UD (s:St):List Nat->List (Nat × MO) × List (Nat × VF)
 | []=>([],[])
 | k::r=>match ZP s.M k with
  | some (.own R xs _)=>match UD s r with
   | q=>((k,.gone)::q.1,(k,.sl R xs)::q.2)
  | _=>([],[])
def Yj (s:St) (fz:List Nat):St:=⟨s.L,(UD s fz).1++s.M,(UD s fz).2++s.V,s.nx⟩
def U8 (s:St) (fz:List Nat):Bool:=XC fz && fz.all fun k=>match ZP s.M k with
 | some (.own _ _ fr)=>fr
 | _=>false
def Dl.fz (d:Dl) (s:St) (fz:List Nat):Dl:=⟨d.dL,d.dM++(UD s fz).1,d.dV++(UD s fz).2,d.n⟩
theorem Dl.fz_ap (d:Dl) (s:St) (fz:List Nat):(d.fz s fz).ap s=d.ap (Yj s fz):=by
 simp [Dl.fz,Dl.ap,Yj]
theorem Zh1 {s:St} {k:Nat}:∀ {fz:List Nat},k ∉ fz->ZP (UD s fz).1 k=none
 | [],_=>rfl
 | j::r,h=>by
  unfold UD
  split
  ·simp only []
   rw [YD,if_neg fun e=>h (by rw [e];exact Zj)]
   exact Zh1 fun b=>h (Zi _ b)
  ·rfl
theorem ZdR {X:Ctx} {s:St} {E F w a} (i:Sat X s E F w a):∀ {fz:List Nat},U8 s fz=true->∃ m,Sat X (Yj s fz) E m w a
 | [],_=>⟨F,i⟩
 | k::r,h=>by
  unfold U8 at h
  simp only [Zc,List.all_cons] at h
  have ⟨c,d,l⟩:=h
  have j:k ∉ r/\XC r=true:=by
   have:=Q1 c
   rw [List.nodup_cons] at this
   refine ⟨this.1,?_⟩
   unfold XC at c
   rw [Zc] at c
   exact c.2
  have ⟨F1,f⟩:=ZdR i (fz:=r) (by unfold U8;rw [Zc];exact ⟨j.2,l⟩)
  split at d
  ·rename_i α R xs fr hm
   subst d
   have g:ZP (Yj s r).M k=some (.own R xs true):=by
    show ZP ((UD s r).1++s.M) k=_
    rw [XB,Zh1 j.1];exact hm
   refine ⟨fun b=>F1 b\/YC (E.ρ k)=some b,?_⟩
   have:=f.freeze g
   have e:UD s (k::r)=((k,.gone)::(UD s r).1,(k,.sl R xs)::(UD s r).2):=by
    conv=>lhs;unfold UD
    rw [hm]
   unfold Yj
   rw [e]
   exact this
  ·cases d
section
variable {X:Ctx} {tt:List (Nat × TD)}
theorem Stp.of {ops:Array Oper} {i:Nat} {o:Oper} {s d:St} (m:ops[i]? = some o) (n:YJ ops s.L o=some true) (r:∀ K,WPr X ops [] K d->WPr X ops [i] K s) :
  ∀ E F w a,Sat X s E F w a->o.wp X.P a w (fun f w'=>∃ k l,Sat X d k l w' f) (fun _ _ _=>False):=fun E F w a c=>by
 have h:=r (fun f w'=>∃ k l,Sat X d k l w' f) (fun E F w a c=>⟨rfl,E,F,c⟩) E F w a c
 have j:=QW c n
 simp only [wpOps,m,j,if_true] at h
 rcases h with h | ⟨_,h⟩
 ·unfold Oper.wp at h ⊢
  unfold Oper.upon at h ⊢
  split at h
  ·exact h.2
  ·exact h.2
  ·exact h.2
  ·refine Calls.mono h fun e w' b=>?_
   split at b
   ·exact b.2
   ·cases b.1
   ·have ⟨a1,p,g⟩:=b;cases g.1
  ·exact Rows.mono h fun v w' b=>b.2
  ·cases h.1
  ·exact h.elim
 ·have ⟨a1,p,g⟩:=h;cases g.1
theorem Wc.ev {c:Cf} {d:Dl} (f:TQ c=true) (p:d.dL.map (·.1)=(ZN c).dst.toList)
    (r:∀ nk E0 F0 w0 n0 Z rest K,c.ops[c.i]? = some (ZN c)->YJ c.ops (ZW c).L (ZN c)=some true->WPr (X.var nk E0 F0 w0 n0 Z) c.ops rest K (d.ap (ZW c))->WPr (X.var nk E0 F0 w0 n0 Z) c.ops (c.i::rest) K (ZW c))
    (k:Wc X (Y5 d c)):Wc X c:=by
  unfold TQ at f
  rw [Zc,Zc] at f
  obtain ⟨⟨l,q⟩,g⟩:=f
  cases c with
  | co k s=>cases l
  | no=>cases l
  | rg m ops i j s =>
    have e:ops[i]? = some (ZN (.rg m ops i j s)):=by
      have ⟨o,e⟩:=Option.isSome_iff_exists.1 q
      have e:ops[i]? = some o:=e
      unfold ZN
      show _=some ((ops[i]?).getD default)
      rw [e];rfl
    have h:YJ ops (ZW (.rg m ops i j s)).L (ZN (.rg m ops i j s))=some true:=by
      split at g
      · rename_i b n;rw [g] at n;exact n
      · cases g
    exact ZjZ e h p (fun nk E0 F0 w0 n0 Z=>Stp.of (X:=X.var nk E0 F0 w0 n0 Z) e h (fun K=>r nk E0 F0 w0 n0 Z [] K e h)) k
theorem Wc.evz {c:Cf} {d:Dl} (fz:List Nat) (e:TQ c=true) (f:U8 (ZW c) fz=true) (g:d.dL.map (·.1)=(ZN c).dst.toList)
    (r:∀ nk E0 F0 w0 n0 Z rest K,c.ops[c.i]? = some (ZN c)->YJ c.ops (Yj (ZW c) fz).L (ZN c)=some true->WPr (X.var nk E0 F0 w0 n0 Z) c.ops rest K (d.ap (Yj (ZW c) fz))->WPr (X.var nk E0 F0 w0 n0 Z) c.ops (c.i::rest) K (Yj (ZW c) fz))
    (k:Wc X (Y5 (d.fz (ZW c) fz) c)):Wc X c:=by
  refine Wc.ev (d:=d.fz (ZW c) fz) e g (fun nk E0 F0 w0 n0 Z rest K j l h=>?_) k
  rw [Dl.fz_ap] at h
  have:=r nk E0 F0 w0 n0 Z rest K j l h
  intro E F w a n
  have ⟨m,b⟩:=ZdR n f
  exact this E m w a b
def Ym:Op->Nat->Operand
 | .indexAddr _ x y,j | .index _ x y,j | .store _ x y,j | .binOp _ _ x y _,j | .makeSlice _ x y,j | .lookup _ x y _,j=>match j with
  | 0=>x
  | _=>y
 | .mapUpdate _ x y z,j=>match j with
  | 0=>x
  | 1=>y
  | _=>z
 | .load _ x,_ | .slice _ x _ _ _,_ | .convert _ _ x,_ | .range _ x,_ | .next x _,_=>x
 | .call c,j=>(c.args.toList[j]?).getD (.const (.bool true))
 | _,_=>.const (.bool true)
def Z9:Op->TypeId
 | .indexAddr t _ _ | .index t _ _ | .store t _ _ | .binOp _ t _ _ _ | .makeSlice t _ _ | .load t _ | .slice t _ _ _ _ | .convert t _ _ | .range t _ | .buildSlice t _ _ | .makeMap t _ | .lookup t _ _ _ | .mapUpdate t _ _ _=>t
 | .call c=>(c.argTypes.toList[0]?).getD 0
 | _=>0
def Xn:Op->TypeId
 | .convert _ t _ | .binOp _ _ _ _ t=>t
 | .call c=>(c.argTypes.toList[1]?).getD 0
 | _=>0
def UH:Op->Option Operand
 | .slice _ _ l _ _=>l
 | _=>none
def UE:Op->Option Operand
 | .slice _ _ _ h _=>h
 | _=>none
def Uz:Op->Operand
 | .call c=>match c.callee with
  | .value f=>f
  | _=>.const (.bool true)
 | _=>.const (.bool true)
def Mx:Op->Array Operand
 | .call c=>c.args
 | _=>#[]
def Lj:Op->Array TypeId
 | .call c=>c.argTypes
 | _=>#[]
def Uj:Op->Nat
 | .buildSlice _ n _=>n
 | _=>0
def MZ:Op->Array (Nat × Operand)
 | .buildSlice _ _ p=>p
 | _=>#[]
def Z7 (c:Cf) (j:Nat):Option SV:=Ya (ZW c).L (Ym (ZN c).op j)
def Yw (tt:List (Nat × TD)) (t:TypeId):TD:=(ZP tt t).getD ⟨0,0,false,[],[],0,0,0,none,0,0⟩
def Yt:Option SV->Nat
 | some (.c (.sl k)) | some (.c (.px k _)) | some (.c (.bp k _))=>k
 | _=>0
def X3:Option SV->Nat
 | some (.c (.px _ o)) | some (.c (.bp _ o))=>o
 | _=>0
def SD:Option SV->IntKind
 | some (.c (.i k _))=>k
 | _=>.i64
def UA:Option SV->SC
 | some (.c x)=>x
 | _=>.nil
def Bo:Option SV->List SC
 | some (.a cs)=>cs
 | _=>[]
def RZ:Option SV->SV
 | some v=>v
 | none=>.u
def U6 (v:Option SV):List SC:=((WR (RZ v)).getD [])
def Zie:Option SV->Int
 | some (.c (.i _ n))=>n
 | _=>0
def Zj0:Option SV->ByteArray
 | some (.c (.s m))=>m
 | _=>⟨#[]⟩
def U9:Option MO->Bool
 | some (.own _ _ fr)=>fr
 | _=>false
def WL:Option VF->Nat
 | some (.el k _)=>k
 | some (.vw k _ _ _)=>k
 | _=>0
structure SlF:Type 1 where
 {α:Type}
 R:TRep α
 xs:List α
def MD (s:St):SC->Option SlF
 | .sl k=>match ZP s.M k with
  | some (.own R xs _)=>some ⟨R,xs⟩
  | _=>match ZP s.V k with
   | some (.sl R xs)=>some ⟨R,xs⟩
   | _=>none
 | _=>none
theorem Zdt {s:St} {c:SC} {α:Type} {R:TRep α} {xs:List α} (h:MD s c=some ⟨R,xs⟩):∃ k,c=.sl k/\(ZP s.V k=some (.sl R xs)\/∃ fr,ZP s.M k=some (.own R xs fr)):=by
 unfold MD at h
 split at h
 ·rename_i k
  refine ⟨k,rfl,?_⟩
  split at h
  ·rename_i b;cases h;exact .inr ⟨_,b⟩
  ·split at h
   ·rename_i d;cases h;exact .inl d
   ·cases h
 ·cases h
theorem Zg4 {s:St} {c:SC} {α:Type} {R:TRep α} {xs:List α} (h:MD s c=some ⟨R,xs⟩):Ux X s R xs c:=by
 obtain ⟨k,rfl,h | ⟨fr,h⟩⟩:=Zdt h
 ·exact ZqC h
 ·exact ZqE h
def d1 (c:Cf) (v:SV):Dl:=⟨[(YI c,v)],[],[],0⟩
theorem Xd {c:Cf} {L:List (Nat × SV)} {v:SV} (h:(ZN c).dst=some (YI c)) (b:L=[(YI c,v)]):L.map (·.1)=(ZN c).dst.toList:=by rw [b,h];rfl
def hB (nt:Nat) (c:Cf):Bool:=TQ c && Nat.blt (YI c) nt
def Le (tt:List (Nat × TD)) (sz:Nat) (c:Cf):Bool:=Nat.beq (Yw tt (Z9 (ZN c).op)).kd 6 && Nat.beq (Yw tt (Z9 (ZN c).op)).es sz
theorem Xa {b:Nat} {c:Cf} (h:hB b c=true):TQ c=true/\Nat.blt (YI c) b=true:=by
 unfold hB at h;rwa [Zc] at h
theorem ZaA {sz b:Nat} {c:Cf} (h:Le tt sz c=true) (d:Nat.blt (YI c) b=true):(Nat.blt (YI c) b && Nat.beq (Yw tt (Z9 (ZN c).op)).kd 6 && Nat.beq (Yw tt (Z9 (ZN c).op)).es sz)=true:=by
 unfold Le at h;rw [Bool.and_assoc,h,d];rfl
def ZaB {α:Type} (s:St) (ys:List α) (c:SC):Option SlF × ULift.{1,0} (List α):=match c with
 | .nil=>(none,⟨ys⟩)
 | c=>(MD s c,⟨[]⟩)
def ZaC {α:Type} (R:TRep α) (ys:List α) (c:SC):Option SlF × ULift.{1,0} (List α):=match c with
 | .nil=>(none,⟨[]⟩)
 | _=>(some ⟨R,ys⟩,⟨[]⟩)
theorem ZjY {α:Type} {R:TRep α} {s:St} {ys:List α} {c:SC} (h:ZaB s ys c=ZaC R ys c):Ux X s R ys c:=by
 unfold ZaB at h
 split at h
 ·have:=congrArg ULift.down (Prod.mk.inj h).2
  have h:ys=[]:=this
  rw [h];exact ZqD
 ·rename_i b
  unfold ZaC at h
  split at h
  ·exact (b rfl).elim
  ·exact Zg4 (Prod.mk.inj h).1
def H3 {α:Type} {R:TRep α} (O:Opn R) (V:Nat->Option VF):List α->List SC->List O.T
 | [],_=>[]
 | x::xs,cs=>O.lq V x (cs.take R.sz)::H3 O V xs (cs.drop R.sz)
def H4 {α:Type} {R:TRep α} (O:Opn R) (V:Nat->Option VF):List α->List SC->List O.T
 | [],_=>[]
 | x::xs,cs=>O.rq V x (cs.take R.sz)::H4 O V xs (cs.drop R.sz)
def H2 (sz:Nat) {α:Type}:List α->List SC->List SC
 | [],cs=>cs
 | _::xs,cs=>H2 sz xs (cs.drop sz)
theorem Zat {α:Type} {R:TRep α} {O:Opn R} {V:Nat->Option VF}:∀ {xs:List α} {cs:List SC},H3 O V xs cs=H4 O V xs cs->H2 R.sz xs cs=[]->MA O V xs cs
 | [],_,_,h=>h
 | _::_,_,h,g=>⟨O.eqn (List.cons.inj h).1,Zat (List.cons.inj h).2 g⟩
def BC:Option SV->List Nat
 | some (.c (.cl _ fs _))=>fs
 | _=>[]
def BD:Option SV->List Nat
 | some (.c (.cl _ _ ks))=>ks
 | _=>[]
def Zl3 (s:St) (c:Ct) (l:List (Nat × SC)) (d:Nat):Dl :=
 ⟨[(d,W2 ⟨l,c.nk,s.nx⟩ c.res)],c.M1.filterMap fun p=>(WC ⟨l,c.nk,s.nx⟩ p.1 p.2).map fun j=>(j,Uy s ⟨l,c.nk,s.nx⟩ (Sv s ⟨l,c.nk,s.nx⟩ c) c.nk p.1 p.2),c.V1.map fun p=>((⟨l,c.nk,s.nx⟩:Ren).sh p.1,p.2),c.nr-c.nk⟩
def BG {α:Type} {R:TRep α} (O:Opn R) (e:α) (c:Cf):Dl:=⟨[(YI c,.c (.px (ZW c).nx 0))],[],O.facts ((ZW c).nx+1) e++[((ZW c).nx,.pl (O.cells ((ZW c).nx+1) e))],1+O.nk⟩
def nIx {α:Type} {R:TRep α} (O:Opn R) (e:α) (c:Cf):Cf:=Y5 (BG O e c) c
theorem Yb {α:Type} {R:TRep α} {xs:List α} {m:Int} {e:α} {c:Cf} (htt:TTOk X.P tt) (O:Opn R) (hi:Z6 xs m=some e) (k:Wc X (nIx O e c))
  (b:(hB X.fn.ntmps c,(ZN c).dst,(ZN c).op,Z7 c 0,ZP (ZW c).V (Yt (Z7 c 0)),Z7 c 1,ZP tt (Z9 (ZN c).op),Le tt R.sz c)=(true,some (YI c),.indexAddr (Z9 (ZN c).op) (Ym (ZN c).op 0) (Ym (ZN c).op 1),some (.c (.sl (Yt (Z7 c 0)))),some (.sl R xs),some (.c (.i (SD (Z7 c 1)) m)),some (Yw tt (Z9 (ZN c).op)),true):=by kernel_rfl):Wc X c:=by
 simp only [Zp] at b
 have ⟨l,f,n,o,p,q,r,u⟩:=b
 have ⟨v,x⟩:=Xa l
 refine Wc.ev (d:=BG O e c) v (Xd f rfl) (fun nk E0 F0 w0 n0 Z rest K g j h=>WPr.ix (X:=X.var nk E0 F0 w0 n0 Z) O htt hi g j n f o p q r (ZaA u x) ?_) k
 have y:(BG O e c).ap (ZW c)=⟨(YI c,.c (.px (ZW c).nx 0))::(ZW c).L,(ZW c).M,O.facts ((ZW c).nx+1) e++((ZW c).nx,.pl (O.cells ((ZW c).nx+1) e))::(ZW c).V,(ZW c).nx+1+O.nk⟩:=by
  simp [BG,Dl.ap,Nat.add_assoc]
 rw [<- y];exact h
def dIo (m:Int) (sz:Nat) (c:Cf):Dl:=⟨[(YI c,.c (.px (ZW c).nx 0))],[],[((ZW c).nx,.el (Yt (Z7 c 0)) (m.toNat * sz))],1⟩
def nIo (m:Int) (sz:Nat) (c:Cf):Cf:=Y5 (dIo m sz c) c
theorem Vm {α:Type} {xs:List α} {m:Int} {e:α} {c:Cf} (htt:TTOk X.P tt) (R:TRep α) (hi:Z6 xs m=some e) (k:Wc X (nIo m R.sz c))
  (b:(hB X.fn.ntmps c,(ZN c).dst,(ZN c).op,Z7 c 0,ZP (ZW c).M (Yt (Z7 c 0)),Z7 c 1,ZP tt (Z9 (ZN c).op),Le tt R.sz c)=(true,some (YI c),.indexAddr (Z9 (ZN c).op) (Ym (ZN c).op 0) (Ym (ZN c).op 1),some (.c (.sl (Yt (Z7 c 0)))),some (.own R xs (U9 (ZP (ZW c).M (Yt (Z7 c 0))))),some (.c (.i (SD (Z7 c 1)) m)),some (Yw tt (Z9 (ZN c).op)),true):=by kernel_rfl):Wc X c:=by
 simp only [Zp] at b
 have ⟨l,f,n,o,p,q,r,u⟩:=b
 have ⟨v,x⟩:=Xa l
 refine Wc.ev (d:=dIo m R.sz c) v (Xd f rfl) (fun nk E0 F0 w0 n0 Z rest K g j h=>WPr.ixo (X:=X.var nk E0 F0 w0 n0 Z) htt hi g j n f o p q r (ZaA u x) h) k
def dLd {α:Type} {R:TRep α} (O:Opn R) (e:α) (tt:List (Nat × TD)) (c:Cf):Dl:=⟨[(YI c,RZ (Ta (Yw tt (Z9 (ZN c).op)) (X3 (Z7 c 0)) (O.cells (ZW c).nx e)))],[],O.facts (ZW c).nx e,O.nk⟩
def nLd {α:Type} {R:TRep α} (O:Opn R) (e:α) (tt:List (Nat × TD)) (c:Cf):Cf:=Y5 (dLd O e tt c) c
theorem MI {α:Type} {R:TRep α} {xs:List α} {m:Int} {e:α} {c:Cf} (htt:TTOk X.P tt) (O:Opn R) (hi:Z6 xs m=some e) (k:Wc X (nLd O e tt c))
  (b:(hB X.fn.ntmps c,(ZN c).dst,(ZN c).op,Z7 c 0,ZP (ZW c).V (Yt (Z7 c 0)),ZP (ZW c).M (WL (ZP (ZW c).V (Yt (Z7 c 0)))),ZP tt (Z9 (ZN c).op),Ta (Yw tt (Z9 (ZN c).op)) (X3 (Z7 c 0)) (O.cells (ZW c).nx e))=(true,some (YI c),.load (Z9 (ZN c).op) (Ym (ZN c).op 0),some (.c (.px (Yt (Z7 c 0)) (X3 (Z7 c 0)))),some (.el (WL (ZP (ZW c).V (Yt (Z7 c 0)))) (m.toNat * R.sz)),some (.own R xs (U9 (ZP (ZW c).M (WL (ZP (ZW c).V (Yt (Z7 c 0))))))),some (Yw tt (Z9 (ZN c).op)),some (RZ (Ta (Yw tt (Z9 (ZN c).op)) (X3 (Z7 c 0)) (O.cells (ZW c).nx e)))):=by kernel_rfl):Wc X c:=by
 simp only [Zp] at b
 have ⟨j,f,l,n,o,p,q,r⟩:=b
 have ⟨u,v⟩:=Xa j
 refine Wc.ev (d:=dLd O e tt c) u (Xd f rfl) (fun nk E0 F0 w0 n0 Z rest K g i h=>WPr.ldo (X:=X.var nk E0 F0 w0 n0 Z) O htt hi g i l f n o p q r v h) k
def dSt {α:Type} (R:TRep α) (xs:List α) (m:Int) (e2:α) (fz:List Nat) (c:Cf):Dl:=⟨[],[((WL (ZP (Yj (ZW c) fz).V (Yt (Ya (Yj (ZW c) fz).L (Ym (ZN c).op 0))))),.own R (XK xs m e2) (U9 (ZP (Yj (ZW c) fz).M (WL (ZP (Yj (ZW c) fz).V (Yt (Ya (Yj (ZW c) fz).L (Ym (ZN c).op 0))))))))],[],0⟩
def nSt {α:Type} (R:TRep α) (xs:List α) (m:Int) (e2:α) (fz:List Nat) (c:Cf):Cf:=Y5 ((dSt R xs m e2 fz c).fz (ZW c) fz) c
theorem SB {α:Type} {R:TRep α} {xs:List α} {m:Int} {e:α} {c:Cf} (htt:TTOk X.P tt) (fz:List Nat) (O:Opn R) (b:α) (hi:Z6 xs m=some e) (k:Wc X (nSt R xs m b fz c))
  (j:(TQ c,(ZN c).dst,U8 (ZW c) fz,(ZN c).op,(Ya (Yj (ZW c) fz).L (Ym (ZN c).op 0)),ZP (Yj (ZW c) fz).V (Yt (Ya (Yj (ZW c) fz).L (Ym (ZN c).op 0))),ZP (Yj (ZW c) fz).M (WL (ZP (Yj (ZW c) fz).V (Yt (Ya (Yj (ZW c) fz).L (Ym (ZN c).op 0))))),ZP tt (Z9 (ZN c).op),(Ya (Yj (ZW c) fz).L (Ym (ZN c).op 1)),WR (RZ (Ya (Yj (ZW c) fz).L (Ym (ZN c).op 1))),O.lq (ZP (Yj (ZW c) fz).V) b ((O.cells (Yj (ZW c) fz).nx e).take (X3 (Ya (Yj (ZW c) fz).L (Ym (ZN c).op 0)))++(U6 (Ya (Yj (ZW c) fz).L (Ym (ZN c).op 1)))++(O.cells (Yj (ZW c) fz).nx e).drop ((X3 (Ya (Yj (ZW c) fz).L (Ym (ZN c).op 0)))+(U6 (Ya (Yj (ZW c) fz).L (Ym (ZN c).op 1))).length)),(Nat.beq (U6 (Ya (Yj (ZW c) fz).L (Ym (ZN c).op 1))).length (Yw tt (Z9 (ZN c).op)).sz && Nat.ble ((X3 (Ya (Yj (ZW c) fz).L (Ym (ZN c).op 0)))+(U6 (Ya (Yj (ZW c) fz).L (Ym (ZN c).op 1))).length) R.sz && (Nat.beq (U6 (Ya (Yj (ZW c) fz).L (Ym (ZN c).op 1))).length R.sz || Nat.beq O.nk 0)))=(true,none,true,.store (Z9 (ZN c).op) (Ym (ZN c).op 0) (Ym (ZN c).op 1),some (.c (.px (Yt (Ya (Yj (ZW c) fz).L (Ym (ZN c).op 0))) (X3 (Ya (Yj (ZW c) fz).L (Ym (ZN c).op 0))))),some (.el (WL (ZP (Yj (ZW c) fz).V (Yt (Ya (Yj (ZW c) fz).L (Ym (ZN c).op 0))))) (m.toNat * R.sz)),some (.own R xs (U9 (ZP (Yj (ZW c) fz).M (WL (ZP (Yj (ZW c) fz).V (Yt (Ya (Yj (ZW c) fz).L (Ym (ZN c).op 0)))))))),some (Yw tt (Z9 (ZN c).op)),some (RZ (Ya (Yj (ZW c) fz).L (Ym (ZN c).op 1))),some (U6 (Ya (Yj (ZW c) fz).L (Ym (ZN c).op 1))),O.rq (ZP (Yj (ZW c) fz).V) b ((O.cells (Yj (ZW c) fz).nx e).take (X3 (Ya (Yj (ZW c) fz).L (Ym (ZN c).op 0)))++(U6 (Ya (Yj (ZW c) fz).L (Ym (ZN c).op 1)))++(O.cells (Yj (ZW c) fz).nx e).drop ((X3 (Ya (Yj (ZW c) fz).L (Ym (ZN c).op 0)))+(U6 (Ya (Yj (ZW c) fz).L (Ym (ZN c).op 1))).length)),true):=by kernel_rfl):Wc X c:=by
 simp only [Zp] at j
 have ⟨p,l,q,r,u,v,x,y,z,f,g,i⟩:=j
 have A:=p
 refine Wc.evz (d:=dSt R xs m b fz c) fz A q (by rw [l];rfl) (fun nk E0 F0 w0 n0 Z rest K n o h=>WPr.sto (X:=X.var nk E0 F0 w0 n0 Z) O htt b hi n o r l u v x y z f (O.eqn g) i h) k
def dAp {α:Type} (R:TRep α) (zs:List α) (c:Cf):Dl:=⟨[(YI c,.c (.sl (ZW c).nx))],[((ZW c).nx,.own R zs (U9 (ZP (ZW c).M (Yt (Z7 c 0))))),((Yt (Z7 c 0)),.gone)],[],1⟩
def nAp {α:Type} (R:TRep α) (zs:List α) (c:Cf):Cf:=Y5 (dAp R zs c) c
theorem YK {α:Type} {xs ys zs:List α} {c:Cf} (htt:TTOk X.P tt) (R:TRep α) (g:YG xs ys=some zs) (k:Wc X (nAp R zs c))
  (e:(hB X.fn.ntmps c,(ZN c).dst,(ZN c).op,Z7 c 0,ZP (ZW c).M (Yt (Z7 c 0)),Z7 c 1,ZP tt (Z9 (ZN c).op),ZP tt (Xn (ZN c).op),(Nat.beq (Yw tt (Z9 (ZN c).op)).kd 6 && (Nat.beq (Yw tt (Xn (ZN c).op)).kd 6 || Nat.beq (Yw tt (Xn (ZN c).op)).kd 2) && Nat.beq (Yw tt (Z9 (ZN c).op)).es R.sz && Nat.ble (Yw tt (Z9 (ZN c).op)).eb 32768),ZaB (ZW c) ys (UA (Z7 c 1)))=(true,some (YI c),.call { callee:=.builtin .append,args:=#[Ym (ZN c).op 0,Ym (ZN c).op 1],argTypes:=#[Z9 (ZN c).op,Xn (ZN c).op] },some (.c (.sl (Yt (Z7 c 0)))),some (.own R xs (U9 (ZP (ZW c).M (Yt (Z7 c 0))))),some (.c (UA (Z7 c 1))),some (Yw tt (Z9 (ZN c).op)),some (Yw tt (Xn (ZN c).op)),true,ZaC R ys (UA (Z7 c 1))):=by kernel_rfl):Wc X c:=by
 simp only [Zp] at e
 have ⟨l,f,m,n,o,p,q,r,u,b⟩:=e
 have ⟨v,x⟩:=Xa l
 refine Wc.ev (d:=dAp R zs c) v (Xd f rfl) (fun nk E0 F0 w0 n0 Z rest K i j h=>WPr.app (X:=X.var nk E0 F0 w0 n0 Z) htt g (ZjY b) i j m f n o p q r (by rw [x];simpa using u) h) k
def dAn {α:Type} (R:TRep α) (zs:List α) (c:Cf):Dl:=⟨[(YI c,.c (.sl (ZW c).nx))],[((ZW c).nx,.own R zs true)],[],1⟩
def nAn {α:Type} (R:TRep α) (zs:List α) (c:Cf):Cf:=Y5 (dAn R zs c) c
theorem eAn {α:Type} {ys zs:List α} {c:Cf} (htt:TTOk X.P tt) (R:TRep α) (f:YG [] ys=some zs) (k:Wc X (nAn R zs c))
  (b:(hB X.fn.ntmps c,(ZN c).dst,(ZN c).op,Z7 c 0,Z7 c 1,ZP tt (Z9 (ZN c).op),ZP tt (Xn (ZN c).op),(Nat.beq (Yw tt (Z9 (ZN c).op)).kd 6 && (Nat.beq (Yw tt (Xn (ZN c).op)).kd 6 || Nat.beq (Yw tt (Xn (ZN c).op)).kd 2) && Nat.beq (Yw tt (Z9 (ZN c).op)).es R.sz && Nat.ble (Yw tt (Z9 (ZN c).op)).eb 32768),ZaB (ZW c) ys (UA (Z7 c 1)))=(true,some (YI c),.call { callee:=.builtin .append,args:=#[Ym (ZN c).op 0,Ym (ZN c).op 1],argTypes:=#[Z9 (ZN c).op,Xn (ZN c).op] },some (.c .nil),some (.c (UA (Z7 c 1))),some (Yw tt (Z9 (ZN c).op)),some (Yw tt (Xn (ZN c).op)),true,ZaC R ys (UA (Z7 c 1))):=by kernel_rfl):Wc X c:=by
 simp only [Zp] at b
 have ⟨j,e,l,m,n,o,p,q,r⟩:=b
 have ⟨u,v⟩:=Xa j
 refine Wc.ev (d:=dAn R zs c) u (Xd e rfl) (fun nk E0 F0 w0 n0 Z rest K g i h=>WPr.appN (X:=X.var nk E0 F0 w0 n0 Z) R htt f (ZjY r) g i l e m n o p (by rw [v];simpa using q) h) k
def dBs {α:Type} (R:TRep α) (xs:List α) (fz:List Nat) (c:Cf):Dl:=⟨[(YI c,.c (.sl (Yj (ZW c) fz).nx))],[((Yj (ZW c) fz).nx,.own R xs true)],[],1⟩
def nBs {α:Type} (R:TRep α) (xs:List α) (fz:List Nat) (c:Cf):Cf:=Y5 ((dBs R xs fz c).fz (ZW c) fz) c
theorem YB {α:Type} {R:TRep α} {c:Cf} (htt:TTOk X.P tt) (fz:List Nat) (O:Opn R) (xs:List α) (k:Wc X (nBs R xs fz c))
  (e:(hB X.fn.ntmps c,(ZN c).dst,U8 (ZW c) fz,(ZN c).op,ZP tt (Z9 (ZN c).op),ZP tt (Yw tt (Z9 (ZN c).op)).el,(Vo (WY (Yw tt (Z9 (ZN c).op)).es (Uj (ZN c).op)) (Yj (ZW c) fz).L (MZ (ZN c).op).toList (UW (Yw tt (Yw tt (Z9 (ZN c).op)).el).z (Uj (ZN c).op * (Yw tt (Z9 (ZN c).op)).es))),H3 O (ZP (Yj (ZW c) fz).V) xs ((Vo (WY (Yw tt (Z9 (ZN c).op)).es (Uj (ZN c).op)) (Yj (ZW c) fz).L (MZ (ZN c).op).toList (UW (Yw tt (Yw tt (Z9 (ZN c).op)).el).z (Uj (ZN c).op * (Yw tt (Z9 (ZN c).op)).es))).getD []),H2 R.sz xs ((Vo (WY (Yw tt (Z9 (ZN c).op)).es (Uj (ZN c).op)) (Yj (ZW c) fz).L (MZ (ZN c).op).toList (UW (Yw tt (Yw tt (Z9 (ZN c).op)).el).z (Uj (ZN c).op * (Yw tt (Z9 (ZN c).op)).es))).getD []),(Nat.beq (Yw tt (Z9 (ZN c).op)).kd 6 && Nat.beq (Yw tt (Z9 (ZN c).op)).es R.sz && Nat.beq xs.length (Uj (ZN c).op) && Nat.ble (Uj (ZN c).op * (Yw tt (Z9 (ZN c).op)).es) 16777216 && !(Yw tt (Yw tt (Z9 (ZN c).op)).el).z.isEmpty))=(true,some (YI c),true,.buildSlice (Z9 (ZN c).op) (Uj (ZN c).op) (MZ (ZN c).op),some (Yw tt (Z9 (ZN c).op)),some (Yw tt (Yw tt (Z9 (ZN c).op)).el),some ((Vo (WY (Yw tt (Z9 (ZN c).op)).es (Uj (ZN c).op)) (Yj (ZW c) fz).L (MZ (ZN c).op).toList (UW (Yw tt (Yw tt (Z9 (ZN c).op)).el).z (Uj (ZN c).op * (Yw tt (Z9 (ZN c).op)).es))).getD []),H4 O (ZP (Yj (ZW c) fz).V) xs ((Vo (WY (Yw tt (Z9 (ZN c).op)).es (Uj (ZN c).op)) (Yj (ZW c) fz).L (MZ (ZN c).op).toList (UW (Yw tt (Yw tt (Z9 (ZN c).op)).el).z (Uj (ZN c).op * (Yw tt (Z9 (ZN c).op)).es))).getD []),[],true):=by kernel_rfl):Wc X c:=by
 simp only [Zp] at e
 have ⟨j,f,l,m,n,o,p,q,r,b⟩:=e
 have ⟨u,v⟩:=Xa j
 refine Wc.evz (d:=dBs R xs fz c) fz u l (Xd f rfl) (fun nk E0 F0 w0 n0 Z rest K g i h=>WPr.bs (X:=X.var nk E0 F0 w0 n0 Z) O htt xs g i m f n o p (Zat q r) (by rw [v];simpa using b) h) k
def dMk {α:Type} (R:TRep α) (xs:List α) (c:Cf):Dl:=⟨[(YI c,.c (.sl (ZW c).nx))],[((ZW c).nx,.own R xs true)],[],1⟩
def nMk {α:Type} (R:TRep α) (xs:List α) (c:Cf):Cf:=Y5 (dMk R xs c) c
theorem eMk {α:Type} {R:TRep α} {z:α} {l m:Int} {xs:List α} {c:Cf} (htt:TTOk X.P tt) (O:Opn R) (g:Q0 z l m=some xs) (k:Wc X (nMk R xs c))
  (e:(hB X.fn.ntmps c,(ZN c).dst,(ZN c).op,ZP tt (Z9 (ZN c).op),ZP tt (Yw tt (Z9 (ZN c).op)).el,Z7 c 0,Z7 c 1,H3 O (ZP (ZW c).V) [z] (Yw tt (Yw tt (Z9 (ZN c).op)).el).z,H2 R.sz [z] (Yw tt (Yw tt (Z9 (ZN c).op)).el).z,(Nat.beq (Yw tt (Z9 (ZN c).op)).kd 6 && Nat.beq (Yw tt (Z9 (ZN c).op)).es R.sz && Nat.ble (Yw tt (Z9 (ZN c).op)).eb 32768 && !(Yw tt (Yw tt (Z9 (ZN c).op)).el).z.isEmpty))=(true,some (YI c),.makeSlice (Z9 (ZN c).op) (Ym (ZN c).op 0) (Ym (ZN c).op 1),some (Yw tt (Z9 (ZN c).op)),some (Yw tt (Yw tt (Z9 (ZN c).op)).el),some (.c (.i (SD (Z7 c 0)) l)),some (.c (.i (SD (Z7 c 1)) m)),H4 O (ZP (ZW c).V) [z] (Yw tt (Yw tt (Z9 (ZN c).op)).el).z,[],true):=by kernel_rfl):Wc X c:=by
 simp only [Zp] at e
 have ⟨o,f,p,q,r,u,v,x,y,b⟩:=e
 have ⟨A,C⟩:=Xa o
 refine Wc.ev (d:=dMk R xs c) A (Xd f rfl) (fun nk E0 F0 w0 n0 Z rest K j n h=>WPr.mk (X:=X.var nk E0 F0 w0 n0 Z) O htt z g j n p f q r u v (Zat x y) (by rw [C];simpa using b) h) k
def dIs {α:Type} (R:TRep α) (zs:List α) (c:Cf):Dl:=⟨[(YI c,.c (.sl (ZW c).nx))],[],[((ZW c).nx,.sl R zs)],1⟩
def nIs {α:Type} (R:TRep α) (zs:List α) (c:Cf):Cf:=Y5 (dIs R zs c) c
theorem QU {α:Type} {xs zs:List α} {lo hi:Option Int} {c:Cf} (htt:TTOk X.P tt) (R:TRep α) (i:lsl xs lo hi=some zs) (k:Wc X (nIs R zs c))
    (f:(hB X.fn.ntmps c,(ZN c).dst,(ZN c).op,ZP tt (Z9 (ZN c).op),Z7 c 0,ZP (ZW c).V (Yt (Z7 c 0)),XO (ZW c).L (UH (ZN c).op),XO (ZW c).L (UE (ZN c).op),((XO (ZW c).L (UH (ZN c).op)).getD none).map (·.2),((XO (ZW c).L (UE (ZN c).op)).getD none).map (·.2),Le tt R.sz c)=(true,some (YI c),.slice (Z9 (ZN c).op) (Ym (ZN c).op 0) (UH (ZN c).op) (UE (ZN c).op) none,some (Yw tt (Z9 (ZN c).op)),some (.c (.sl (Yt (Z7 c 0)))),some (.sl R xs),some ((XO (ZW c).L (UH (ZN c).op)).getD none),some ((XO (ZW c).L (UE (ZN c).op)).getD none),lo,hi,true):=by kernel_rfl):Wc X c:=by
  simp only [Zp] at f
  have ⟨m,g,n,o,p,q,r,u,v,b,e⟩:=f
  have ⟨x,y⟩:=Xa m
  refine Wc.ev (d:=dIs R zs c) x (Xd g rfl) (fun nk E0 F0 w0 n0 Z rest K j l h=>WPr.isl (X:=X.var nk E0 F0 w0 n0 Z) htt (by rw [v,b];exact i) j l n g o p q r u (ZaA e y) h) k
def dVw (lo hi:Option Int) (sz:Nat) (c:Cf):Dl:=⟨[(YI c,.c (.sl (ZW c).nx))],[],[((ZW c).nx,.vw (Yt (Z7 c 0)) lo hi sz)],1⟩
def nVw (lo hi:Option Int) (sz:Nat) (c:Cf):Cf:=Y5 (dVw lo hi sz c) c
theorem eVw {α:Type} {xs zs:List α} {lo hi:Option Int} {c:Cf} (htt:TTOk X.P tt) (R:TRep α) (j:lsl xs lo hi=some zs) (k:Wc X (nVw lo hi R.sz c))
    (f:(hB X.fn.ntmps c,(ZN c).dst,(ZN c).op,ZP tt (Z9 (ZN c).op),Z7 c 0,ZP (ZW c).M (Yt (Z7 c 0)),XO (ZW c).L (UH (ZN c).op),XO (ZW c).L (UE (ZN c).op),((XO (ZW c).L (UH (ZN c).op)).getD none).map (·.2),((XO (ZW c).L (UE (ZN c).op)).getD none).map (·.2),Le tt R.sz c)=(true,some (YI c),.slice (Z9 (ZN c).op) (Ym (ZN c).op 0) (UH (ZN c).op) (UE (ZN c).op) none,some (Yw tt (Z9 (ZN c).op)),some (.c (.sl (Yt (Z7 c 0)))),some (.own R xs (U9 (ZP (ZW c).M (Yt (Z7 c 0))))),some ((XO (ZW c).L (UH (ZN c).op)).getD none),some ((XO (ZW c).L (UE (ZN c).op)).getD none),lo,hi,true):=by kernel_rfl):Wc X c:=by
  simp only [Zp] at f
  have ⟨n,g,o,p,q,r,u,v,i,b,e⟩:=f
  have ⟨x,y⟩:=Xa n
  refine Wc.ev (d:=dVw lo hi R.sz c) x (Xd g rfl) (fun nk E0 F0 w0 n0 Z rest K l m h=>WPr.vw (X:=X.var nk E0 F0 w0 n0 Z) htt (by rw [i,b];exact j) l m o g p q r u v (ZaA e y) (by rw [i,b];exact h)) k
def dSs (z:ByteArray) (c:Cf):Dl:=d1 c (.c (.s z))
def nSs (z:ByteArray) (c:Cf):Cf:=Y5 (dSs z c) c
theorem Vn {b z:ByteArray} {lo hi:Option Int} {c:Cf} (htt:TTOk X.P tt) (i:ssl b lo hi=some z) (k:Wc X (nSs z c))
    (f:(hB X.fn.ntmps c,(ZN c).dst,(ZN c).op,ZP tt (Z9 (ZN c).op),Nat.beq (Yw tt (Z9 (ZN c).op)).kd 2,Z7 c 0,XO (ZW c).L (UH (ZN c).op),XO (ZW c).L (UE (ZN c).op),((XO (ZW c).L (UH (ZN c).op)).getD none).map (·.2),((XO (ZW c).L (UE (ZN c).op)).getD none).map (·.2))=(true,some (YI c),.slice (Z9 (ZN c).op) (Ym (ZN c).op 0) (UH (ZN c).op) (UE (ZN c).op) none,some (Yw tt (Z9 (ZN c).op)),true,some (.c (.s b)),some ((XO (ZW c).L (UH (ZN c).op)).getD none),some ((XO (ZW c).L (UE (ZN c).op)).getD none),lo,hi):=by kernel_rfl):Wc X c:=by
  simp only [Zp] at f
  have ⟨m,g,n,o,p,q,r,u,v,e⟩:=f
  have ⟨x,y⟩:=Xa m
  refine Wc.ev (d:=dSs z c) x (Xd g rfl) (fun nk E0 F0 w0 n0 Z rest K j l h=>WPr.ssl (X:=X.var nk E0 F0 w0 n0 Z) htt (by rw [v,e];exact i) j l n g o p q r u y h) k
def dSx (z:Int) (c:Cf):Dl:=d1 c (.c (.i .u8 z))
def nSx (z:Int) (c:Cf):Cf:=Y5 (dSx z c) c
theorem XG {b:ByteArray} {m z:Int} {c:Cf} (htt:TTOk X.P tt) (g:YX b m=some z) (k:Wc X (nSx z c))
  (e:(hB X.fn.ntmps c,(ZN c).dst,(ZN c).op,ZP tt (Z9 (ZN c).op),Nat.beq (Yw tt (Z9 (ZN c).op)).kd 2,Z7 c 0,Z7 c 1)=(true,some (YI c),.index (Z9 (ZN c).op) (Ym (ZN c).op 0) (Ym (ZN c).op 1),some (Yw tt (Z9 (ZN c).op)),true,some (.c (.s b)),some (.c (.i (SD (Z7 c 1)) m))):=by kernel_rfl):Wc X c:=by
 simp only [Zp] at e
 have ⟨n,f,o,p,q,r,u⟩:=e
 have ⟨v,x⟩:=Xa n
 refine Wc.ev (d:=dSx z c) v (Xd f rfl) (fun nk E0 F0 w0 n0 Z rest K j l h=>WPr.sx (X:=X.var nk E0 F0 w0 n0 Z) htt g j l o f p q r u x h) k
def dCa (z:ByteArray) (c:Cf):Dl:=d1 c (.c (.s z))
def nCa (z:ByteArray) (c:Cf):Cf:=Y5 (dCa z c) c
theorem Yn {a b z:ByteArray} {c:Cf} (g:Yg a b=some z) (k:Wc X (nCa z c))
  (e:(hB X.fn.ntmps c,(ZN c).dst,(ZN c).op,Z7 c 0,Z7 c 1)=(true,some (YI c),.binOp .add (Z9 (ZN c).op) (Ym (ZN c).op 0) (Ym (ZN c).op 1) (Xn (ZN c).op),some (.c (.s a)),some (.c (.s b))):=by kernel_rfl):Wc X c:=by
 simp only [Zp] at e
 have ⟨l,f,m,n,o⟩:=e
 have ⟨p,q⟩:=Xa l
 refine Wc.ev (d:=dCa z c) p (Xd f rfl) (fun nk E0 F0 w0 n0 Z rest K i j h=>WPr.cat (X:=X.var nk E0 F0 w0 n0 Z) g i j m f n o q h) k
def dCb (ct:Ct) (l:List (Nat × SC)) (fz:List Nat) (c:Cf):Dl:=Zl3 (Yj (ZW c) fz) ct l (YI c)
def nCb (ct:Ct) (l:List (Nat × SC)) (fz:List Nat) (c:Cf):Cf:=Y5 ((dCb ct l fz c).fz (ZW c) fz) c
theorem Wo {f:FuncId} {b:Ct} {c:Cf} (m:Fn X.P f b) (fz:List Nat) (l:List (Nat × SC)) (e:List Nat) (g:e=[]\/(b.V1=[]/\Ub b.M1)) (k:Wc X (nCb b l fz c))
  (i:(hB X.fn.ntmps c,(ZN c).dst,U8 (ZW c) fz,(ZN c).op,Ya (Yj (ZW c) fz).L (Uz (ZN c).op),(VN (Yj (ZW c) fz).L (Mx (ZN c).op).toList).map (fun n=>RC (BC (Ya (Yj (ZW c) fz).L (Uz (ZN c).op)))++n++RC (BD (Ya (Yj (ZW c) fz).L (Uz (ZN c).op)))),b.V0.map (fun p=>QV (Yj (ZW c) fz) ⟨l,b.nk,(Yj (ZW c) fz).nx⟩ e p.1 p.2),b.M0.map (fun p=>WZ (Yj (ZW c) fz) ⟨l,b.nk,(Yj (ZW c) fz).nx⟩ p.1 p.2),Mz (Yj (ZW c) fz) b l e)=(true,some (YI c),true,.call { callee:=.value (Uz (ZN c).op),args:=Mx (ZN c).op,argTypes:=Lj (ZN c).op },some (.c (.cl f (BC (Ya (Yj (ZW c) fz).L (Uz (ZN c).op))) (BD (Ya (Yj (ZW c) fz).L (Uz (ZN c).op))))),some (b.args.map (W2 ⟨l,b.nk,(Yj (ZW c) fz).nx⟩)),b.V0.map (fun p=>some p.2),b.M0.map (fun p=>some (Vu ⟨l,b.nk,(Yj (ZW c) fz).nx⟩ p.2)),true):=by kernel_rfl):Wc X c:=by
 simp only [Zp] at i
 have ⟨r,j,u,v,x,y,z,A,C⟩:=i
 have ⟨D,G⟩:=Xa r
 refine Wc.evz (d:=dCb b l fz c) fz D u (Xd j rfl) (fun nk E0 F0 w0 n0 Z rest K o q h=>WPr.callc (X:=X.var nk E0 F0 w0 n0 Z) m l e o q v j G x y z A g C h) k
theorem ZO {f:FuncId} {b:Ct} {c:Cf} (d:Fn X.P f b) (fz:List Nat) (l:List (Nat × SC)) (k:Wc X (nCb b l fz c))
  (e:(hB X.fn.ntmps c,(ZN c).dst,U8 (ZW c) fz,(ZN c).op,Ya (Yj (ZW c) fz).L (Uz (ZN c).op),(VN (Yj (ZW c) fz).L (Mx (ZN c).op).toList).map (fun g=>RC (BC (Ya (Yj (ZW c) fz).L (Uz (ZN c).op)))++g++RC (BD (Ya (Yj (ZW c) fz).L (Uz (ZN c).op)))),b.V0.map (fun p=>QV (Yj (ZW c) fz) ⟨l,b.nk,(Yj (ZW c) fz).nx⟩ [] p.1 p.2),b.M0.map (fun p=>WZ (Yj (ZW c) fz) ⟨l,b.nk,(Yj (ZW c) fz).nx⟩ p.1 p.2),Mz (Yj (ZW c) fz) b l [])=(true,some (YI c),true,.call { callee:=.value (Uz (ZN c).op),args:=Mx (ZN c).op,argTypes:=Lj (ZN c).op },some (.c (.cl f (BC (Ya (Yj (ZW c) fz).L (Uz (ZN c).op))) (BD (Ya (Yj (ZW c) fz).L (Uz (ZN c).op))))),some (b.args.map (W2 ⟨l,b.nk,(Yj (ZW c) fz).nx⟩)),b.V0.map (fun p=>some p.2),b.M0.map (fun p=>some (Vu ⟨l,b.nk,(Yj (ZW c) fz).nx⟩ p.2)),true):=by kernel_rfl):Wc X c:=Wo d fz l [] (.inl rfl) k e
end
end
section
variable [LxP]
def Cf.isC:Cf->Bool
 | .co _ _=>true
 | _=>false
def Cf.itm:Cf->List Item
 | .co k _=>k
 | _=>[]
section
variable {X:Ctx} {tt:List (Nat × TD)}
theorem Wc.co {c:Cf} (h:c.isC=true) (k:WP X c.itm c.st):Wc X c:=by
 cases c with
 | co _ _=>exact ⟨k⟩
 | rg _ _ _ _ _=>cases h
 | no=>cases h
def Ti:Cf->Nat
 | .co (.code (.cond (.tmp d) _ _)::_) _=>d
 | .rg _ ops i _ _=>match ops[i]? with
  | some o=>match o.guard with
   | some (j,_)=>match ops[j]? with
    | some oj=>oj.dst.getD 0
    | none=>0
   | none=>0
  | none=>0
 | _=>0
def gjC (c:Cf):Nat:=match (ZN c).guard with
 | some (j,_)=>j
 | none=>0
def Lf:Cf->Option (List (Nat × SV))
 | .rg (some q) ops i k s=>some (YH q.2.2 (gjC (.rg (some q) ops i k s))).dL
 | _=>none
def Lk (b:Bool):Cf->Option (List (Nat × SV))
 | .rg (some q) ops i k s=>some [(Ti (.rg (some q) ops i k s),.c (.b b))]
 | _=>none
def setL (d:Nat) (b:Bool) (s:St):St:=⟨(d,.c (.b b))::s.L,s.M,s.V,s.nx⟩
def H5 (j d:Nat) (b:Bool) (es:List Ent):List Ent:=es.set j { YH es j with dL:=[(d,.c (.b b))] }
def TV (t:Bool):Cf->Cf
 | .co k s=>.co k (setL (Ti (.co k s)) t s)
 | .rg none ops i k s=>.rg none ops i k (setL (Ti (.rg none ops i k s)) t s)
 | .rg (some q) ops i k s=>.rg (some (q.1,q.2.1,H5 (gjC (.rg (some q) ops i k s)) (Ti (.rg (some q) ops i k s)) t q.2.2)) ops i k (setL (Ti (.rg (some q) ops i k s)) t s)
 | .no=>.no
theorem Zqk {j d:Nat} {b:Bool} {es:List Ent} (h:(YH es j).dL=[(d,.c (.b b))]):H5 j d b es=es:=by
 unfold H5
 rw [<- h]
 show es.set j (YH es j)=es
 unfold YH
 by_cases e:j < es.length
 ·rw [show es.getD j ZhW=es[j] by simp [List.getD,e],List.set_getElem_self]
 ·exact List.set_eq_of_length_le (Nat.not_lt.1 e)
theorem eK {b t:Bool} (K:b=t) {c:Cf} (k:Wc X (TV t c)) (g:(ZP c.st.L (Ti c),Lf c)=(some (.c (.b b)),Lk b c):=by kernel_rfl):Wc X c:=by
 subst K
 have ⟨d,n⟩:=Prod.mk.inj g
 cases c with
 | no=>exact k.1.elim
 | co f s=>exact ⟨fun E F w a h=>k.1 E F w a (Sat.setL0 h d rfl trivial)⟩
 | rg m ops i f s =>
  cases m with
  | none=>exact ⟨WPr.kb _ rfl d k.1⟩
  | some q =>
   refine ⟨fun j l=>?_⟩
   have e:=Zqk (Zk n)
   have k:AllLS X ops 0 (H5 _ _ _ q.2.2)->(H5 _ _ _ q.2.2).length=i->WP X (.code (.region q.1 ops true)::f) q.2.1:=k.1
   rw [e] at k
   exact k j l
theorem wa (htt:TTOk X.P tt) (n:Nat) {c:Cf} (k:Wc X (XM tt X.fn.ntmps n c)):Wc X c:=Zgm htt n k
def ctS (c:Cf) (s:St):Cf:=.co c.kk s
theorem Z2 {σ:Type} (J:σ->St) (Q:σ->Prop) {c:Cf} (d:∀ b,Q b->Wc X (ctS c (J b))) (h:(∀ b,Q b->WP X c.kk (J b))->Wc X c):Wc X c:=h fun b e=>(d b e).1
def RM (c:Cf):Code:=match c with
 | .co (.code (.loop x)::_) _=>x
 | _=>.skip
def lpS (c:Cf) (s:St):Cf:=.co (.code (RM c)::.inLoop (RM c)::c.kk) s
def lpK (c:Cf):List Item:=.inLoop (RM c)::c.kk
def lpI (c:Cf):List Item:=.code (.loop (RM c))::c.kk
theorem Yc {σ ρ:Type} {r:ρ} (H:σ->St) (p:Nat->σ->Option ρ) (f:∀ b,p 0 b=none) {c:Cf}
  (e:∀ n,(∀ b,p n b=some r->WP X (lpK c) (H b))->∀ b,p (n+1) b=some r->Wc X (lpS c (H b)))
  (h:(∀ n b,p n b=some r->WP X (lpI c) (H b))->Wc X c):Wc X c:=by
 have key:∀ n b,p n b=some r->WP X (.code (RM c)::.inLoop (RM c)::c.kk) (H b):=by
  intro n
  induction n with
  | zero=>intro b d;rw [f] at d;cases d
  | succ n i=>exact fun b g=>(e n (fun b d=>WP.inLoop (i b d)) b g).1
 exact h fun n b d=>WP.loop (key n b d)
theorem ZK {t:St} {todo:List Item} (l:List (Nat × SC)) (k:WP X todo t) {c:Cf}
    (b:(c.isC,c.itm,t.L.map (fun p=>ZP c.st.L p.1),t.V.map (fun p=>TL c.st ⟨l,0,0⟩ p.1 p.2),t.M.map (fun p=>WZ c.st ⟨l,0,0⟩ p.1 p.2),
        (t.L.all (fun p=>Tf ⟨l,0,0⟩ p.2) && XC (t.M.filterMap fun p=>Xr ⟨l,0,0⟩ p.1 p.2) && XC (t.M.map (·.1)) && Q9 t.L t.M t.V t.nx && l.all (fun p=>Nat.ble X.nk p.1 && p.2.kbb c.st.nx) && Nat.ble X.nk t.nx)) =
      (true,todo,t.L.map (fun p=>some (W2 ⟨l,0,0⟩ p.2)),t.V.map (fun p=>some p.2),t.M.map (fun p=>some (Vu ⟨l,0,0⟩ p.2)),true):=by kernel_rfl):Wc X c:=by
  simp only [Zp] at b
  have ⟨d,e,f,g,h,i⟩:=b
  refine Wc.co d ?_
  rw [e]
  exact WP.sub l k f g h i
def HU (f:St->St):Cf->Cf
 | .co k s=>.co k (f s)
 | .rg none ops i k s=>.rg none ops i k (f s)
 | _=>.no
theorem Zac {f:St->St} {c:Cf} (h:∀ E F w a,Sat X c.st E F w a->∃ b d,Sat X (f c.st) b d w a) (k:Wc X (HU f c)):Wc X c:=by
 cases c with
 | no=>exact k.1.elim
 | co g s=>exact ⟨fun E F w a e=>let ⟨b,d,hs'⟩:=h E F w a e;k.1 b d w a hs'⟩
 | rg m ops i g s =>
  cases m with
  | none=>exact ⟨fun E F w a e=>let ⟨b,d,hs'⟩:=h E F w a e;k.1 b d w a hs'⟩
  | some q=>exact k.1.elim
theorem WX (fz:List Nat) {c:Cf} (k:Wc X (HU (fun s=>Yj s fz) c)) (b:U8 c.st fz=true:=by kernel_rfl):Wc X c :=
 Zac (fun _ _ _ _ d=>let ⟨F',h⟩:=ZdR d b;⟨_,F',h⟩) k
theorem eSl {α:Type} (R:TRep α) {xs zs:List α} {l h:Option Int} (K:Nat) (d:lsl xs l h=some zs) {c:Cf}
  (k:Wc X (HU (fun s=>⟨s.L,(K,.own R zs (U9 (ZP s.M (WL (ZP s.V K)))))::(WL (ZP s.V K),.gone)::s.M,s.V,s.nx⟩) c))
  (b:(ZP c.st.V K,ZP c.st.M (WL (ZP c.st.V K)),(ZP c.st.M K).isNone)=(some (.vw (WL (ZP c.st.V K)) l h R.sz),some (.own R xs (U9 (ZP c.st.M (WL (ZP c.st.V K))))),true):=by kernel_rfl):Wc X c:=by
 simp only [Zp,Option.isNone_iff_eq_none] at b
 have ⟨f,g,i⟩:=b
 exact Zac (fun E F w a e=>⟨E,F,e.settle d f g i⟩) k
def Zew:Cf->Bool
 | .co [] _=>true
 | .co (.code .ret::_) _=>true
 | _=>false
theorem Y7 {P:Program} {f:FuncId} {fn:Func} {b:Ct} {E0:Env} {F0:Yu} {w0:World} (htt:TTOk P tt) (e:P.funcs[f]? = some fn) (l:List (Nat × SC)) {c:Cf}
    (g:(Zew c,M8 tt c.st fn.results.toList,b.V1.map (fun p=>TL c.st ⟨l,0,0⟩ p.1 p.2),b.M1.map (fun p=>WZ c.st ⟨l,0,0⟩ p.1 p.2),
        (Tf ⟨l,0,0⟩ b.res && XC (b.M1.filterMap fun p=>Xr ⟨l,0,0⟩ p.1 p.2) && XC (b.M1.map (·.1)) && l.all (fun p=>Nat.ble b.nk p.1 && p.2.kbb c.st.nx))) =
      (true,some (W2 ⟨l,0,0⟩ b.res),b.V1.map (fun p=>some p.2),b.M1.map (fun p=>some (Vu ⟨l,0,0⟩ p.2)),true):=by kernel_rfl):Wc (b.ctx P f fn E0 F0 w0) c:=by
  simp only [Zp] at g
  have ⟨d,h,i,j,k⟩:=g
  unfold Zew at d
  split at d
  · exact ⟨WP.fin htt e l h i j k⟩
  · exact ⟨WP.ret htt e l h i j k⟩
  · cases d
theorem Z5 {P:Program} {f:FuncId} {c:Ct} {fn:Func} {body:Code} (d:P.funcs[f]? = some fn) (e:fn.body=some body) (h:∀ E F w,Wc (c.ctx P f fn E F w) (.co [.code body] ⟨RR 0 c.args,c.M0,c.V0,c.nk⟩))
  (b:((fn.name == "runtime.NumGoroutine"),(Q9 (RR 0 c.args) c.M0 c.V0 c.nk && c.M0.all (fun p => !p.2.isFresh) && Nat.ble c.args.length fn.ntmps))=(false,true):=by kernel_rfl):Fn P f c :=
 Fn.intro fn body d e (Prod.mk.inj b).1 (Prod.mk.inj b).2 fun E F w=>(h E F w).1
def HF:List Oper->List Nat->List Nat
 | [],acc=>acc
 | o::r,acc=>HF r (acc++[Rx acc o.after.toList])
def BP:Cf->List Ent
 | .rg (some q) _ _ _ _=>q.2.2
 | _=>[]
def ZeQ:Cf->St
 | .rg (some q) _ _ _ _=>q.2.1
 | _=>⟨[],[],[],0⟩
def isD:Cf->Bool
 | .rg (some _) ops i _ _=>Nat.beq i ops.size
 | _=>false
def ZmY (c:Cf):Cf:=.co c.kk (Vd (BP c) c.st.nx (ZeQ c) fun _=>true)
theorem Yr {c:Cf} (k:Wc X (ZmY c)) (r:(isD c,X.P.follows .mixedOrders,Bz c.ops (BP c) (HF c.ops.toList []) (ZeQ c).nx c.st.nx,Zaj (BP c) (HF c.ops.toList []) (ZeQ c))=(true,true,true,ZaH (BP c)):=by kernel_rfl):Wc X c:=by
 simp only [Zp] at r
 have ⟨f,u,g,l⟩:=r
 cases c with
 | no=>cases f
 | co p s=>cases f
 | rg m ops i p s =>
  cases m with
  | none=>cases f
  | some q =>
   refine ⟨fun e v=>?_⟩
   have ⟨k⟩:=k
   have ⟨id,b,es⟩:=q
   replace g:Bz ops es (HF ops.toList []) b.nx s.nx=true:=g
   replace l:Zaj es (HF ops.toList []) b=ZaH es:=l
   replace e:AllLS X ops 0 es:=e
   show WP X (.code (.region id ops true)::p) b
   intro E F w a d
   have c:=Zmh g
   refine ZjG (wp_region_any u ?_)
   have n:Sat X b E F { w with drawn:=w.drawn+1 } a:=d.world rfl rfl .m (Zo _) fun _ _=>rfl
   have o:∀ j,(Array.replicate ops.size false).getD j false=false:=fun j=>by
    by_cases h:j < ops.size<;>simp [h]
   refine ZpU (todo:=rk X p) e c l d.wf d.nk (fun E F w a d=>k E F w a d) ops.size _ E F _ a (by simp)
    (fun i hi=>by rw [o] at hi;cases hi) (by rw [c.size];exact Zg0 fun j _=>by rw [<- c.size];exact o j) ?_
   have:Vd es s.nx b (fun j=>(Array.replicate ops.size false).getD j false)=⟨b.L,b.M,b.V,s.nx⟩:=by
    rw [show (fun j=>(Array.replicate ops.size false).getD j false)=fun _=>false from funext o]
    unfold Vd
    rw [BX,BX,BX]
   show Sat X (Vd es s.nx b _) E F _ a
   rw [this]
   exact n.nxt c.nxle
end
end
section
variable [LxP]
def Bp (P:Program) (t:TypeId):Nat:=match P.underlying t with
 | some (.array n _)=>n
 | _=>0
def Xj (P:Program) (t:TypeId):TypeId:=match P.underlying t with
 | some (.array _ e)=>e
 | some (.slice e)=>e
 | some (.pointer e)=>e
 | _=>0
def SR (P:Program) (t:TypeId):Nat:=((P.info? t).map (·.size)).getD 0
def HG:Option MO->TypeId
 | some (.box _ t)=>t
 | _=>0
def RD:Option MO->List SC
 | some (.box cs _)=>cs
 | _=>[]
section
variable {X:Ctx} {tt:List (Nat × TD)}
def dAx (v:SC) (c:Cf):Dl:=d1 c (.c v)
def nAx (v:SC) (c:Cf):Cf:=Y5 (dAx v c) c
theorem eAx {α:Type} {m:Int} {e:α} {c:Cf} (f:α->SC) (xs:List α) (hi:Z6 xs m=some e) (k:Wc X (nAx (f e) c))
    (b:(hB X.fn.ntmps c,(ZN c).dst,(ZN c).op,X.P.underlying (Z9 (ZN c).op),(X.P.info? (Xj X.P (Z9 (ZN c).op))).map (·.size),U3 X.P (Xj X.P (Z9 (ZN c).op)),(X.P.underlying (Xj X.P (Z9 (ZN c).op))).isSome,Z7 c 0,Z7 c 1)=(true,some (YI c),.index (Z9 (ZN c).op) (Ym (ZN c).op 0) (Ym (ZN c).op 1),some (.array xs.length (Xj X.P (Z9 (ZN c).op))),some 1,false,true,some (.a (xs.map f)),some (.c (.i (SD (Z7 c 1)) m))):=by kernel_rfl):Wc X c:=by
  simp only [Zp] at b
  have ⟨n,g,o,p,q,r,u,v,x⟩:=b
  have ⟨y,z⟩:=Xa n
  refine Wc.ev (d:=dAx (f e) c) y (Xd g rfl) (fun nk E0 F0 w0 n0 Z rest K j l h=>WPr.ax (X:=X.var nk E0 F0 w0 n0 Z) f xs hi j l o g p q r u v rfl x z h) k
def dAb (P:Program) (j:Nat) (c:Cf):Dl:=d1 c (.c (.bp (Yt (Z7 c 0)) (X3 (Z7 c 0)+j * SR P (Xj P (Z9 (ZN c).op)))))
def nAb (P:Program) (j:Nat) (c:Cf):Cf:=Y5 (dAb P j c) c
theorem UB {m:Int} {c:Cf} (j:Nat) (f:m=(j:Int)) (k:Wc X (nAb X.P j c))
    (b:(hB X.fn.ntmps c,(ZN c).dst,(ZN c).op,X.P.underlying (Z9 (ZN c).op),(X.P.info? (Xj X.P (Z9 (ZN c).op))).map (·.size),Nat.blt j (Bp X.P (Z9 (ZN c).op)),Z7 c 0,Z7 c 1)=(true,some (YI c),.indexAddr (Z9 (ZN c).op) (Ym (ZN c).op 0) (Ym (ZN c).op 1),some (.array (Bp X.P (Z9 (ZN c).op)) (Xj X.P (Z9 (ZN c).op))),some (SR X.P (Xj X.P (Z9 (ZN c).op))),true,some (.c (.bp (Yt (Z7 c 0)) (X3 (Z7 c 0)))),some (.c (.i (SD (Z7 c 1)) m))):=by kernel_rfl):Wc X c:=by
  simp only [Zp] at b
  have ⟨n,e,o,p,q,r,u,v⟩:=b
  have ⟨x,y⟩:=Xa n
  refine Wc.ev (d:=dAb X.P j c) x (Xd e rfl) (fun nk E0 F0 w0 n0 Z rest K g l h=>WPr.axb (X:=X.var nk E0 F0 w0 n0 Z) j f g l o e p q r u v y h) k
def dPn (neg:Bool) (c:Cf):Dl:=d1 c (.c (.b neg))
def nPn (neg:Bool) (c:Cf):Cf:=Y5 (dPn neg c) c
theorem ePn {c:Cf} (b:Bool) (k:Wc X (nPn b c))
  (e:(hB X.fn.ntmps c,(ZN c).dst,(ZN c).op,X.P.underlying (Z9 (ZN c).op),Z7 c 0,Z7 c 1)=(true,some (YI c),.binOp (bif b then .neq else .eql) (Z9 (ZN c).op) (Ym (ZN c).op 0) (Ym (ZN c).op 1) (Xn (ZN c).op),some (.pointer (Xj X.P (Z9 (ZN c).op))),some (.c (.bp (Yt (Z7 c 0)) (X3 (Z7 c 0)))),some (.c (.v (.pointer none)))):=by kernel_rfl):Wc X c:=by
 simp only [Zp] at e
 have ⟨j,f,l,m,n,o⟩:=e
 have ⟨p,q⟩:=Xa j
 refine Wc.ev (d:=dPn b c) p (Xd f rfl) (fun nk E0 F0 w0 n0 Z rest K g i h=>WPr.pnil (X:=X.var nk E0 F0 w0 n0 Z) b g i l f m n o q h) k
def dSb {α:Type} (R:TRep α) (xs:List α) (fz:List Nat) (c:Cf):Dl:=⟨[(YI c,.c (.sl (Yj (ZW c) fz).nx))],[((Yj (ZW c) fz).nx,.own R xs false),((Yt (Ya (Yj (ZW c) fz).L (Ym (ZN c).op 0))),.gone)],[],1⟩
def nSb {α:Type} (R:TRep α) (xs:List α) (fz:List Nat) (c:Cf):Cf:=Y5 ((dSb R xs fz c).fz (ZW c) fz) c
theorem eSb {α:Type} {R:TRep α} {c:Cf} (fz:List Nat) (O:Opn R) (xs:List α) (k:Wc X (nSb R xs fz c))
    (f:(hB X.fn.ntmps c,(ZN c).dst,U8 (ZW c) fz,(ZN c).op,X.P.underlying (Z9 (ZN c).op),(X.P.info? (Xj X.P (Z9 (ZN c).op))).map (·.size),Ya (Yj (ZW c) fz).L (Ym (ZN c).op 0),(ZP (Yj (ZW c) fz).M (Yt (Ya (Yj (ZW c) fz).L (Ym (ZN c).op 0)))),(ZP (Yj (ZW c) fz).M (Yj (ZW c) fz).nx).isNone,H3 O (ZP (Yj (ZW c) fz).V) xs (RD (ZP (Yj (ZW c) fz).M (Yt (Ya (Yj (ZW c) fz).L (Ym (ZN c).op 0))))),H2 R.sz xs (RD (ZP (Yj (ZW c) fz).M (Yt (Ya (Yj (ZW c) fz).L (Ym (ZN c).op 0))))))=(true,some (YI c),true,.slice (Z9 (ZN c).op) (Ym (ZN c).op 0) none none none,some (.array xs.length (Xj X.P (Z9 (ZN c).op))),some R.sz,some (.c (.bp (Yt (Ya (Yj (ZW c) fz).L (Ym (ZN c).op 0))) 0)),some (.box (RD (ZP (Yj (ZW c) fz).M (Yt (Ya (Yj (ZW c) fz).L (Ym (ZN c).op 0))))) (HG (ZP (Yj (ZW c) fz).M (Yt (Ya (Yj (ZW c) fz).L (Ym (ZN c).op 0)))))),true,H4 O (ZP (Yj (ZW c) fz).V) xs (RD (ZP (Yj (ZW c) fz).M (Yt (Ya (Yj (ZW c) fz).L (Ym (ZN c).op 0))))),[]):=by kernel_rfl):Wc X c:=by
  simp only [Zp] at f
  have ⟨l,g,m,n,o,p,q,r,u,b,e⟩:=f
  have ⟨v,x⟩:=Xa l
  refine Wc.evz (d:=dSb R xs fz c) fz v m (Xd g rfl) (fun nk E0 F0 w0 n0 Z rest K i j h=>WPr.slb (X:=X.var nk E0 F0 w0 n0 Z) O xs (Zat b e) i j n g o p q r (by rw [x,u];simp) h) k
def dCs (ys:List Int) (c:Cf):Dl:=d1 c (.c (.s (ZaE ys)))
def nCs (ys:List Int) (c:Cf):Cf:=Y5 (dCs ys c) c
theorem eCs {c:Cf} (ys:List Int) (k:Wc X (nCs ys c))
  (f:(hB X.fn.ntmps c,(ZN c).dst,(ZN c).op,X.P.underlying (Z9 (ZN c).op),X.P.underlying (Xn (ZN c).op),X.P.underlying (Xj X.P (Z9 (ZN c).op)),Z7 c 0,MD (ZW c) (UA (Z7 c 0)))=(true,some (YI c),.convert (Z9 (ZN c).op) (Xn (ZN c).op) (Ym (ZN c).op 0),some (.slice (Xj X.P (Z9 (ZN c).op))),some .string,some (.int .u8),some (.c (UA (Z7 c 0))),some ⟨rI .u8,ys⟩):=by kernel_rfl):Wc X c:=by
 simp only [Zp] at f
 have ⟨m,g,n,o,p,q,i,b⟩:=f
 have ⟨r,u⟩:=Xa m
 have ⟨z,v,e⟩:=Zdt b
 refine Wc.ev (d:=dCs ys c) r (Xd g rfl) (fun nk E0 F0 w0 n0 Z rest K j l h=>?_) k
 rw [v] at i b
 refine WPr.cvs (X:=X.var nk E0 F0 w0 n0 Z) ys (Zg4 b) rfl j l n g o p q i ?_ u h
 rcases e with x | ⟨fr,y⟩
 ·exact TW x
 ·exact shO y
def dEx (v:SV) (c:Cf):Dl:=d1 c v
def nEx (v:SV) (c:Cf):Cf:=Y5 (dEx v c) c
theorem eEx {f:FuncId} {b:List SV} {v:SV} {c:Cf} (e:∀ (E:Env) (w:World),(callFunc f (b.map (Z8 E)).toArray).run X.P w=.ok (.value (Z8 E v)) w) (j:∀ n,v.kb n) (k:Wc X (nEx v c))
  (g:(hB X.fn.ntmps c,(ZN c).dst,(ZN c).op,VN (ZW c).L (Mx (ZN c).op).toList)=(true,some (YI c),.call { callee:=.value (.func f),args:=Mx (ZN c).op,argTypes:=Lj (ZN c).op },some b):=by kernel_rfl):Wc X c:=by
 simp only [Zp] at g
 have ⟨o,i,p,q⟩:=g
 have ⟨r,u⟩:=Xa o
 refine Wc.ev (d:=dEx v c) r (Xd i rfl) (fun nk E0 F0 w0 n0 Z rest K l m h=>WPr.ext (X:=X.var nk E0 F0 w0 n0 Z) e j l m p i u q h) k
def Zo8 (neg b:Bool) (c:Cf):Cf:=Y5 (d1 c (.c (.b (bif neg then !b else b)))) c
def inC:Cf->Bool
 | .rg none _ _ _ _=>true
 | _=>false
theorem eNi {α:Type} (R:TRep α) (xs:List α) (d:Bool) {c:Cf} (p:∀ b:Bool,(b=true->xs=[])->Wc X (Zo8 d b c))
  (n:(hB X.fn.ntmps c,(ZN c).dst,inC c,(ZN c).op,X.P.underlying (Z9 (ZN c).op),Z7 c 0,Z7 c 1,MD (ZW c) (.sl (Yt (Z7 c 0)))) =
   (true,some (YI c),true,.binOp (bif d then .neq else .eql) (Z9 (ZN c).op) (Ym (ZN c).op 0) (Ym (ZN c).op 1) (Xn (ZN c).op),some (.slice (Xj X.P (Z9 (ZN c).op))),some (.c (.sl (Yt (Z7 c 0)))),some (.c .nil),some ⟨R,xs⟩):=by kernel_rfl):Wc X c:=by
 simp only [Zp] at n
 have ⟨r,u,g,v,x,y,z,A⟩:=n
 have ⟨h,C⟩:=Xa r
 have ⟨I,D,j⟩:=Zdt A
 cases c with
 | co _ _=>cases g
 | no=>cases g
 | rg m ops i l s =>
  cases m with
  | some q=>cases g
  | none =>
   unfold TQ at h
   rw [Zc,Zc] at h
   obtain ⟨⟨_,G⟩,k⟩:=h
   have e:ops[i]? = some (ZN (.rg none ops i l s)):=by
    have ⟨o,e⟩:=Option.isSome_iff_exists.1 G
    have e:ops[i]? = some o:=e
    unfold ZN
    show _=some ((ops[i]?).getD default)
    rw [e];rfl
   have H:YJ ops s.L (ZN (.rg none ops i l s))=some true:=by
    split at k
    ·rename_i b f;rw [k] at f;exact f
    ·cases k
   refine ⟨?_⟩
   show WPr X ops (List.range' i (ops.size-i)) (rk X l) s
   rw [Zap e]
   cases D
   exact WPr.nilc d j e H v u x y z C fun b f=>(p b f).1
def Zp6 (b:Nat) (m:ByteArray) (c:Cf):Cf:=Y5 ⟨[(YI c,.c (.v (.pointer (some ⟨b,0,none⟩))))],[((ZW c).nx,.abs (VQ b m 0))],[],1⟩ c
def Zp7 (b:Nat) (c:Cf):Cf:=Zp6 b (Zj0 (Z7 c 0)) c
theorem eRn (htt:TTOk X.P tt) {c:Cf} (l:∀ b,Wc X (Zp7 b c))
  (j:(hB X.fn.ntmps c,(ZN c).dst,inC c,(ZN c).op,ZP tt (Z9 (ZN c).op),Nat.beq (Yw tt (Z9 (ZN c).op)).kd 2,Z7 c 0) =
   (true,some (YI c),true,.range (Z9 (ZN c).op) (Ym (ZN c).op 0),some (Yw tt (Z9 (ZN c).op)),true,some (.c (.s (Zj0 (Z7 c 0))))):=by kernel_rfl):Wc X c:=by
 simp only [Zp] at j
 have ⟨n,p,e,r,u,v,x⟩:=j
 have ⟨f,y⟩:=Xa n
 cases c with
 | co _ _=>cases e
 | no=>cases e
 | rg m ops i h s =>
  cases m with
  | some q=>cases e
  | none =>
   unfold TQ at f
   rw [Zc,Zc] at f
   obtain ⟨⟨_,z⟩,g⟩:=f
   have d:ops[i]? = some (ZN (.rg none ops i h s)):=by
    have ⟨o,d⟩:=Option.isSome_iff_exists.1 z
    have d:ops[i]? = some o:=d
    unfold ZN
    show _=some ((ops[i]?).getD default)
    rw [d];rfl
   have A:YJ ops s.L (ZN (.rg none ops i h s))=some true:=by
    split at g
    ·rename_i b k;rw [g] at k;exact k
    ·cases g
   refine ⟨?_⟩
   show WPr X ops (List.range' i (ops.size-i)) (rk X h) s
   rw [Zap d]
   exact WPr.rng htt d A r p u v x y fun b=>(l b).1
def dNf (c:Cf):Dl:=d1 c (.t [.inl (.b false)])
def nNf (c:Cf):Cf:=Y5 (dNf c) c
theorem eNf {p:Nat} {m:ByteArray} {c:Cf} (b f:Nat) (e:decide (p < m.size)=false) (k:Wc X (nNf c))
  (g:(hB X.fn.ntmps c,(ZN c).dst,(ZN c).op,Z7 c 0,ZP (ZW c).M f)=(true,some (YI c),.next (Ym (ZN c).op 0) true,some (.c (.v (.pointer (some ⟨b,0,none⟩)))),some (.abs (VQ b m p))):=by kernel_rfl):Wc X c:=by
 simp only [Zp] at g
 have ⟨n,i,o,q,r⟩:=g
 have ⟨u,x⟩:=Xa n
 refine Wc.ev (d:=dNf  c) u (Xd i rfl) (fun nk E0 F0 w0 n0 Z rest K j l h=>WPr.nxtF (X:=X.var nk E0 F0 w0 n0 Z) f e j l o i q r x h) k
def dNt (b k0:Nat) (m:ByteArray) (p:Nat) (c:Cf):Dl:=⟨[(YI c,.t [.inl (.b true),.inl (.i .i64 (p:Int)),.inl (.i .i32 ((Utf8.decode m p).1:Int))])],[(k0,.abs (VQ b m (p+(Utf8.decode m p).2)))],[],0⟩
def nNt (b k0:Nat) (m:ByteArray) (p:Nat) (c:Cf):Cf:=Y5 (dNt b k0 m p c) c
theorem eNt {p:Nat} {m:ByteArray} {c:Cf} (b:Nat) (e:Nat) (f:decide (p < m.size)=true) (k:Wc X (nNt b e m p c))
  (g:(hB X.fn.ntmps c,(ZN c).dst,(ZN c).op,Z7 c 0,ZP (ZW c).M e)=(true,some (YI c),.next (Ym (ZN c).op 0) true,some (.c (.v (.pointer (some ⟨b,0,none⟩)))),some (.abs (VQ b m p))):=by kernel_rfl):Wc X c:=by
 simp only [Zp] at g
 have ⟨n,i,o,q,r⟩:=g
 have ⟨u,x⟩:=Xa n
 refine Wc.ev (d:=dNt b e m p c) u (Xd i rfl) (fun nk E0 F0 w0 n0 Z rest K j l h=>WPr.nxtT (X:=X.var nk E0 F0 w0 n0 Z) e f j l o i q r x h) k
end
end
section
variable [LxP]
def TZ {α:Type} (R:TRep α) (n1 b p0:Nat) (vs:List Value) (xss:List (List α)) (h:Option Nat):Mv where
 fp c:=c=b\/∃ (j:Nat) (v:Value),vs[j]? = some v/\h≠some j/\YC v=some c
 ok F w:=(∃ arr el fz,w.heap[b]? = some (.cells arr el fz)/\Rw fz arr.size/\∀ (j:Nat) (v:Value),vs[j]? = some v->arr[p0+j]? = some v)/\vs.length=xss.length/\n1<=b /\
  (∀ (j:Nat) v xs,vs[j]? = some v->xss[j]? = some xs->h≠some j->OwnR R F w xs v) /\
  (∀ (j:Nat) v c,vs[j]? = some v->h≠some j->YC v=some c->n1<=c/\c≠b) /\
  (∀ (i j:Nat) u v c,vs[i]? = some u->vs[j]? = some v->i≠j->h≠some i->h≠some j->YC u=some c->YC v≠some c)/\∀ v∈vs,v.oneCell'=true
 mono:=fun g hb ⟨⟨arr,el,fz,h1,h2,h3⟩,h4,h5,h6,h7,h8,h9⟩=>⟨⟨arr,el,fz,by rw [hb b (.inl rfl)];exact h1,h2,h3⟩,h4,h5,
  fun j v xs a1 a2 a3=>(h6 j v xs a1 a2 a3).mono g fun c hc=>hb c (.inr ⟨j,v,a1,a3,hc⟩),h7,h8,h9⟩
section
variable {X:Ctx} {s:St} {ops:Array Oper} {todo:Act->World->Prop} {tt:List (Nat × TD)}
theorem Sat.reM {E:Env} {F:Yu} {w:World} {a:Act} (c:Sat X s E F w a) {M':List (Nat × MO)} (g:∀ k m,ZP M' k=some m->k < s.nx/\m.kb s.nx) (h:∀ k m,ZP M' k=some m->m.ok E F w k)
  (i:∀ k m,ZP M' k=some m->∀ b,m.fp E k b->∃ d e,ZP s.M d=some e/\e.fp E d b)
  (j:∀ k f m m',ZP M' k=some m->ZP M' f=some m'->k≠f->∀ b,m.fp E k b->¬ m'.fp E f b) (l:∀ k m,ZP M' k=some m->m.isFresh=true->∀ b,m.fp E k b->X.n0<=b) :
  Sat X ⟨s.L,M',s.V,s.nx⟩ E F w a:={ c with
 wf:=⟨c.wf.hL,g,c.wf.hV⟩
 hM:=h
 dis:=j
 mF:=fun k m n b o=>let ⟨d,e,hm,hf⟩:=i k m n b o;c.mF d e hm b hf
 fresh:=l }
theorem Sat.addFn {E:Env} {F:Yu} {w:World} {a:Act} (c:Sat X s E F w a) {k:Nat} {Φ:Value->Prop} (d:k < s.nx) (h:Φ (E.ρ k)):Sat X ⟨s.L,s.M,(k,.fn Φ)::s.V,s.nx⟩ E F w a:={ c with
 wf:=⟨c.wf.hL,c.wf.hM,fun j f b=>by
  rw [YD] at b
  split at b
  ·rename_i e;cases b;subst e;exact ⟨d,trivial⟩
  ·exact c.wf.hV j f b⟩
 hV:=fun j f b=>by
  rw [YD] at b
  split at b
  ·rename_i e;cases b;subst e;exact h
  ·exact c.hV j f b }
theorem Sat.take {α:Type} {R:TRep α} {b x j k:Nat} {o:List Value} {g:List (List α)} {v:Value} {xs:List α} {E:Env} {F:Yu} {w:World} {a:Act} (I:Sat X s E F w a) (hM:ZP s.M k=some (.abs (TZ R X.n0 b x o g none)))
  (D:o[j]? = some v) (T:g[j]? = some xs):∃ E',E'.ρ s.nx=v /\
   Sat X ⟨s.L,(s.nx,.own R xs true)::(k,.abs (TZ R X.n0 b x o g (some j)))::s.M,(s.nx,.fn (fun u=>o[j]? = some u))::s.V,s.nx+1⟩ E' F w a:=by
 have Y:(TZ R X.n0 b x o g none).ok F w:=I.hM k _ hM
 have ⟨o1,o2,o3,o4,W,o6,o7⟩:=Y
 have S:=o4 j v xs D T (by simp)
 have hE:E.Eqb s.nx (E.setρ s.nx v):=E.eqb_setρ _ _ _ (Zo _)
 have H:(E.setρ s.nx v).ρ s.nx=v:=by simp [Env.setρ]
 have Z:=(I.wf.hM k _ hM).1
 have C:=(I.env hE (fun i=>by
  simp only [Env.setρ];split
  ·exact o7 v (Zb D)
  ·exact I.one i)).nxt (n:=s.nx+1) (Nat.le_succ _)
 have q:∀ c,(TZ R X.n0 b x o g (some j)).fp c->(TZ R X.n0 b x o g none).fp c:=fun c f=>by
  rcases f with f | ⟨i,u,y,A,K⟩
  ·exact .inl f
  ·exact .inr ⟨i,u,y,by simp,K⟩
 have r:∀ c,YC v=some c->(TZ R X.n0 b x o g none).fp c:=fun c f=>.inr ⟨j,v,D,by simp,f⟩
 have d:∀ {i:Nat} {m:MO},ZP ((s.nx,MO.own R xs true)::(k,.abs (TZ R X.n0 b x o g (some j)))::s.M) i=some m ->
   (s.nx=i/\m=.own R xs true)\/(k=i/\m=.abs (TZ R X.n0 b x o g (some j)))\/(i≠s.nx/\i≠k/\ZP s.M i=some m):=fun {i m} h=>by
  rw [YD] at h
  split at h
  ·rename_i e;cases h;exact .inl ⟨e,rfl⟩
  ·rename_i e1
   rw [YD] at h
   split at h
   ·rename_i e;cases h;exact .inr (.inl ⟨e,rfl⟩)
   ·rename_i e2;exact .inr (.inr ⟨fun e=>e1 e.symm,fun e=>e2 e.symm,h⟩)
 have s2:=C.reM (M':=(s.nx,.own R xs true)::(k,.abs (TZ R X.n0 b x o g (some j)))::s.M) (fun i m h=>by
   rcases d h with ⟨rfl,rfl⟩ | ⟨rfl,rfl⟩ | ⟨_,_,h⟩
   ·exact ⟨Nat.lt_succ_self _,trivial⟩
   ·exact ⟨Nat.lt_succ_of_lt Z,trivial⟩
   ·have:=I.wf.hM i m h;exact ⟨Nat.lt_succ_of_lt this.1,this.2.mono (Nat.le_succ _)⟩) (fun i m h=>by
   rcases d h with ⟨rfl,rfl⟩ | ⟨rfl,rfl⟩ | ⟨_,_,h⟩
   ·show OwnR R F w xs ((E.setρ s.nx v).ρ s.nx);rw [H];exact S
   ·exact ⟨o1,o2,o3,fun i u ys y A _=>o4 i u ys y A (by simp),fun i u c y _ K=>W i u c y (by simp) K,fun i N u u' c y A K _ _ h6=>o6 i N u u' c y A K (by simp) (by simp) h6,o7⟩
   ·exact C.hM i m h) (fun i m h c f=>by
   rcases d h with ⟨rfl,rfl⟩ | ⟨rfl,rfl⟩ | ⟨_,_,h⟩
   ·have f:YC ((E.setρ s.nx v).ρ s.nx)=some c:=f
    rw [H] at f
    exact ⟨k,_,hM,r c f⟩
   ·exact ⟨_,_,hM,q c f⟩
   ·exact ⟨i,m,h,f⟩) (fun i N m m' h z p c f l=>by
   have U:∀ {c},(MO.own R xs true).fp (E.setρ s.nx v) s.nx c->YC v=some c:=fun {c} f=>by
    have f:YC ((E.setρ s.nx v).ρ s.nx)=some c:=f
    rwa [H] at f
   have T:∀ {c},YC v=some c->(TZ R X.n0 b x o g (some j)).fp c->False:=fun {c} y A=>by
    rcases A with A | ⟨i,u,g1,g2,g3⟩
    ·exact (W j v c D (by simp) y).2 A
    ·exact o6 j i v u c D g1 (fun e=>g2 (by rw [e])) (by simp) (by simp) y g3
   rcases d h with ⟨rfl,rfl⟩ | ⟨rfl,rfl⟩ | ⟨n1,n2,h⟩
   ·rcases d z with ⟨rfl,rfl⟩ | ⟨rfl,rfl⟩ | ⟨O,G,z⟩
    ·exact p rfl
    ·exact T (U f) l
    ·exact C.dis k N _ m' hM z (fun e=>G e.symm) c (r c (U f)) l
   ·rcases d z with ⟨rfl,rfl⟩ | ⟨rfl,rfl⟩ | ⟨O,G,z⟩
    ·exact T (U l) f
    ·exact p rfl
    ·exact C.dis k N _ m' hM z p c (q c f) l
   ·rcases d z with ⟨rfl,rfl⟩ | ⟨rfl,rfl⟩ | ⟨O,G,z⟩
    ·exact C.dis i k m _ h hM n2 c f (r c (U l))
    ·exact C.dis i k m _ h hM p c f (q c l)
    ·exact C.dis i N m m' h z p c f l) (fun i m h hf c f=>by
   rcases d h with ⟨rfl,rfl⟩ | ⟨rfl,rfl⟩ | ⟨_,_,h⟩
   ·have f:YC ((E.setρ s.nx v).ρ s.nx)=some c:=f
    rw [H] at f
    exact (W j v c D (by simp) f).1
   ·cases hf
   ·exact C.fresh i m h hf c f)
 exact ⟨_,H,s2.addFn (k:=s.nx) (Nat.lt_succ_self _) (by rw [H];exact D)⟩
end
end
section

end
section
variable [LxP]
open Go.Proofs
section
variable {X:Ctx} {s:St} {E:Env} {F:Yu} {w:World} {a:Act} {ops:Array Oper} {todo:Act->World->Prop}
end
end
section
variable [LxP]
open Go.Proofs
section
variable {X:Ctx} {tt:List (Nat × TD)}
def sl6 (tt:List (Nat × TD)) (nt:Nat) (c:Cf):Bool:=Nat.blt (YI c) nt && Nat.beq (Yw tt (Z9 (ZN c).op)).kd 6
def ZqQ (ops:Array Oper) (n:Nat):Bool:=Nat.beq ops.size (n+1) && match ops[n]? with
 | some o=>o.after.toList.all (fun d => !Region.binds .any d || Nat.blt d.on n) && (List.range n).all fun j=>o.after.toList.any fun d=>Region.binds .any d && Nat.beq d.on j
 | none=>false
def MP:Cf->Bool
 | .rg (some q) ops i _ _=>Nat.beq i q.2.2.length && ZqQ ops i
 | _=>false
end
end
section
variable [LxP]
section
variable {X:Ctx} {tt:List (Nat × TD)}
end
end
section
def Zj2 (P:Program) (g:Nat) (name:String) (k:IntKind) (zs:List Int):Mv where
 fp _:=False
 ok F w:=F g/\P.globalNamed name=some g/\Lib.TabIs P w name k zs
 mono h _:=fun ⟨h1,h2,h3⟩=>⟨h.sub g h1,h2,by
  unfold Lib.TabIs World.var? at h3 ⊢
  rw [h2] at h3 ⊢
  simp only [Option.bind_some] at h3 ⊢
  rw [h.same g h1]
  exact h3⟩
end
end Go.Kx
section
namespace Go.Kx
variable [LxP]
section
variable {X:Ctx} {s:St} {ops:Array Oper} {todo:Act->World->Prop} {tt:List (Nat × TD)}
theorem WPr.cvi {i:Nat} {rest:List Nat} {o:Oper} {t u d:Nat} {x:Operand} {k g:IntKind} {n:Int}
  (h:ops[i]? = some o) (j:YJ ops s.L o=some true) (e:o.op=.convert t u x) (l:o.dst=some d)
  (m:X.P.underlying t=some (.int g)) (p:X.P.underlying u=some .string)
  (q:Ya s.L x=some (.c (.i k n))) (r:Nat.blt d X.fn.ntmps=true)
  (y:WPr X ops rest todo ⟨(d,.c (.s (Utf8.encode n)))::s.L,s.M,s.V,s.nx⟩):WPr X ops (i::rest) todo s:=by
 refine WPr.op h j (fun E F w a f=>?_) y
 have ⟨z,_⟩:=f.eval q
 have b:(execOp a.eval o).run X.P w=.ok (.value (.string (Utf8.encode n))) w:=by
  simp only [execOp,e,z,Z8,ZX]
  refine YP ?_
  simp [convert,YU m,YU p,Conv.intToString]
 refine XD b ⟨E,F,?_⟩
 rw [l]
 exact f.setL (v:=.c (.s (Utf8.encode n))) trivial (YO r)
end
section
variable {X:Ctx} {tt:List (Nat × TD)}
def Znr:Option TypeDesc->IntKind
 | some (.int k)=>k
 | _=>.i64
def dCr (c:Cf):Dl:=d1 c (.c (.s (Utf8.encode (Zie (Z7 c 0)))))
def nCr (c:Cf):Cf:=Y5 (dCr c) c
theorem HL {c:Cf} (k:Wc X (nCr c))
  (b:(hB X.fn.ntmps c,(ZN c).dst,(ZN c).op,X.P.underlying (Z9 (ZN c).op),X.P.underlying (Xn (ZN c).op),Z7 c 0)=(true,some (YI c),.convert (Z9 (ZN c).op) (Xn (ZN c).op) (Ym (ZN c).op 0),some (.int (Znr (X.P.underlying (Z9 (ZN c).op)))),some .string,some (.c (.i (SD (Z7 c 0)) (Zie (Z7 c 0))))):=by kernel_rfl):Wc X c:=by
 simp only [Zp] at b
 have ⟨j,e,l,m,n,o⟩:=b
 have ⟨p,q⟩:=Xa j
 refine Wc.ev (d:=dCr c) p (Xd e rfl) (fun nk E0 F0 w0 n0 Z rest K f g h=>WPr.cvi (X:=X.var nk E0 F0 w0 n0 Z) f g l e m n o q h) k
end
end Go.Kx
namespace Go.Kx
variable [LxP]
theorem Zn0 {P:Program} {f:FuncId} {c:Ct} {k:Nat} {A:Mv} (h:Fn P f c) (o:c.M0=[(k,.abs A)]) (i:c.res=.c (.b true)) (g:∀ b,¬ A.fp b) {E:Env} {w:World} (p:A.ok (Vi w) w) (l:∀ k,(E.ρ k).oneCell'=true) (hV:∀ k x,ZP c.V0 k=some x->x.ok E (Vi w) w (E.ρ k)) :
  Calls P f (c.args.map (Z8 E)).toArray w fun e w'=>e=.returned (.bool true)/\Ext (Vi w) w w':=by
 have n:∀ j m,ZP c.M0 j=some m->m=.abs A:=fun j m h=>by
  rw [o,YD] at h
  split at h
  ·cases h;rfl
  ·cases h
 have v:c.Pre E (Vi w) w:=⟨l,fun _ h=>h,hV,fun j m h=>by rw [n j m h];exact p,fun j y m m' h _ _ b d=>by rw [n j m h] at d;exact absurd d (g b),fun j m h b d=>by rw [n j m h] at d;exact absurd d (g b)⟩
 refine (h.calls E (Vi w) w v).mono fun e w' ⟨z,C,q,r⟩=>?_
 refine ⟨by rw [q,i];rfl,r.ext.mono fun b d=>⟨d,?_⟩⟩
 rintro ⟨j,m,u,d⟩
 rw [n j m u] at d
 exact g b d
end Go.Kx
namespace Go.Kx
theorem Zis {P:Program} {w:World} {name:String} {d:DataW Unit}:∀ (l:List (String × DataW Unit)) (c:List MemPlace),DataW.LaidVars P w l c->(name,d)∈l ->
    ∃ g t cs b p,P.globalNamed name=some g/\(P.globals[g]?).map (·.type)=some t/\w.var? P name=some cs/\DataW.trod (fun _=>()) P w 0 (fun _=>true) false b t cs.toList=some (d,p)
  | [],_,_,h=>by cases h
  | (n,e)::r,c,⟨g,t,cs,b,p,q,h1,h2,h3,h4,h5,_⟩,h=>by
    rcases List.mem_cons.1 h with f | h
    · cases f
      exact ⟨g,t,cs,b,p,h1,h2,h3,h4⟩
    · exact Zis r q h5 h
theorem ZqO {P:Program} {W:World} {name:String} {k:IntKind} {zs:List Int} {l:List (String × DataW Unit)} {i:Nat} {g:Nat} {t e:TypeId} {n:Nat} (c:laidMetH P l W) (r:(l.filter fun x=>x.2.handleName?.isSome).isEmpty=true)
    (hi:l[i]? = some (name,Lib.tabData k zs)) (d:P.globalNamed name=some g) (f:(P.globals[g]?).map (·.type)=some t) (v:P.underlying t=some (.array n e)) (y:P.underlying e=some (.int k)) (j:P.cellsOf e=1) (m:P.cellsOf t=n) :
    (Zj2 P g name k zs).ok (Vi W) W:=by
  have D:laidMet P l W:=by
    unfold laidMetH at c
    split at c
    · exact c
    · rename_i h;rw [h] at r;cases r
  have ⟨z,A,_⟩:=D
  have ⟨H,I,cs,u,p,o,q,b,C⟩:=Zis l z A (Zb hi)
  obtain rfl:=Zk (d.symm.trans o)
  obtain rfl:=Zk (f.symm.trans q)
  have G:Lib.TabIs P W name k zs:=by
    unfold Lib.TabIs
    rw [b,<- Lib.cells_of_tab v y j m C]
  refine ⟨?_,d,G⟩
  show g < W.heap.size
  unfold World.var? at b
  rw [d] at b
  simp only [Option.bind_some] at b
  split at b
  · rename_i h;exact (Array.getElem?_eq_some_iff.1 h).1
  · cases b
end Go.Kx
end
section
namespace Go.Kx
variable [LxP]
def QP (s m:ByteArray):Option ByteArray:=bif Nat.ble (s.size+m.size) lim then some (s++m) else none
theorem ZlD {s m z:ByteArray} (h:QP s m=some z):z=s++m/\s.size+m.size<=lim:=by
 unfold QP at h
 cases b:Nat.ble (s.size+m.size) lim with
 | false=>rw [b] at h;cases h
 | true=>rw [b] at h;cases h;exact ⟨rfl,Ze b⟩
theorem Zl0 (s m:ByteArray):WJ (s++m)=WJ s++WJ m:=by
 unfold WJ
 rw [ByteArray.data_append,Array.toList_append,List.map_append]
def QB (ty:TypeId) (off:Nat) (el:TypeId):Prop:=off=0/\el=ty
theorem BufR.q {ty:TypeId} {F:Yu} {w:World} {s:ByteArray} {v:Value} (h:BufR ty w s v):OwnQ (QB ty) (rI .u8) F w (WJ s) v:=by
 rcases h with ⟨h,rfl⟩ | ⟨b,cap,arr,fz,f,g,n,k,l,m⟩
 ·refine .inl ⟨List.eq_nil_of_length_eq_zero (by rw [Sw];exact h),rfl⟩
 ·refine .inr ⟨b,0,cap,arr,ty,fz,⟨rfl,rfl⟩,by rw [Sw];exact f,by rw [Sw];exact g,?_,k,l,fun i x c=>?_⟩
  ·show 0+cap * 1<=_;omega
  ·refine ⟨[.int .u8 x],rfl,fun j v d=>?_⟩
   cases j with
   | succ j=>simp at d
   | zero =>
    simp only [List.getElem?_cons_zero,Option.some.injEq] at d
    subst d
    unfold WJ at c
    rw [List.getElem?_map,Zl] at c
    obtain ⟨u,e,rfl⟩:=c
    have:=m i u e
    show arr[0+i * 1+0]? = _
    rw [Nat.zero_add,Nat.mul_one,Nat.add_zero]
    exact this
theorem BufR.of {ty:TypeId} {F:Yu} {w:World} {s:ByteArray} {v:Value} (h:OwnQ (QB ty) (rI .u8) F w (WJ s) v):BufR ty w s v:=by
 rcases h with ⟨h,rfl⟩ | ⟨b,off,cap,arr,el,fz,⟨rfl,rfl⟩,d,f,g,m,n,o⟩
 ·exact .inl ⟨by rw [<- Sw,h];rfl,rfl⟩
 ·rw [Sw] at d f
  refine .inr ⟨b,cap,arr,fz,d,f,?_,m,n,fun i u j=>?_⟩
  ·have g:0+cap * 1<=arr.size:=g
   omega
  ·have ⟨k,c,l⟩:=o i (u.toNat:Int) (by unfold WJ;rw [List.getElem?_map,j];rfl)
   have c:k=[.int .u8 (u.toNat:Int)]:=c
   subst c
   have:=l 0 _ rfl
   have e:0+i * (rI .u8).sz+0=i:=by show 0+i * 1+0=i;omega
   rw [e] at this
   exact this
section
variable {X:Ctx} {s:St} {ops:Array Oper} {todo:Act->World->Prop} {tt:List (Nat × TD)}
theorem Sat.newBuf {E:Env} {F:Yu} {w:World} {a:Act} {sb:ByteArray} {ty:TypeId} {v:Value} (d:Sat X s E F w a) (g:BufR ty w sb v)
  (e:∀ b,YC v=some b->¬ F b/\¬ X.Z b/\b < w.heap.size/\∀ k m',ZP s.M k=some m'->¬ m'.fp E k b) :
  ∃ m,m.ρ s.nx=v/\Sat X ⟨s.L,(s.nx,.buf sb ty)::s.M,s.V,s.nx+1⟩ m F w a:=by
 have l:E.Eqb s.nx (E.setρ s.nx v):=E.eqb_setρ _ _ _ (Zo _)
 have f:(E.setρ s.nx v).ρ s.nx=v:=by simp [Env.setρ]
 have u:=d.env l (fun j=>by
  simp only [Env.setρ];split
  ·rcases g with ⟨_,rfl⟩ | ⟨_,_,_,_,rfl,_⟩<;>rfl
  ·exact d.one j)
 refine ⟨_,f,u.addM' ?_ trivial ?_ (fun h=>by cases h)⟩
 ·show BufR ty w sb ((E.setρ s.nx v).ρ s.nx)
  rw [f];exact g
 ·intro b c
  have c:YC ((E.setρ s.nx v).ρ s.nx)=some b:=c
  rw [f] at c
  have ⟨o,p,q,r⟩:=e b c
  exact ⟨o,p,q,fun k m' i n=>r k m' i ((MO.fp_eqb l (d.wf.hM k m' i).1).1 n)⟩
theorem WPr.apb (htt:TTOk X.P tt) {i:Nat} {rest:List Nat} {o:Oper} {t t2:TypeId} {u m:TD} {x y:Operand} {d k ty:Nat} {A:SC} {sb z:ByteArray} {ys:List Int}
  (I:WJ z=WJ sb++ys/\sb.size+ys.length<=lim) (C:Ux X s (rI .u8) ys A) (N:ops[i]? = some o) (hg:YJ ops s.L o=some true) (O:o.op=.call { callee:=.builtin .append,args:=#[x,y],argTypes:=#[t,t2] }) (hd:o.dst=some d)
  (hx:Ya s.L x=some (.c (.sl k))) (K:ZP s.M k=some (.buf sb ty)) (hy:Ya s.L y=some (.c A)) (ht:ZP tt t=some u) (S:ZP tt t2=some m)
  (Z:(Nat.blt d X.fn.ntmps && Nat.beq u.kd 6 && (Nat.beq m.kd 6 || Nat.beq m.kd 2) && Nat.beq u.es 1 && Nat.ble u.eb 32768 && Nat.beq u.el ty)=true)
  (kk:WPr X ops rest todo ⟨(d,.c (.sl s.nx))::s.L,(s.nx,.buf z ty)::(k,.gone)::s.M,s.V,s.nx+1⟩):WPr X ops (i::rest) todo s:=by
 refine WPr.op N hg (fun E F w a f=>?_) kk
 simp only [Zc] at Z
 obtain ⟨⟨⟨⟨⟨c1,c2⟩,T⟩,c3⟩,c4⟩,U⟩:=Z
 have U:=Zd U
 have ⟨e1,_⟩:=f.eval hx
 have ⟨e2,_⟩:=f.eval hy
 have N:BufR ty w sb (E.ρ k):=f.hM k _ K
 have r:∀ b,YC (E.ρ k)=some b->_:=f.mF k _ K
 have W:=ZdZ (htt.get S) T
 have ⟨v',w',G,H,g1,g2,g3,g4,g5,g6⟩:=ZjD (QB ty) (ty:=o.type) ⟨rfl,U⟩ W (htt.get ht) c2 (R:=rI .u8) (Zd c3) (N.q (F:=F)) (C E F w a f) (fun b n=>(r b n).1) f.hF (fun b n=>(r b n).2.2) (by rw [Sw];exact I.2) (Ze c4)
 rw [<- I.1] at H
 refine XD (v:=v') (w':=w') (Ug O ?_) ?_
 ·simp only [List.map_toArray,List.map_cons,List.map_nil,e1,e2,Z8,ZX]
  exact YP G
 ·have s1:=f.setM (m':=.gone) K g1 g2 g3 g4 (fun b n p=>g5 b n (fun e=>p e)) (fun _ h=>h.elim) trivial trivial (fun h=>by cases h)
  have ⟨E',hv,s2⟩:=s1.newBuf (BufR.of H) (fun b n=>by
    have ⟨l,h2⟩:=g6 b n
    rcases l with l | l
    ·have:=r b l
     refine ⟨this.1,this.2.1,h2,fun j m' g D=>?_⟩
     simp only [YD] at g
     split at g
     ·cases g;exact D.elim
     ·rename_i p;exact f.dis k j _ m' K g p b l D
    ·refine ⟨fun hF=>absurd (f.hF b hF) (Nat.not_lt.2 l),fun I=>absurd (Zh (f.hZ b I) f.ext.size) (Nat.not_lt.2 l),h2,fun j m' g D=>?_⟩
     simp only [YD] at g
     split at g
     ·cases g;exact D.elim
     ·exact absurd (f.mF j m' g b D).2.2 (Nat.not_lt.2 l))
  have Y:=s2.setL (d:=d) (v:=.c (.sl s.nx)) (Nat.lt_succ_self _) (YO c1)
  simp only [Z8,ZX] at Y
  rw [show E'.ρ s.nx=v' from hv] at Y
  rw [hd]
  exact ⟨E',F,Y⟩
theorem WPr.usd {i:Nat} {rest:List Nat} {o:Oper} {x:Operand} {m:Array TypeId} {d k ty:Nat} {sb:ByteArray}
  (n:ops[i]? = some o) (p:YJ ops s.L o=some true) (g:o.op=.call { callee:=.builtin .unsafeSliceData,args:=#[x],argTypes:=m }) (q:o.dst=some d)
  (r:Ya s.L x=some (.c (.sl k))) (l:ZP s.M k=some (.buf sb ty)) (e:(Nat.beq sb.size 0)=false) (u:Nat.blt d X.fn.ntmps=true)
  (y:WPr X ops rest todo ⟨(d,.c (.px k 0))::s.L,s.M,s.V,s.nx⟩):WPr X ops (i::rest) todo s:=by
 refine WPr.val (v:=.c (.px k 0)) (fun E F w a j=>⟨?_,(j.wf.hM k _ l).1⟩) n p q u y
 have ⟨z,_⟩:=j.eval r
 have D:BufR ty w sb (E.ρ k):=j.hM k _ l
 rcases D with ⟨h,_⟩ | ⟨b,cap,arr,fz,A,C,G,H,I,K⟩
 ·rw [h] at e;cases e
 ·refine Ug g ?_
  simp only [List.map_toArray,List.map_cons,List.map_nil,z,Z8,ZX,A]
  have f:cap≠0:=by
   intro h;rw [h] at C
   have:sb.size=0:=by omega
   rw [this] at e;cases e
  exact YP ((Go.Lib.run_unsafeSliceData_row _ _ _ _ _ _ f).trans (by simp [Vk]))
theorem WPr.bln (htt:TTOk X.P tt) {i:Nat} {rest:List Nat} {o:Oper} {t:TypeId} {j:TD} {x:Operand} {d k ty:Nat} {sb:ByteArray}
  (n:ops[i]? = some o) (p:YJ ops s.L o=some true) (e:o.op=.call { callee:=.builtin .len,args:=#[x],argTypes:=#[t] }) (q:o.dst=some d)
  (r:Ya s.L x=some (.c (.sl k))) (u:ZP s.M k=some (.buf sb ty)) (y:ZP tt t=some j) (f:(Nat.blt d X.fn.ntmps && Nat.beq j.kd 6)=true)
  (z:WPr X ops rest todo ⟨(d,.c (.i .i64 sb.size))::s.L,s.M,s.V,s.nx⟩):WPr X ops (i::rest) todo s:=by
 simp only [Zc] at f
 refine WPr.val (v:=.c (.i .i64 sb.size)) (fun E F w a l=>⟨?_,trivial⟩) n p q f.1 z
 have ⟨el,m,D⟩:=(htt.get y).sliceOf f.2
 have ⟨A,_⟩:=l.eval r
 have C:BufR ty w sb (E.ρ k):=l.hM k _ u
 refine Ug e ?_
 simp only [List.map_toArray,List.map_cons,List.map_nil,A,Z8,ZX]
 rcases C with ⟨h,g⟩ | ⟨b,cap,arr,fz,g,_⟩
 ·rw [g,h];exact YP (by simp [Builtin.len_,YU m,Builtin.lenOf,goInt])
 ·rw [g];exact YP (by simp [Builtin.len_,YU m,Builtin.lenOf,goInt])
theorem Zng {w:World} {b n:Nat} {arr:Array Value} {ty:TypeId} {fz:Nat × Nat} (a:Addr):(w.freeze a n).os=w.os/\(w.freeze a n).tape=w.tape/\(w.freeze a n).output=w.output/\(w.freeze a n).drawn=w.drawn/\(w.freeze a n).heap.size=w.heap.size/\∀ c,c≠a.block->(w.freeze a n).heap[c]? = w.heap[c]? := by
 unfold World.freeze
 split
 ·exact ⟨rfl,rfl,rfl,rfl,rfl,fun _ _=>rfl⟩
 ·refine ⟨rfl,rfl,rfl,rfl,by simp,fun c d=>?_⟩
  simp only [Array.getElem?_modify]
  rw [if_neg (Ne.symm d)]
theorem WPr.ust {i:Nat} {rest:List Nat} {o:Oper} {x y:Operand} {u D:TypeId} {d k ty:Nat} {sb:ByteArray} {n:Int}
  (K:ops[i]? = some o) (N:YJ ops s.L o=some true) (z:o.op=.call { callee:=.builtin .unsafeString,args:=#[x,y],argTypes:=#[u,D] }) (O:o.dst=some d)
  (R:Ya s.L x=some (.c (.px k 0))) (S:Ya s.L y=some (.c (.i .i64 n))) (hn0:n=(sb.size:Int)) (G:ZP s.M k=some (.buf sb ty)) (f:(Nat.beq sb.size 0 || !(Nat.ble sb.size lim))=false)
  (A:X.P.underlying u=some (.pointer ty)) (C:X.P.cellsOf ty=1) (T:Nat.blt d X.fn.ntmps=true)
  (U:WPr X ops rest todo ⟨(d,.c (.s sb))::s.L,(k,.gone)::s.M,s.V,s.nx⟩):WPr X ops (i::rest) todo s:=by
 refine WPr.op K N (fun E F w a r=>?_) U
 have ⟨Y,_⟩:=r.eval R
 have ⟨Z,_⟩:=r.eval S
 rw [Bool.or_eq_false_iff,Bool.not_eq_false'] at f
 have ⟨f,g⟩:=f
 have g:=Ze g
 have hb:BufR ty w sb (E.ρ k):=r.hM k _ G
 rcases hb with ⟨h,_⟩ | ⟨b,cap,arr,fz,H,h1,h2,h3,I,h5⟩
 ·rw [h] at f;cases f
 have l:sb.data.toList.length=sb.size:=by rw [Array.length_toList];rfl
 have p:=Lib.run_unsafeString_row (P:=X.P) w u D o.type ty A C b arr.size (by simp [World.shape?,I]) sb.data.toList (fun h=>by rw [<- l,h] at f;cases f) (by rw [l];omega) (by rw [l];unfold lim at g;omega) (fun j x W=>by
  rw [WI,QR I,Nat.zero_add];exact h5 j x W)
 have e3:(⟨sb.data.toList.toArray⟩:ByteArray)=sb:=by rw [Array.toArray_toList]
 rw [l,e3] at p
 have ⟨f1,f2,f3,f4,f5,f6⟩:=Zng (w:=w) (b:=b) (n:=sb.size) (arr:=arr) (ty:=ty) (fz:=fz) ⟨b,0,none⟩
 refine XD (v:=.string sb) (w':=w.freeze ⟨b,0,none⟩ sb.size) (Ug z ?_) ?_
 ·simp only [List.map_toArray,List.map_cons,List.map_nil,Y,Z,Z8,ZX,H,Vk,Nat.add_zero,hn0]
  exact YP p
 ·have s1:=r.setM (m':=.gone) (w':=w.freeze ⟨b,0,none⟩ sb.size) G f1 f2 (.m f3 (by rw [f4];exact Zo _)) (by rw [f5];exact Zo _) (fun c hc q=>f6 c (fun e=>q (by show YC (E.ρ k)=some c;rw [H,e];rfl))) (fun _ h=>h.elim) trivial trivial (fun h=>by cases h)
  have s3:=s1.setL (d:=d) (v:=.c (.s sb)) trivial (YO T)
  rw [O]
  exact ⟨E,F,s3⟩
theorem WPr.axa (j:Nat) {i:Nat} {rest:List Nat} {o:Oper} {t el len es d:Nat} {x y:Operand} {ik:IntKind} {n:Int} {cs:List SC}
    (q:n=(j:Int)) (r:ops[i]? = some o) (u:YJ ops s.L o=some true) (f:o.op=.index t x y) (z:o.dst=some d) (A:X.P.underlying t=some (.array len el))
    (l:(X.P.info? el).map (·.size)=some es) (C:U3 X.P el=true) (g:(X.P.underlying el).isSome=true) (b:Nat.blt j len=true)
    (D:Ya s.L x=some (.a cs)) (m:Nat.ble (j * es+es) cs.length=true) (h:Ya s.L y=some (.c (.i ik n))) (G:Nat.blt d X.fn.ntmps=true)
    (H:WPr X ops rest todo ⟨(d,.a ((cs.drop (j * es)).take es))::s.L,s.M,s.V,s.nx⟩):WPr X ops (i::rest) todo s:=by
  refine WPr.val (v:=.a ((cs.drop (j * es)).take es)) (fun E F w a p=>?_) r u z G H
  have ⟨I,K⟩:=p.eval D
  have ⟨N,_⟩:=p.eval h
  have ⟨W,k⟩:=Option.isSome_iff_exists.1 g
  refine ⟨?_,fun y h=>K y (List.mem_of_mem_drop (List.mem_of_mem_take h))⟩
  simp only [execOp,f,I,N,Z8,ZX]
  refine YP ?_
  have e:=Zau w k
  rw [C] at e
  have T:(sizeOf el).run X.P w=.ok es w:=by
    rw [Zl] at l
    have ⟨O,R,S⟩:=l
    simp [sizeOf,typeInfo,R,S]
  have b:=YO b
  have m:=Ze m
  subst q
  have U:(0<=(j:Int)/\(j:Int) < (len:Int)):=⟨by omega,by omega⟩
  simp only [Instr.index,asIntOf,Sem.run_bind,Sem.run_pure,Result.andThen_ok,YU A,U,and_self,if_true,T,part,e,Int.toNat_natCast]
  congr 2
  apply Array.ext'
  rw [Array.toList_extract]
  simp only [List.extract,List.map_take,List.map_drop]
  congr 1
  omega
theorem WPr.pps {i:Nat} {rest:List Nat} {o:Oper} {t el g d k off:Nat} {x y:Operand}
  (h:ops[i]? = some o) (l:YJ ops s.L o=some true) (e:o.op=.binOp .neq t x y g) (m:o.dst=some d) (n:X.P.underlying t=some (.pointer el)) (hi:(X.P.info? el).isSome=true)
  (p:Ya s.L x=some (.c (.bp k off))) (q:Ya s.L y=some (.c (.bp k off))) (r:Nat.blt d X.fn.ntmps=true)
  (u:WPr X ops rest todo ⟨(d,.c (.b false))::s.L,s.M,s.V,s.nx⟩):WPr X ops (i::rest) todo s:=by
 refine WPr.val (v:=.c (.b false)) (fun E F w a f=>?_) h l m r u
 have ⟨z,_⟩:=f.eval p
 have ⟨A,_⟩:=f.eval q
 have ⟨j,C⟩:=Option.isSome_iff_exists.1 hi
 refine ⟨?_,trivial⟩
 simp only [execOp,e,z,A,Z8,ZX]
 refine YP ?_
 have:=Lib.run_neq_ptr_same (P:=X.P) w ⟨E.β k,off,none⟩ n C
 simp only [eqGuard,Sem.run_bind,Sem.run_pure,Result.andThen_ok]
 exact this
theorem WPr.pnn {i:Nat} {rest:List Nat} {o:Oper} {t el h d:Nat} {x y:Operand}
  (j:ops[i]? = some o) (k:YJ ops s.L o=some true) (e:o.op=.binOp .eql t x y h) (l:o.dst=some d) (m:X.P.underlying t=some (.pointer el))
  (n:Ya s.L x=some (.c (.v (.pointer none)))) (p:Ya s.L y=some (.c (.v (.pointer none)))) (r:Nat.blt d X.fn.ntmps=true)
  (u:WPr X ops rest todo ⟨(d,.c (.b true))::s.L,s.M,s.V,s.nx⟩):WPr X ops (i::rest) todo s:=by
 refine WPr.val (v:=.c (.b true)) (fun E F w a g=>?_) j k l r u
 have ⟨z,_⟩:=g.eval n
 have ⟨A,_⟩:=g.eval p
 refine ⟨?_,trivial⟩
 simp only [execOp,e,z,A,Z8,ZX]
 refine YP ?_
 have f:(Op.equal t (.pointer none) (.pointer none)).run X.P w=.ok true w:=by
  show (Op.equalIn (9999+1) t _ _).run X.P w=.ok true w
  generalize 9999=q
  simp only [Op.equalIn,Sem.run_bind,YU m,Result.andThen_ok,Sem.run_pure,Option.isNone_none]
 simp only [eqGuard,Sem.run_bind,Sem.run_pure,Result.andThen_ok]
 show (do pure (Value.bool (<- Op.equal t _ _)):Sem Value).run X.P w=_
 simp only [Sem.run_bind,f,Result.andThen_ok,Sem.run_pure]
theorem ZjO {E:Env} {F:Yu} {w:World} {a:Act} (b:Sat X s E F w a) {k ty:Nat} {cs:List SC} (hM:ZP s.M k=some (.box cs ty)):w.shape? (E.β k)=some (ty,cs.length):=by
 have:w.heap[E.β k]? = some (.cells (cs.map (ZX E)).toArray ty (0,0)):=b.hM k _ hM
 unfold World.shape?
 rw [this];simp
theorem WPr.cvu {i:Nat} {rest:List Nat} {o:Oper} {b dst t d k off ty:Nat} {x:Operand} {cs:List SC}
  (p:ops[i]? = some o) (q:YJ ops s.L o=some true) (g:o.op=.convert b dst x) (r:o.dst=some d) (l:X.P.underlying b=some (.pointer t)) (m:X.P.underlying dst=some .unsafePointer)
  (hi:(X.P.info? t).map (fun j=>Nat.beq j.size 0)=some false) (u:Ya s.L x=some (.c (.bp k off))) (hM:ZP s.M k=some (.box cs ty)) (e:Nat.blt off cs.length=true) (y:Nat.blt d X.fn.ntmps=true)
  (z:WPr X ops rest todo ⟨(d,.c (.bp k off))::s.L,s.M,s.V,s.nx⟩):WPr X ops (i::rest) todo s:=by
 refine WPr.val (v:=.c (.bp k off)) (fun E F w a n=>?_) p q r y z
 have ⟨A,C⟩:=n.eval u
 refine ⟨?_,C⟩
 rw [Zl] at hi
 have ⟨j,D,f⟩:=hi
 simp only [execOp,g,A,Z8,ZX]
 refine YP ?_
 exact Lib.run_to_unsafe (P:=X.P) w ⟨E.β k,off,none⟩ l m D (fun h=>by rw [h] at f;cases f) (ZjO n hM) (YO e)
theorem WPr.cvp {i:Nat} {rest:List Nat} {o:Oper} {b dst t d k off ty:Nat} {x:Operand} {cs:List SC}
  (l:ops[i]? = some o) (m:YJ ops s.L o=some true) (e:o.op=.convert b dst x) (n:o.dst=some d) (f:X.P.underlying b=some .unsafePointer) (g:X.P.underlying dst=some (.pointer t))
  (hi:(X.P.info? t).isSome=true) (p:Ya s.L x=some (.c (.bp k off))) (hM:ZP s.M k=some (.box cs ty)) (q:liesAt X.P X.P.depth ty (cs.length / X.P.cellsOf ty) off t 1=true) (r:Nat.blt d X.fn.ntmps=true)
  (u:WPr X ops rest todo ⟨(d,.c (.bp k off))::s.L,s.M,s.V,s.nx⟩):WPr X ops (i::rest) todo s:=by
 refine WPr.val (v:=.c (.bp k off)) (fun E F w a h=>?_) l m n r u
 have ⟨y,z⟩:=h.eval p
 refine ⟨?_,z⟩
 have ⟨j,A⟩:=Option.isSome_iff_exists.1 hi
 simp only [execOp,e,y,Z8,ZX]
 refine YP ?_
 exact Lib.run_from_unsafe (P:=X.P) w ⟨E.β k,off,none⟩ f g A (ZjO h hM) q
theorem WPr.nes {i:Nat} {rest:List Nat} {o:Oper} {f:FuncId} {fn:Func} {x:Operand} {h:Array TypeId} {d k off:Nat}
  (j:X.P.funcs[f]? = some fn) (b:(fn.name == "runtime.NumGoroutine")=false) (l:fn.body.isNone=true) (e:Extern.findNext fn=none) (m:Extern.find fn=some Extern.AbiNoEscape.same)
  (n:ops[i]? = some o) (p:YJ ops s.L o=some true) (g:o.op=.call { callee:=.value (.func f),args:=#[x],argTypes:=h }) (q:o.dst=some d) (r:Ya s.L x=some (.c (.bp k off))) (u:Nat.blt d X.fn.ntmps=true)
  (y:WPr X ops rest todo ⟨(d,.c (.bp k off))::s.L,s.M,s.V,s.nx⟩):WPr X ops (i::rest) todo s:=by
 refine WPr.val (v:=.c (.bp k off)) (fun E F w a z=>?_) n p q u y
 have ⟨A,C⟩:=z.eval r
 refine ⟨?_,C⟩
 unfold execOp
 simp only [g,resolve,Deferred.ofValue,Act.eval,invoke,Sem.run_bind,Sem.run_pure,Result.andThen_ok]
 have:(callFunc f #[ZX E (.bp k off)]).run X.P w=.ok (.value (ZX E (.bp k off))) w:=by
  rw [run_callFunc_extern j b l e m,Lib.run_noEscape];rfl
 have D:#[x].map a.eval=#[ZX E (.bp k off)]:=by simp [A,Z8]
 rw [show (#[]:Array Value)++Array.map a.eval #[x]++#[]=#[ZX E (.bp k off)] by rw [D];simp]
 exact this
end
section
variable {X:Ctx} {tt:List (Nat × TD)}
def Ve (tt:List (Nat × TD)) (j:Nat) (c:Cf):TD:=Yw tt (match j with | 0=>Z9 (ZN c).op | _=>Xn (ZN c).op)
def B6 (tt:List (Nat × TD)) (c:Cf):Bool:=Nat.beq (Ve tt 0 c).kd 6 && (Nat.beq (Ve tt 1 c).kd 6 || Nat.beq (Ve tt 1 c).kd 2) && Nat.beq (Ve tt 0 c).es 1 && Nat.ble (Ve tt 0 c).eb 32768
theorem ZnU {b d:Nat} {c:Cf} (h:B6 tt c=true) (e:Nat.blt d b=true):(Nat.blt d b && Nat.beq (Ve tt 0 c).kd 6 && (Nat.beq (Ve tt 1 c).kd 6 || Nat.beq (Ve tt 1 c).kd 2) && Nat.beq (Ve tt 0 c).es 1 && Nat.ble (Ve tt 0 c).eb 32768)=true:=by
 unfold B6 at h
 rw [e]
 simpa using h
def dBa (z:ByteArray) (ty:TypeId) (c:Cf):Dl:=⟨[(YI c,.c (.sl (ZW c).nx))],[((ZW c).nx,.buf z ty),(Yt (Z7 c 0),.gone)],[],1⟩
def nBa (z:ByteArray) (ty:TypeId) (c:Cf):Cf:=Y5 (dBa z ty c) c
theorem eBa {sb z:ByteArray} {ys:List Int} {ty:TypeId} {c:Cf} (htt:TTOk X.P tt) (i:WJ z=WJ sb++ys/\sb.size+ys.length<=lim) (b:∀ nk E0 F0 w0 n0 Z,Ux (X.var nk E0 F0 w0 n0 Z) (ZW c) (rI .u8) ys (UA (Z7 c 1))) (k:Wc X (nBa z ty c))
  (f:(hB X.fn.ntmps c,(ZN c).dst,(ZN c).op,Z7 c 0,ZP (ZW c).M (Yt (Z7 c 0)),Z7 c 1,ZP tt (Z9 (ZN c).op),ZP tt (Xn (ZN c).op),B6 tt c,(Ve tt 0 c).el)=(true,some (YI c),.call { callee:=.builtin .append,args:=#[Ym (ZN c).op 0,Ym (ZN c).op 1],argTypes:=#[Z9 (ZN c).op,Xn (ZN c).op] },some (.c (.sl (Yt (Z7 c 0)))),some (.buf sb ty),some (.c (UA (Z7 c 1))),some (Ve tt 0 c),some (Ve tt 1 c),true,ty):=by kernel_rfl):Wc X c:=by
 simp only [Zp] at f
 have ⟨m,g,n,o,p,q,r,u,v,e⟩:=f
 have ⟨x,y⟩:=Xa m
 refine Wc.ev (d:=dBa z ty c) x (Xd g rfl) (fun nk E0 F0 w0 n0 Z rest K j l h=>WPr.apb (X:=X.var nk E0 F0 w0 n0 Z) htt i (b nk E0 F0 w0 n0 Z) j l n g o p q r u ?_ h) k
 rw [Zc]
 exact ⟨ZnU v y,by rw [e];exact Nat.beq_refl _⟩
theorem eBt {sb m z:ByteArray} {ty:TypeId} {c:Cf} (htt:TTOk X.P tt) (b:QP sb m=some z) (k:Wc X (nBa z ty c))
  (d:UA (Z7 c 1)=.s m:=by kernel_rfl)
  (e:(hB X.fn.ntmps c,(ZN c).dst,(ZN c).op,Z7 c 0,ZP (ZW c).M (Yt (Z7 c 0)),Z7 c 1,ZP tt (Z9 (ZN c).op),ZP tt (Xn (ZN c).op),B6 tt c,(Ve tt 0 c).el)=(true,some (YI c),.call { callee:=.builtin .append,args:=#[Ym (ZN c).op 0,Ym (ZN c).op 1],argTypes:=#[Z9 (ZN c).op,Xn (ZN c).op] },some (.c (.sl (Yt (Z7 c 0)))),some (.buf sb ty),some (.c (UA (Z7 c 1))),some (Ve tt 0 c),some (Ve tt 1 c),true,ty):=by kernel_rfl):Wc X c:=by
 obtain ⟨rfl,f⟩:=ZlD b
 exact eBa (ys:=WJ m) htt ⟨Zl0 _ _,by rw [Sw];exact f⟩ (fun _ _ _ _ _ _=>by rw [d];exact ZqF) k e
def nUd (c:Cf):Cf:=Y5 (d1 c (.c (.px (Yt (Z7 c 0)) 0))) c
theorem eUd {sb:ByteArray} {ty:TypeId} {c:Cf} (b:(Nat.beq sb.size 0 || !(Nat.ble sb.size lim))=false) (k:Wc X (nUd c))
  (e:(hB X.fn.ntmps c,(ZN c).dst,(ZN c).op,Z7 c 0,ZP (ZW c).M (Yt (Z7 c 0)))=(true,some (YI c),.call { callee:=.builtin .unsafeSliceData,args:=#[Ym (ZN c).op 0],argTypes:=Lj (ZN c).op },some (.c (.sl (Yt (Z7 c 0)))),some (.buf sb ty)):=by kernel_rfl):Wc X c:=by
 simp only [Zp] at e
 have ⟨j,f,l,m,n⟩:=e
 have ⟨o,p⟩:=Xa j
 rw [Bool.or_eq_false_iff] at b
 exact Wc.ev (d:=d1 c (.c (.px (Yt (Z7 c 0)) 0))) o (Xd f rfl) (fun nk E0 F0 w0 n0 Z rest K g i h=>WPr.usd (X:=X.var nk E0 F0 w0 n0 Z) g i l f m n b.1 p h) k
def nBl (sb:ByteArray) (c:Cf):Cf:=Y5 (d1 c (.c (.i .i64 sb.size))) c
theorem eBl {sb:ByteArray} {ty:TypeId} {c:Cf} (htt:TTOk X.P tt) (k:Wc X (nBl sb c))
  (b:(hB X.fn.ntmps c,(ZN c).dst,(ZN c).op,Z7 c 0,ZP (ZW c).M (Yt (Z7 c 0)),ZP tt (Z9 (ZN c).op),sl6 tt X.fn.ntmps c)=(true,some (YI c),.call { callee:=.builtin .len,args:=#[Ym (ZN c).op 0],argTypes:=#[Z9 (ZN c).op] },some (.c (.sl (Yt (Z7 c 0)))),some (.buf sb ty),some (Yw tt (Z9 (ZN c).op)),true):=by kernel_rfl):Wc X c:=by
 simp only [Zp] at b
 have ⟨j,e,l,m,n,o,p⟩:=b
 have ⟨q,r⟩:=Xa j
 exact Wc.ev (d:=d1 c (.c (.i .i64 sb.size))) q (Xd e rfl) (fun nk E0 F0 w0 n0 Z rest K f g h=>WPr.bln (X:=X.var nk E0 F0 w0 n0 Z) htt f g l e m n o p h) k
def nUs (sb:ByteArray) (c:Cf):Cf:=Y5 ⟨[(YI c,.c (.s sb))],[(Yt (Z7 c 0),.gone)],[],0⟩ c
theorem eUs {sb:ByteArray} {ty:TypeId} {c:Cf} (b:(Nat.beq sb.size 0 || !(Nat.ble sb.size lim))=false) (k:Wc X (nUs sb c))
  (e:(hB X.fn.ntmps c,(ZN c).dst,(ZN c).op,Z7 c 0,Z7 c 1,ZP (ZW c).M (Yt (Z7 c 0)),X.P.underlying (Z9 (ZN c).op),X.P.cellsOf ty)=(true,some (YI c),.call { callee:=.builtin .unsafeString,args:=#[Ym (ZN c).op 0,Ym (ZN c).op 1],argTypes:=#[Z9 (ZN c).op,Xn (ZN c).op] },some (.c (.px (Yt (Z7 c 0)) 0)),some (.c (.i .i64 (sb.size:Int))),some (.buf sb ty),some (.pointer ty),1):=by kernel_rfl):Wc X c:=by
 simp only [Zp] at e
 have ⟨l,f,m,n,o,p,q,r⟩:=e
 have ⟨u,v⟩:=Xa l
 exact Wc.ev (d:=⟨[(YI c,.c (.s sb))],[(Yt (Z7 c 0),.gone)],[],0⟩) u (Xd f rfl) (fun nk E0 F0 w0 n0 Z rest K g j h=>WPr.ust (X:=X.var nk E0 F0 w0 n0 Z) g j m f n o rfl p b q r v h) k
def MN (s:ByteArray):Option Unit:=bif (Nat.beq s.size 0 || !(Nat.ble s.size lim)) then none else some ()
theorem Zh3 {s:ByteArray} {u:Unit} (h:MN s=some u):(Nat.beq s.size 0 || !(Nat.ble s.size lim))=false:=by
 unfold MN at h
 cases b:(Nat.beq s.size 0 || !(Nat.ble s.size lim)) with
 | false=>rfl
 | true=>rw [b] at h;cases h
def nUn (c:Cf):Cf:=Y5 (d1 c (.c (.v (.pointer none)))) c
theorem eUn {c:Cf} (k:Wc X (nUn c))
  (b:(hB X.fn.ntmps c,(ZN c).dst,(ZN c).op,Z7 c 0)=(true,some (YI c),.call { callee:=.builtin .unsafeSliceData,args:=#[Ym (ZN c).op 0],argTypes:=Lj (ZN c).op },some (.c .nil)):=by kernel_rfl):Wc X c:=by
 simp only [Zp] at b
 have ⟨j,e,l,m⟩:=b
 have ⟨n,o⟩:=Xa j
 exact Wc.ev (d:=d1 c (.c (.v (.pointer none)))) n (Xd e rfl) (fun nk E0 F0 w0 n0 Z rest K f g h=>WPr.val (X:=X.var nk E0 F0 w0 n0 Z) (v:=.c (.v (.pointer none))) (fun E F w a i=>⟨by
  have ⟨p,_⟩:=i.eval m
  refine Ug l ?_
  simp only [List.map_toArray,List.map_cons,List.map_nil,p,Z8,ZX]
  exact YP (Go.Lib.run_unsafeSliceData_nil _ _ _ _ _),rfl⟩) f g e o h) k
def nUz (c:Cf):Cf:=Y5 (d1 c (.c (.s ByteArray.empty))) c
theorem eUz {c:Cf} (k:Wc X (nUz c))
  (b:(hB X.fn.ntmps c,(ZN c).dst,(ZN c).op,Z7 c 0,Z7 c 1)=(true,some (YI c),.call { callee:=.builtin .unsafeString,args:=#[Ym (ZN c).op 0,Ym (ZN c).op 1],argTypes:=#[Z9 (ZN c).op,Xn (ZN c).op] },some (.c (.v (.pointer none))),some (.c (.i .i64 0))):=by kernel_rfl):Wc X c:=by
 simp only [Zp] at b
 have ⟨l,f,m,n,o⟩:=b
 have ⟨p,q⟩:=Xa l
 exact Wc.ev (d:=d1 c (.c (.s ByteArray.empty))) p (Xd f rfl) (fun nk E0 F0 w0 n0 Z rest K g j h=>WPr.val (X:=X.var nk E0 F0 w0 n0 Z) (v:=.c (.s ByteArray.empty)) (fun E F w a e=>⟨by
  have ⟨r,_⟩:=e.eval n
  have ⟨u,_⟩:=e.eval o
  refine Ug m ?_
  simp only [List.map_toArray,List.map_cons,List.map_nil,r,u,Z8,ZX]
  exact YP (Lib.run_unsafeString_none w _ _ _ none),trivial⟩) g j f q h) k
def nAa (P:Program) (j:Nat) (c:Cf):Cf:=Y5 (d1 c (.a (((Bo (Z7 c 0)).drop (j * SR P (Xj P (Z9 (ZN c).op)))).take (SR P (Xj P (Z9 (ZN c).op)))))) c
theorem BM {m:Int} {c:Cf} (j:Nat) (l:m=(j:Int)) (k:Wc X (nAa X.P j c))
    (f:(hB X.fn.ntmps c,(ZN c).dst,(ZN c).op,X.P.underlying (Z9 (ZN c).op),(X.P.info? (Xj X.P (Z9 (ZN c).op))).map (·.size),U3 X.P (Xj X.P (Z9 (ZN c).op)),(X.P.underlying (Xj X.P (Z9 (ZN c).op))).isSome,Nat.blt j (Bp X.P (Z9 (ZN c).op)),Z7 c 0,Nat.ble (j * SR X.P (Xj X.P (Z9 (ZN c).op))+SR X.P (Xj X.P (Z9 (ZN c).op))) (Bo (Z7 c 0)).length,Z7 c 1)=(true,some (YI c),.index (Z9 (ZN c).op) (Ym (ZN c).op 0) (Ym (ZN c).op 1),some (.array (Bp X.P (Z9 (ZN c).op)) (Xj X.P (Z9 (ZN c).op))),some (SR X.P (Xj X.P (Z9 (ZN c).op))),true,true,true,some (.a (Bo (Z7 c 0))),true,some (.c (.i (SD (Z7 c 1)) m))):=by kernel_rfl):Wc X c:=by
  simp only [Zp] at f
  have ⟨p,g,q,r,u,v,x,y,z,b,e⟩:=f
  have ⟨A,C⟩:=Xa p
  exact Wc.ev (d:=d1 c (.a (((Bo (Z7 c 0)).drop (j * SR X.P (Xj X.P (Z9 (ZN c).op)))).take (SR X.P (Xj X.P (Z9 (ZN c).op)))))) A (Xd g rfl) (fun nk E0 F0 w0 n0 Z rest K n o h=>WPr.axa (X:=X.var nk E0 F0 w0 n0 Z) j l n o q g r u v x y z b e C h) k
def nBo (b:Bool) (c:Cf):Cf:=Y5 (d1 c (.c (.b b))) c
theorem ePs {c:Cf} (k:Wc X (nBo false c))
  (e:(hB X.fn.ntmps c,(ZN c).dst,(ZN c).op,X.P.underlying (Z9 (ZN c).op),(X.P.info? (Xj X.P (Z9 (ZN c).op))).isSome,Z7 c 0,Z7 c 1)=(true,some (YI c),.binOp .neq (Z9 (ZN c).op) (Ym (ZN c).op 0) (Ym (ZN c).op 1) (Xn (ZN c).op),some (.pointer (Xj X.P (Z9 (ZN c).op))),true,some (.c (.bp (Yt (Z7 c 0)) (X3 (Z7 c 0)))),some (.c (.bp (Yt (Z7 c 0)) (X3 (Z7 c 0))))):=by kernel_rfl):Wc X c:=by
 simp only [Zp] at e
 have ⟨j,f,l,m,n,o,p⟩:=e
 have ⟨q,r⟩:=Xa j
 exact Wc.ev (d:=d1 c (.c (.b false))) q (Xd f rfl) (fun nk E0 F0 w0 n0 Z rest K g i h=>WPr.pps (X:=X.var nk E0 F0 w0 n0 Z) g i l f m n o p r h) k
theorem ePz {c:Cf} (k:Wc X (nBo true c))
  (e:(hB X.fn.ntmps c,(ZN c).dst,(ZN c).op,X.P.underlying (Z9 (ZN c).op),Z7 c 0,Z7 c 1)=(true,some (YI c),.binOp .eql (Z9 (ZN c).op) (Ym (ZN c).op 0) (Ym (ZN c).op 1) (Xn (ZN c).op),some (.pointer (Xj X.P (Z9 (ZN c).op))),some (.c (.v (.pointer none))),some (.c (.v (.pointer none)))):=by kernel_rfl):Wc X c:=by
 simp only [Zp] at e
 have ⟨j,f,l,m,n,o⟩:=e
 have ⟨p,q⟩:=Xa j
 exact Wc.ev (d:=d1 c (.c (.b true))) p (Xd f rfl) (fun nk E0 F0 w0 n0 Z rest K g i h=>WPr.pnn (X:=X.var nk E0 F0 w0 n0 Z) g i l f m n o q h) k
def nSm (c:Cf):Cf:=Y5 (d1 c (.c (.bp (Yt (Z7 c 0)) (X3 (Z7 c 0))))) c
theorem eCu {c:Cf} (k:Wc X (nSm c))
  (b:(hB X.fn.ntmps c,(ZN c).dst,(ZN c).op,X.P.underlying (Z9 (ZN c).op),X.P.underlying (Xn (ZN c).op),(X.P.info? (Xj X.P (Z9 (ZN c).op))).map (fun j=>Nat.beq j.size 0),Z7 c 0,ZP (ZW c).M (Yt (Z7 c 0)),Nat.blt (X3 (Z7 c 0)) (RD (ZP (ZW c).M (Yt (Z7 c 0)))).length)=(true,some (YI c),.convert (Z9 (ZN c).op) (Xn (ZN c).op) (Ym (ZN c).op 0),some (.pointer (Xj X.P (Z9 (ZN c).op))),some .unsafePointer,some false,some (.c (.bp (Yt (Z7 c 0)) (X3 (Z7 c 0)))),some (.box (RD (ZP (ZW c).M (Yt (Z7 c 0)))) (HG (ZP (ZW c).M (Yt (Z7 c 0))))),true):=by kernel_rfl):Wc X c:=by
 simp only [Zp] at b
 have ⟨i,e,l,m,n,o,p,q,r⟩:=b
 have ⟨u,v⟩:=Xa i
 exact Wc.ev (d:=d1 c (.c (.bp (Yt (Z7 c 0)) (X3 (Z7 c 0))))) u (Xd e rfl) (fun nk E0 F0 w0 n0 Z rest K f g h=>WPr.cvu (X:=X.var nk E0 F0 w0 n0 Z) f g l e m n o p q r v h) k
theorem eCq {c:Cf} (k:Wc X (nSm c))
  (b:(hB X.fn.ntmps c,(ZN c).dst,(ZN c).op,X.P.underlying (Z9 (ZN c).op),X.P.underlying (Xn (ZN c).op),(X.P.info? (Xj X.P (Xn (ZN c).op))).isSome,Z7 c 0,ZP (ZW c).M (Yt (Z7 c 0)),liesAt X.P X.P.depth (HG (ZP (ZW c).M (Yt (Z7 c 0)))) ((RD (ZP (ZW c).M (Yt (Z7 c 0)))).length / X.P.cellsOf (HG (ZP (ZW c).M (Yt (Z7 c 0))))) (X3 (Z7 c 0)) (Xj X.P (Xn (ZN c).op)) 1)=(true,some (YI c),.convert (Z9 (ZN c).op) (Xn (ZN c).op) (Ym (ZN c).op 0),some .unsafePointer,some (.pointer (Xj X.P (Xn (ZN c).op))),true,some (.c (.bp (Yt (Z7 c 0)) (X3 (Z7 c 0)))),some (.box (RD (ZP (ZW c).M (Yt (Z7 c 0)))) (HG (ZP (ZW c).M (Yt (Z7 c 0))))),true):=by kernel_rfl):Wc X c:=by
 simp only [Zp] at b
 have ⟨i,e,j,l,m,n,o,p,q⟩:=b
 have ⟨r,u⟩:=Xa i
 exact Wc.ev (d:=d1 c (.c (.bp (Yt (Z7 c 0)) (X3 (Z7 c 0))))) r (Xd e rfl) (fun nk E0 F0 w0 n0 Z rest K f g h=>WPr.cvp (X:=X.var nk E0 F0 w0 n0 Z) f g j e l m n o p q u h) k
theorem eNe {f:FuncId} {fn:Func} {c:Cf} (j:X.P.funcs[f]? = some fn) (b:(fn.name == "runtime.NumGoroutine")=false) (l:fn.body.isNone=true) (e:Extern.findNext fn=none) (m:Extern.find fn=some Extern.AbiNoEscape.same) (k:Wc X (nSm c))
  (g:(hB X.fn.ntmps c,(ZN c).dst,(ZN c).op,Z7 c 0)=(true,some (YI c),.call { callee:=.value (.func f),args:=#[Ym (ZN c).op 0],argTypes:=Lj (ZN c).op },some (.c (.bp (Yt (Z7 c 0)) (X3 (Z7 c 0))))):=by kernel_rfl):Wc X c:=by
 simp only [Zp] at g
 have ⟨p,i,q,r⟩:=g
 have ⟨u,v⟩:=Xa p
 exact Wc.ev (d:=d1 c (.c (.bp (Yt (Z7 c 0)) (X3 (Z7 c 0))))) u (Xd i rfl) (fun nk E0 F0 w0 n0 Z rest K n o h=>WPr.nes (X:=X.var nk E0 F0 w0 n0 Z) j b l e m n o q i r v h) k
def plC (c:Cf):Cf:=.co (.code (RM c)::.inLoop (RM c)::c.kk) c.st
def Znx:Cf->Bool
 | .co (.code (.loop _)::_) _=>true
 | _=>false
theorem ePl {c:Cf} (k:Wc X (plC c)) (b:Znx c=true:=by kernel_rfl):Wc X c:=by
 cases c with
 | no=>cases b
 | rg _ _ _ _ _=>cases b
 | co l s =>
  cases l with
  | nil=>cases b
  | cons x l =>
   cases x with
   | code y =>
    cases y with
    | loop z=>exact ⟨WP.loop k.1⟩
    | _=>cases b
   | _=>cases b
def lnC (c:Cf):Code:=match c with
 | .co (.inLoop x::_) _=>x
 | _=>.skip
def lnS (c:Cf) (s:St):Cf:=.co (.code (lnC c)::.inLoop (lnC c)::c.kk) s
def lnK (c:Cf):List Item:=.inLoop (lnC c)::c.kk
theorem ZmK {σ ρ:Type} {r:ρ} (H:σ->St) (p:Nat->σ->Option ρ) (f:∀ b,p 0 b=none) {c:Cf}
  (d:∀ n,(∀ b,p n b=some r->WP X (lnK c) (H b))->∀ b,p (n+1) b=some r->Wc X (lnS c (H b)))
  (h:(∀ n b,p n b=some r->WP X (lnK c) (H b))->Wc X c):Wc X c:=by
 have key:∀ n b,p n b=some r->WP X (lnK c) (H b):=by
  intro n
  induction n with
  | zero=>intro b e;rw [f] at e;cases e
  | succ n i=>exact fun b g=>WP.inLoop (d n i b g).1
 exact h key
end
end Go.Kx
end
namespace Go.Kx
section
variable [LxP]
open Go
structure Uv {α β:Type} (Φ:TRep α->TRep β):Prop where
 sz:∀ R R',R.sz=R'.sz->(Φ R).sz=(Φ R').sz
 sub:∀ R R',R.sz=R'.sz->(∀ F w x vs,R.rep F w x vs->R'.rep F w x vs)->∀ F w x vs,(Φ R).rep F w x vs->(Φ R').rep F w x vs
theorem ZiG {α:Type}:Uv (fun R:TRep α=>R):=⟨fun _ _ h=>h,fun _ _ _ h=>h⟩
theorem UJ {α β:Type} (S:TRep β):Uv (fun _:TRep α=>S):=⟨fun _ _ _=>rfl,fun _ _ _ _ _ _ _ _ h=>h⟩
theorem ZiF {α β γ:Type} (f:γ->β) {Φ:TRep α->TRep β} (h:Uv Φ):Uv (fun R=>rM f (Φ R)) :=
 ⟨fun R b e=>h.sz R b e,fun R b e s F w x c d=>h.sub R b e s F w (f x) c d⟩
theorem UI {α β γ:Type} {Φ:TRep α->TRep β} {Ψ:TRep α->TRep γ} (h:Uv Φ) (k:Uv Ψ):Uv (fun R=>rP (Φ R) (Ψ R)):=by
 refine ⟨fun R c e=>?_,fun R c e s F w x j d=>?_⟩
 ·show (Φ R).sz+(Ψ R).sz=(Φ c).sz+(Ψ c).sz
  rw [h.sz R c e,k.sz R c e]
 ·have ⟨a,b,f,g,i⟩:=d
  exact ⟨a,b,f,h.sub R c e s _ _ _ _ g,k.sub R c e s _ _ _ _ i⟩
theorem SlR.more {α:Type} {R d:TRep α} (e:R.sz=d.sz) (s:∀ F w x c,R.rep F w x c->d.rep F w x c) {F:Yu} {w:World} {xs:List α} {v:Value} (h:SlR R F w xs v):SlR d F w xs v:=by
 rcases h with h | ⟨b,off,cap,arr,el,fz,m,n,o,p,q⟩
 ·exact .inl h
 ·refine .inr ⟨b,off,cap,arr,el,fz,m,n,o,p,fun i x f=>?_⟩
  have ⟨c,k,l⟩:=q i x f
  exact ⟨c,s _ _ _ _ k,fun j v g=>by rw [<- e];exact l j v g⟩
theorem Zaf {α β:Type} {Φ:TRep α->TRep β} (h:Uv Φ):Uv (fun R=>Yk (Φ R)):=by
 refine ⟨fun _ _ _=>rfl,fun R b e s F w xs g c=>?_⟩
 have ⟨v,d,f⟩:=c
 exact ⟨v,d,SlR.more (h.sz R b e) (h.sub R b e s) f⟩
def Zi9 (α:Type) (n:Nat) (hn:0 < n):TRep α where
 sz:=n
 pos:=hn
 rep _ _ _ vs:=vs.length=n/\∀ v∈vs,v.oneCell'=true
 len h:=h.1
 mono _ h:=h
 one h:=h.2
def RV {α:Type} (Φ:TRep α->TRep α) (n:Nat) (hn:0 < n) (hs:∀ R,R.sz=n->(Φ R).sz=n):TRep α where
 sz:=n
 pos:=hn
 rep F w x vs:=∀ R:TRep α,R.sz=n->(∀ F w x vs,(Φ R).rep F w x vs->R.rep F w x vs)->R.rep F w x vs
 len h:=(h (Zi9 α n hn) rfl (fun _ _ _ _ k=>⟨by rw [(Φ _).len k];exact hs _ rfl,(Φ _).one k⟩)).1
 mono g h:=fun R e k=>R.mono g (h R e k)
 one h:=(h (Zi9 α n hn) rfl (fun _ _ _ _ k=>⟨by rw [(Φ _).len k];exact hs _ rfl,(Φ _).one k⟩)).2
theorem Zeq {α:Type} {Φ:TRep α->TRep α} {n:Nat} {f:0 < n} {b:∀ R,R.sz=n->(Φ R).sz=n} (g:Uv Φ) (F:Yu) (w:World) (x:α) (d:List Value) :
  (RV Φ n f b).rep F w x d↔(Φ (RV Φ n f b)).rep F w x d:=by
 have c:∀ F w x d,(Φ (RV Φ n f b)).rep F w x d->(RV Φ n f b).rep F w x d:=by
  intro F w x d h R e k
  exact k _ _ _ _ (g.sub (RV Φ n f b) R e.symm (fun _ _ _ _ q=>q R e k) _ _ _ _ h)
 refine ⟨fun h=>?_,c F w x d⟩
 exact h (Φ (RV Φ n f b)) (b _ rfl) (fun _ _ _ _ q=>g.sub _ _ (b _ rfl) c _ _ _ _ q)
def Opn.of {α:Type} {R R':TRep α} (h:∀ F w x vs,R.rep F w x vs↔R'.rep F w x vs) (o:Opn R'):Opn R where
 nk:=o.nk
 cells:=o.cells
 facts:=o.facts
 ok hr:=o.ok ((h _ _ _ _).1 hr)
 chk:=o.chk
 cok hc E F w hV:=(h _ _ _ _).2 (o.cok hc E F w hV)
 T:=o.T
 lq:=o.lq
 rq:=o.rq
 eqn:=o.eqn
end
section
variable [LxP]
def XQ {α:Type} (f:α->Nat):List α->Nat
 | []=>0
 | x::l=>f x+XQ f l
def RdbW (P:Program) (B:Bulk) (m:Nat) (t:TypeId) {α:Type} (R:TRep α) (ok:α->Prop) (wt:α->Nat):Prop:=R.sz=P.cellsOf t /\
 ∀ {H:Type} (enc:TypeId × Value->H) (w:World) (fuel:Nat) (cs:List Value) (x:DataW H × List MemPlace),fuel<=m->DataW.trod enc P w 0 (fun _=>true) true fuel t cs=some x->B.f x.1<=bd ->
  ∃ a,R.rep (Vi w) w a cs/\ok a/\wt a<=B.f x.1
section
variable {P:Program} {B:Bulk} {t:TypeId}
theorem RdbW.of {m:Nat} {α:Type} {R:TRep α} {ok:α->Prop} (h:Rdb P B t R ok):RdbW P B m t R ok (fun _=>0) :=
 ⟨h.1,fun enc w b cs x _ c d=>by have ⟨a,e,f⟩:=h.2 enc w b cs x c d;exact ⟨a,e,f,Nat.zero_le _⟩⟩
theorem RdbW.zero {α:Type} {R:TRep α} {ok:α->Prop} {wt:α->Nat} (h:R.sz=P.cellsOf t):RdbW P B 0 t R ok wt :=
 ⟨h,fun enc w b cs x d c e=>by
  obtain rfl:b=0:=by omega
  simp [DataW.trod] at c⟩
theorem RdbW.less {m n:Nat} {α:Type} {R:TRep α} {ok:α->Prop} {wt:α->Nat} (h:RdbW P B m t R ok wt) (e:n<=m):RdbW P B n t R ok wt :=
 ⟨h.1,fun enc w b cs x f c d=>h.2 enc w b cs x (by omega) c d⟩
theorem RdbW.conv {m:Nat} {α:Type} {R e:TRep α} {ok b:α->Prop} {wt c:α->Nat} (h:RdbW P B m t R ok wt) (g:e.sz=R.sz) (i:∀ F w x f,R.rep F w x f->e.rep F w x f) (j:∀ a,ok a->b a) (k:∀ a,c a<=wt a):RdbW P B m t e b c :=
 ⟨by rw [g];exact h.1,fun enc w d cs x l n o=>by
  have ⟨a,p,q,r⟩:=h.2 enc w d cs x l n o
  exact ⟨a,i _ _ _ _ p,j a q,Nat.le_trans (k a) r⟩⟩
theorem Rdb.ofW {α:Type} {R:TRep α} {ok:α->Prop} {wt:α->Nat} (h:∀ m,RdbW P B m t R ok wt):Rdb P B t R (fun x=>ok x/\wt x<=bd) :=
 ⟨(h 0).1,fun enc w b cs x d c=>by
  have ⟨a,e,f,g⟩:=(h b).2 enc w b cs x (Zo _) d c
  exact ⟨a,e,f,Nat.le_trans g c⟩⟩
theorem Zkk {B:Bulk} {H:Type} {α:Type} {wt:α->Nat}:∀ {xs:List α} {es:List (DataW H × List MemPlace)},xs.length=es.length->(∀ (i:Nat) (x:α),xs[i]? = some x->∃ y:DataW H × List MemPlace,es[i]? = some y/\wt x<=B.f y.1)->XQ wt xs<=B.all (es.map (·.1))
  | [],_,_,_=>Nat.zero_le _
  | x::xs,[],h,_=>by cases h
  | x::xs,e::es,h,hx=>by
    have ⟨y,b,d⟩:=hx 0 x rfl
    simp only [List.getElem?_cons_zero,Option.some.injEq] at b
    subst b
    have:=Zkk (B:=B) (wt:=wt) (xs:=xs) (es:=es) (by simpa using h) fun i c hi=>by have:=hx (i+1) c (by simpa using hi);simpa using this
    rw [List.map_cons,B.cons]
    show wt x+XQ wt xs<=_
    omega
theorem RdbW.slice {m:Nat} {α:Type} {R:TRep α} {ok:α->Prop} {wt:α->Nat} {e:TypeId} (hu:P.underlying t=some (.slice e)) (k:P.cellsOf t=1) (I:RdbW P B m e R ok wt) :
    RdbW P B (m+1) t (Yk R) (fun xs=>xs.length<=bd/\∀ x∈xs,ok x) (XQ wt):=⟨k.symm,fun enc w Y cs x Z h hb=>by
  rcases DataW.trod_slice hu h with ⟨rfl,_⟩ | ⟨a,len,cap,b,rest,n,hn,rfl,rfl,_,hlc,_,A,hx,_⟩
  · exact ⟨[],⟨_,rfl,.inl ⟨rfl,_,_,rfl⟩⟩,⟨by simp [bd],by simp⟩,Nat.zero_le _⟩
  · simp only at hb
    rw [B.slice] at hb
    have C:=B.len (b.map (·.1))
    rw [List.length_map,A] at C
    have l:0 < P.cellsOf e:=by rw [<- I.1];exact R.pos
    have key:∀ i,i < len->∃ x,∃ cs y,w.cells? 0 (a.add (i * P.cellsOf e)) (P.cellsOf e)=some cs/\b[i]? = some y/\R.rep (Vi w) w x cs/\ok x/\wt x<=B.f y.1:=fun i hi=>by
      have h1:=hx i hi
      have d:i < b.length:=by omega
      rw [Za d,Option.bind_eq_some_iff] at h1
      have ⟨cs,h2,h3⟩:=h1
      have S:b[i].1∈b.map (·.1):=List.mem_map.2 ⟨_,List.getElem_mem d,rfl⟩
      have ⟨x,h4,h5,h6⟩:=I.2 enc w n cs _ (by omega) h3 (by have:=B.mem S;omega)
      exact ⟨x,cs,_,h2,Za d,h4,h5,h6⟩
    have ⟨xs,K,H⟩:=ZdJ key
    have T:∀ x∈xs,ok x:=fun x Z=>by
      have ⟨i,hi⟩:=List.mem_iff_getElem?.1 Z
      have ⟨_,_,_,_,_,h,_⟩:=H i x hi
      exact h
    have hws:XQ wt xs<=B.all (b.map (·.1)):=Zkk (by rw [K,A]) fun i x hi=>by
      have ⟨_,y,_,hy,_,_,h⟩:=H i x hi
      exact ⟨y,hy,h⟩
    have U:XQ wt xs<=B.f (DataW.slice (b.map (·.1)) (rest.map (·.1))):=by rw [B.slice];omega
    refine ⟨xs,⟨_,rfl,?_⟩,⟨by omega,T⟩,U⟩
    rcases Nat.eq_zero_or_pos len with N | N
    · subst N
      have:xs=[]:=List.eq_nil_of_length_eq_zero K
      subst this
      exact .inl ⟨rfl,_,_,rfl⟩
    · -- the block
      have g:∀ i j cs,i < len->w.cells? 0 (a.add (i * P.cellsOf e)) (P.cellsOf e)=some cs->j < P.cellsOf e->w.cell? ((a.add (i * P.cellsOf e)).add j)=cs[j]? := fun i j cs _ k G=>by
        unfold World.cells? at k
        rw [if_pos (Nat.zero_le _)] at k
        have:=mapM_some_get k j j (by simp [G])
        exact this
      have D:∀ i cs,w.cells? 0 (a.add (i * P.cellsOf e)) (P.cellsOf e)=some cs->cs.length=P.cellsOf e:=fun i cs k=>by
        unfold World.cells? at k
        rw [if_pos (Nat.zero_le _)] at k
        simpa using mapM_some_length k
      obtain ⟨L,M⟩:∃ L,xs[0]? = some L:=⟨_,Za (by omega)⟩
      have ⟨q,y0,r,_,_,_,_⟩:=H 0 L M
      have c:=g 0 0 q N r l
      have o:(a.add (0 * P.cellsOf e)).add 0=a:=by unfold Addr.add;simp
      rw [o,Za (by rw [D 0 q r];exact l)] at c
      unfold World.cell? at c
      split at c
      · rename_i arr ty fz O
        cases p:a.spot with
        | some s=>rw [p] at c;simp at c
        | none =>
          have ha:a=⟨a.block,a.off,none⟩:=by cases a;simp at p;simp [p]
          have d:a.block < w.heap.size:=(Array.getElem?_eq_some_iff.1 O).1
          refine .inr ⟨a.block,a.off,cap,arr,ty,fz,by rw [K,<- ha],by omega,d,O,fun i x hi=>?_⟩
          have ⟨cs,y,u,_,z,_,_⟩:=H i x hi
          have V:i < len:=by have:=(List.getElem?_eq_some_iff.1 hi).1;omega
          refine ⟨cs,z,fun j v G=>?_⟩
          have W:j < P.cellsOf e:=by have:=(List.getElem?_eq_some_iff.1 G).1;rw [D i cs u] at this;exact this
          have:=g i j cs V u W
          rw [ha,WI,WI,QR O,G] at this
          rw [I.1]
          exact this
      · cases c⟩
def RdFW (P:Program) (B:Bulk) (m:Nat) (fs:List Field) (off:Nat) {β:Type} (R:TRep β) (ok:β->Prop) (wt:β->Nat):Prop :=
  ∀ {H:Type} (enc:TypeId × Value->H) (w:World) (n:Nat) (cs:List Value) (xs:List (DataW H × List MemPlace)),n<=m->xs.length=fs.length ->
    (∀ (i:Nat) (f:Field),fs[i]? = some f->DataW.trod enc P w 0 (fun _=>true) true n f.type ((cs.drop f.offset).take (P.cellsOf f.type))=xs[i]?)->B.all (xs.map (·.1))<=bd ->
    ∃ y,R.rep (Vi w) w y ((cs.drop off).take R.sz)/\ok y/\wt y<=B.all (xs.map (·.1))
theorem RdFW.one {m:Nat} {f:Field} {α:Type} {R:TRep α} {ok:α->Prop} {wt:α->Nat} (h:RdbW P B m f.type R ok wt):RdFW P B m [f] f.offset R ok wt:=fun enc w n cs xs d e g b=>by
 obtain ⟨x,rfl⟩:=List.length_eq_one_iff.1 e
 have c:=g 0 f rfl
 simp only [List.getElem?_cons_zero] at c
 simp only [List.map_cons,List.map_nil] at b
 rw [B.cons,B.nil] at b
 have ⟨a,i,j,k⟩:=h.2 enc w n _ x d c (by omega)
 rw [h.1]
 refine ⟨a,i,j,?_⟩
 simp only [List.map_cons,List.map_nil]
 rw [B.cons,B.nil];omega
theorem RdFW.cons {m:Nat} {f:Field} {fs:List Field} {off:Nat} {α β:Type} {h:TRep α} {j:TRep β} {c:α->Prop} {d:β->Prop} {e:α->Nat} {g:β->Nat} (k:RdbW P B m f.type h c e) (v:RdFW P B m fs off j d g) (z:off=f.offset+h.sz) :
  RdFW P B m (f::fs) f.offset (rP h j) (fun y=>c y.1/\d y.2) (fun y=>e y.1+g y.2):=fun enc w n cs xs l o p q=>by
 cases xs with
 | nil=>cases o
 | cons x xs =>
  have u:=p 0 f rfl
  simp only [List.getElem?_cons_zero] at u
  simp only [List.map_cons] at q
  rw [B.cons] at q
  have ⟨a,r,D,I⟩:=k.2 enc w n _ x l u (by omega)
  have ⟨b,G,H,K⟩:=v enc w n cs xs l (by simpa using o) (fun i A C=>by have:=p (i+1) A (by simpa using C);simpa using this) (by omega)
  rw [<- k.1] at r
  refine ⟨(a,b),⟨_,_,?_,r,G⟩,⟨D,H⟩,by simp only [List.map_cons];rw [B.cons];omega⟩
  rw [z,<- List.drop_drop]
  exact List.take_add
theorem RdbW.struct {m:Nat} {α β:Type} {f:α->β} {g:β->α} {R:TRep β} {ok:β->Prop} {wt:β->Nat} {fs:List Field} (k:P.underlying t=some (.struct fs.toArray)) (c:P.cellsOf t=R.sz) (b:∀ y,f (g y)=y) (h:RdFW P B m fs 0 R ok wt) :
    RdbW P B (m+1) t (rM f R) (fun x=>ok (f x)) (fun x=>wt (f x)+1):=⟨c.symm,fun enc w d cs x z l e=>by
  obtain ⟨xs,n,p,rfl,q,r,u⟩:=DataW.trod_struct k l
  simp only at e
  rw [B.agg] at e
  have ⟨y,j,v,A⟩:=h enc w n cs xs (by omega) (by simpa using r) (fun i o hi=>u i o (by simpa using hi)) (by omega)
  rw [List.drop_zero,<- c,<- q,List.take_length] at j
  refine ⟨g y,?_,?_,?_⟩
  · show R.rep _ _ (f (g y)) cs
    rw [b];exact j
  · show ok (f (g y));rw [b];exact v
  · show wt (f (g y))+1<=B.f (DataW.agg (xs.map (·.1)));rw [b,B.agg];omega⟩
end
end
section
variable [LxP]
theorem Zmk {α:Type} {P:Program} {t ty:TypeId} {V:TD} (ok:TD.Ok P t V) (hk:Nat.beq V.kd 6=true) {R:TRep α} (hR:V.es=R.sz) {F:Yu} {w:World} {xs:List α} {v zv:Value} {l h:Option Int} {p:Nat × Nat} {z:α} {o:List Value}
  (W:OwnR R F w xs v) (hp:WU l h xs.length=some p) (Y:∀ w,(zeroValue V.el).run P w=.ok zv w) (H:(Builtin.zeroCells zv.cells (p.2-p.1)).toList=o) (x:RowL R F w (List.replicate (p.2-p.1) z) o)
  (I:∀ u∈o,u.oneCell'=true) (hF:∀ b,YC v=some b->¬ F b) :
  ∃ w',(Builtin.clear_ #[t] ty #[X6 l h R.sz v]).run P w=.ok (.tuple #[]) w'/\OwnR R F w' (xs.take p.1++List.replicate (p.2-p.1) z++xs.drop p.2) v/\w'.os=w.os/\w'.tape=w.tape/\Oq w w'/\w.heap.size<=w'.heap.size /\
   (∀ b,YC v≠some b->w'.heap[b]? = w.heap[b]?):=by
 have ⟨i,hu,hi,hsz,_⟩:=ok.slc hk
 have ⟨q1,q2,q3,q4⟩:=QQ hp
 have ⟨K,L⟩:=Bt hp
 have hle:p.1<=p.2:=by rw [q4];simp;omega
 have N:p.2<=xs.length:=by rw [q4];simp;omega
 by_cases hn0:p.2-p.1=0
 ·have e12:p.2=p.1:=by omega
  refine ⟨w,?_,by rw [hn0,e12];simpa using W,rfl,rfl,.m,Zo _,fun _ _=>rfl⟩
  have ⟨a,c,hv⟩:=HC W
  have f:∃ a' c',X6 l h R.sz v=.slice a' 0 c':=by
   rw [hv,SS,<- K,<- L,hn0]
   exact ⟨_,_,rfl⟩
  have ⟨a',c',f⟩:=f
  rw [f]
  cases a'<;>simp [Builtin.clear_,YU hu]
 ·rcases W with ⟨rfl,rfl⟩ | ⟨b,off,cap,arr,el,fz,rfl,hc,hs,ht,hh,hr⟩
  ·simp at N
   exact absurd (by omega) hn0
  ·have q:cap≠p.1:=fun e=>by omega
   have f:X6 l h R.sz (.slice (some ⟨b,off,none⟩) xs.length cap)=.slice (some ⟨b,off+p.1 * R.sz,none⟩) (p.2-p.1) (cap-p.1):=by
    rw [SS,<- K,<- L]
    simp [q,WI]
   have r:o.length=(p.2-p.1) * R.sz:=by rw [x.1,List.length_replicate]
   have O:p.2 * R.sz<=cap * R.sz:=Nat.mul_le_mul_right _ (by omega)
   have hsum:p.1 * R.sz+(p.2-p.1) * R.sz=p.2 * R.sz:=by rw [<- Nat.add_mul];congr 1;omega
   have S:=Lc (P:=P) b (off+p.1 * R.sz) el fz o 0 arr w hh ht (by rw [r];omega) I
   let d:=(arr.toList.take (off+p.1 * R.sz+0)++o++arr.toList.drop (off+p.1 * R.sz+0+o.length)).toArray
   have g:d.size=arr.size:=by
    simp only [d,List.size_toArray,List.length_append,List.length_take,List.length_drop,Array.length_toList]
    omega
   have hg:Wh F w F (w.setRow b d):=⟨fun _ h=>h,fun Z A=>setRow_other w b Z _ (fun e=>hF b rfl (e ▸ A))⟩
   have ⟨ms,C,M,_⟩:=hr.cellsOf
   have T:RowL R F (w.setRow b d) (xs.take p.1++List.replicate (p.2-p.1) z++xs.drop p.2) (ms.take (p.1 * R.sz)++o++ms.drop (p.2 * R.sz)) :=
    ((((C.take (by omega)).append x).append (C.drop _)).mono hg)
   have k:(ms.take (p.1 * R.sz)).length=p.1 * R.sz:=by
    rw [List.length_take,C.1];exact Nat.min_eq_left (Nat.mul_le_mul_right _ (by omega))
   have D:∀ (j:Nat) u,(ms.take (p.1 * R.sz)++o++ms.drop (p.2 * R.sz))[j]? = some u->d[off+j]? = some u:=by
    intro j u n
    have hal:arr.toList.length=arr.size:=Array.length_toList
    simp only [d,List.getElem?_toArray,Nat.add_zero]
    rw [List.append_assoc] at n ⊢
    have G:(arr.toList.take (off+p.1 * R.sz)).length=off+p.1 * R.sz:=by rw [List.length_take,hal];omega
    by_cases U:j < p.1 * R.sz
    ·rw [Zm (by rw [k];exact U),List.getElem?_take,if_pos U] at n
     rw [Zm (by rw [G];omega),List.getElem?_take,if_pos (by omega)]
     have:=M j u n
     simpa using this
    ·rw [Zn (by rw [k];omega),k] at n
     rw [Zn (by rw [G];omega),G]
     have e2:off+j-(off+p.1 * R.sz)=j-p.1 * R.sz:=by omega
     rw [e2]
     by_cases hj2:j-p.1 * R.sz < (p.2-p.1) * R.sz
     ·rw [Zm (by rw [r];exact hj2)] at n ⊢
      exact n
     ·rw [Zn (by rw [r];omega),r] at n ⊢
      rw [List.getElem?_drop] at n ⊢
      have e3:p.2 * R.sz+(j-p.1 * R.sz-(p.2-p.1) * R.sz)=j:=by omega
      rw [e3] at n
      have e4:off+p.1 * R.sz+(p.2-p.1) * R.sz+(j-p.1 * R.sz-(p.2-p.1) * R.sz)=off+j:=by omega
      rw [e4]
      have:=M j u n
      simpa using this
   have y:(xs.take p.1++List.replicate (p.2-p.1) z++xs.drop p.2).length=xs.length:=by simp;omega
   refine ⟨w.setRow b d,?_,.inr ⟨b,off,cap,d,el,fz,by rw [y],by rw [y];exact hc,by rw [g];exact hs,by rw [g];exact ht,setRow_heap w b arr _ el fz hh,T.row D⟩,rfl,rfl,.m,by simp,fun Z A=>setRow_other w b Z _ (fun e=>A (by rw [e];rfl))⟩
   rw [f]
   obtain ⟨m,hm⟩:∃ m,p.2-p.1=m+1:=⟨p.2-p.1-1,by omega⟩
   rw [hm] at H ⊢
   simp only [Nat.add_zero] at S
   simp [Builtin.clear_,YU hu,Y,H,S,d]
section
variable {X:Ctx} {s:St} {ops:Array Oper} {todo:Act->World->Prop} {tt:List (Nat × TD)}
def MB {α:Type} (z:α) (xs:List α) (l h:Option Int):Option (List α):=(WU l h xs.length).map fun p=>xs.take p.1++List.replicate (p.2-p.1) z++xs.drop p.2
structure Zgl {α:Type} (P:Program) (R:TRep α) (el:TypeId) (z:α) (zv:Value):Prop where
 run:∀ w,(zeroValue el).run P w=.ok zv w
 row:∀ n F w,RowL R F w (List.replicate n z) (Builtin.zeroCells zv.cells n).toList
 one:∀ n,∀ u∈(Builtin.zeroCells zv.cells n).toList,u.oneCell'=true
theorem WPr.clr {α:Type} {R:TRep α} (htt:TTOk X.P tt) {i:Nat} {rest:List Nat} {o:Oper} {t:TypeId} {j:TD} {x:Operand} {k K:Nat} {fr:Bool} {xs r:List α} {l h:Option Int} {z:α} {H:Value}
  (m:MB z xs l h=some r) (hZ:Zgl X.P R j.el z H) (I:ops[i]? = some o) (N:YJ ops s.L o=some true) (n:o.op=.call { callee:=.builtin .clear,args:=#[x],argTypes:=#[t] }) (O:o.dst=none)
  (S:Ya s.L x=some (.c (.sl K))) (hV:ZP s.V K=some (.vw k l h R.sz)\/(K=k/\l=none/\h=none)) (q:ZP s.M k=some (.own R xs fr)) (T:ZP tt t=some j)
  (G:(Nat.beq j.kd 6 && Nat.beq j.es R.sz)=true)
  (U:WPr X ops rest todo ⟨s.L,(k,.own R r fr)::s.M,s.V,s.nx⟩):WPr X ops (i::rest) todo s:=by
 refine WPr.op I N (fun E F w a f=>?_) U
 simp only [Zc] at G
 have ⟨W,Y⟩:=G
 have ⟨Z,_⟩:=f.eval S
 have C:=f.mF k _ q
 have d:OwnR R F w xs (E.ρ k):=f.hM k _ q
 have D:E.ρ K=X6 l h R.sz (E.ρ k):=by
  rcases hV with h | ⟨rfl,rfl,rfl⟩
  ·exact f.hV K _ h
  ·have ⟨b,c,hv⟩:=HC d
   rw [hv]
   rw [SS]
   simp only [HP,Option.getD_none,Int.toNat_zero,Nat.sub_zero,Nat.zero_mul]
   cases b with
   | none=>simp
   | some b =>
    have:b.add 0=b:=by unfold Addr.add;simp
    simp [this]
 unfold MB at m
 rw [Zl] at m
 obtain ⟨p,hp,rfl⟩:=m
 have ⟨w',g,A,g1,g2,g3,g4,g5⟩:=Zmk (ty:=o.type) (htt.get T) W (Zd Y) d hp hZ.run rfl (hZ.row _ _ _) (hZ.one _) (fun b u=>(C b u).1)
 refine XD (v:=.tuple #[]) (w':=w') (Ug n ?_) ?_
 ·simp only [List.map_toArray,List.map_cons,List.map_nil,Z,Z8]
  have:ZX E (.sl K)=X6 l h R.sz (E.ρ k):=D
  rw [this]
  exact YP g
 ·have s1:=f.setM (m':=.own R (xs.take p.1++List.replicate (p.2-p.1) z++xs.drop p.2) fr) q g1 g2 g3 g4 (fun b _ y=>g5 b (fun e=>y e)) (fun b u=>u) A trivial (fun h=>h)
  rw [O]
  exact ⟨E,F,s1⟩
end
end
section
variable [LxP]
theorem ZtI {P:Program} {el:TypeId} {f:TD} (h:TD.Ok P el f) {z:ByteArray} (m:f.z=[.s z]):∃ b,Zgl P rS el z b:=by
 have ⟨i,b,o,_,_,p,q⟩:=h.info
 have r:b.cells=#[.string z]:=by
  have:=q ⟨fun _=>.bool true,fun _=>0⟩
  rw [m] at this
  simpa [ZX] using this
 have l:∀ n,(Builtin.zeroCells b.cells n).toList=List.replicate n (.string z):=by
  intro n
  unfold Builtin.zeroCells
  rw [r]
  apply List.ext_getElem?
  intro j
  rw [Array.getElem?_toList,Array.getElem?_map,List.getElem?_replicate]
  by_cases c:j < n
  ·rw [if_pos c,Array.getElem?_eq_getElem (by simpa using c)]
   simp [Nat.mod_one]
  ·rw [if_neg c,Array.getElem?_eq_none (by simpa using c)]
   rfl
 refine ⟨b,?_,?_,?_⟩
 ·intro w
  simp [zeroValue,typeInfo,o,p]
 ·intro n F w
  rw [l]
  refine ⟨by simp [rS],fun j x d=>?_⟩
  rw [List.getElem?_replicate] at d
  split at d
  ·cases d
   rename_i c
   refine ⟨[.string z],rfl,fun k v e=>?_⟩
   cases k with
   | succ k=>simp at e
   | zero =>
    simp only [List.getElem?_cons_zero,Option.some.injEq] at e
    subst e
    show (List.replicate n (Value.string z))[j * 1+0]? = _
    rw [List.getElem?_replicate,if_pos (by omega)]
  ·cases d
 ·intro n u g
  rw [l] at g
  rw [List.eq_of_mem_replicate g];rfl
section
variable {X:Ctx} {tt:List (Nat × TD)}
def dCe (r:List ByteArray) (c:Cf):Dl:=⟨[],[((WL (ZP (ZW c).V (Yt (Z7 c 0)))),.own rS r (U9 (ZP (ZW c).M (WL (ZP (ZW c).V (Yt (Z7 c 0)))))))],[],0⟩
def nCe (r:List ByteArray) (c:Cf):Cf:=Y5 (dCe r c) c
theorem eCe {xs:List ByteArray} {lo hi:Option Int} {r:List ByteArray} {c:Cf} (htt:TTOk X.P tt) (g:MB (str []) xs lo hi=some r) (k:Wc X (nCe r c))
  (e:(TQ c,(ZN c).dst,(ZN c).op,Z7 c 0,ZP (ZW c).M (WL (ZP (ZW c).V (Yt (Z7 c 0)))),ZP tt (Z9 (ZN c).op),(Nat.beq (Yw tt (Z9 (ZN c).op)).kd 6 && Nat.beq (Yw tt (Z9 (ZN c).op)).es 1),ZP (ZW c).V (Yt (Z7 c 0)),ZP tt (Yw tt (Z9 (ZN c).op)).el,(Yw tt (Yw tt (Z9 (ZN c).op)).el).z) =
   (true,none,.call { callee:=.builtin .clear,args:=#[Ym (ZN c).op 0],argTypes:=#[Z9 (ZN c).op] },some (.c (.sl (Yt (Z7 c 0)))),some (.own rS xs (U9 (ZP (ZW c).M (WL (ZP (ZW c).V (Yt (Z7 c 0))))))),some (Yw tt (Z9 (ZN c).op)),true,some (.vw (WL (ZP (ZW c).V (Yt (Z7 c 0)))) lo hi 1),some (Yw tt (Yw tt (Z9 (ZN c).op)).el),[.s (str [])]):=by kernel_rfl):Wc X c:=by
 simp only [Zp] at e
 have ⟨l,f,m,n,o,p,q,u,v,b⟩:=e
 have ⟨x,hZ⟩:=ZtI (htt.get v) b
 refine Wc.ev (d:=dCe r c) l (by rw [f];rfl) (fun nk E0 F0 w0 n0 Z rest K i j h=>WPr.clr (X:=X.var nk E0 F0 w0 n0 Z) (R:=rS) htt g hZ i j m f n (.inl u) o p q h) k
end
end
section
open Go.Proofs
def Y4 (xs:List ByteArray):List (List UInt8):=xs.map (·.data.toList)
theorem ZhU (x:ByteArray):encStr x.data.toList=.string x:=by
 show Value.string ⟨x.data.toList.toArray⟩=.string x
 rw [Array.toArray_toList]
theorem Zno {w:World} {b off n:Nat} {D:List (List UInt8)} {e:Array Obj} {arr:Array Value} {el:TypeId} {fz:Nat × Nat} (d:w.heap[b]? = some (.cells arr el fz)) :
  (Go.Sort.grow (Go.Sort.putRow encStr (Go.Sort.ahead w n) b off D.toArray) e).heap[b]? = some (.cells (Go.Sort.putCells encStr off D.toArray arr) el fz):=by
 have c:b < w.heap.size:=(Array.getElem?_eq_some_iff.1 d).1
 rw [Go.Sort.heap_grow_old _ _ (by simpa [Go.Sort.putRow,Go.Sort.mapBlock,Go.Sort.ahead] using c)]
 simp [Go.Sort.putRow,Go.Sort.mapBlock,Go.Sort.ahead,Array.getElem?_modify,d,Go.Sort.onCells]
theorem Zia {w:World} {c off n b:Nat} {D:List (List UInt8)} {f:Array Obj} (g:b < w.heap.size) (d:b≠c) :
  (Go.Sort.grow (Go.Sort.putRow encStr (Go.Sort.ahead w n) c off D.toArray) f).heap[b]? = w.heap[b]? := by
 rw [Go.Sort.heap_grow_old _ _ (by simpa [Go.Sort.putRow,Go.Sort.mapBlock,Go.Sort.ahead] using g)]
 have:¬ c=b:=fun e=>d e.symm
 simp [Go.Sort.putRow,Go.Sort.mapBlock,Go.Sort.ahead,Array.getElem?_modify,this]
theorem ZjQ {w:World} {b off n:Nat} {D:List (List UInt8)} {c:Array Obj}:w.heap.size<=(Go.Sort.grow (Go.Sort.putRow encStr (Go.Sort.ahead w n) b off D.toArray) c).heap.size:=by
 simp [Go.Sort.grow,Go.Sort.putRow,Go.Sort.mapBlock,Go.Sort.ahead]
theorem Zib {F:Yu} {w:World} {xs:List ByteArray} {b off cap:Nat} {arr:Array Value} {el:TypeId} {fz:Nat × Nat} (n:xs.length<=cap) (e:off+cap * rS.sz<=arr.size) (h:Rw fz arr.size)
  (f:w.heap[b]? = some (.cells arr el fz)) (i:Row rS F w xs arr off):Go.Sort.Holds encStr w b off (Y4 xs).toArray:=by
 intro j g
 have d:j < xs.length:=by simpa [Y4] using g
 have ⟨k,c,l⟩:=i j xs[j] (Za d)
 have c:k=[.string xs[j]]:=c
 subst c
 have m:=l 0 _ rfl
 have e:off+cap<=arr.size:=by simpa [rS] using e
 refine ⟨?_,?_⟩
 ·unfold World.cell?
  rw [f]
  have:(Y4 xs).toArray[j]! = xs[j].data.toList:=by
   rw [getElem!_pos _ j g];simp [Y4]
  show arr[off+j]? = some (encStr _)
  rw [this,ZhU]
  simpa [rS] using m
 ·unfold World.frozen?
  rw [f]
  exact h (off+j) (by omega)
theorem Zi1 {F:Yu} {w:World} {c:List ByteArray} {D:List (List UInt8)} {b off cap n:Nat} {k:Array Obj} {arr:Array Value} {el:TypeId} {fz:Nat × Nat} (l:∀ (i:Nat) x,c[i]? = some x->D[i]? = some x.data.toList) (y:D.length<=cap) (d:c.length<=cap)
  (e:off+cap * rS.sz<=arr.size) (m:Rw fz arr.size) (o:w.heap[b]? = some (.cells arr el fz)) :
  OwnR rS F (Go.Sort.grow (Go.Sort.putRow encStr (Go.Sort.ahead w n) b off D.toArray) k) c (.slice (some ⟨b,off,none⟩) c.length cap):=by
 refine .inr ⟨b,off,cap,Go.Sort.putCells encStr off D.toArray arr,el,fz,rfl,d,by simpa [Go.Sort.putCells] using e,by simpa [Go.Sort.putCells] using m,Zno o,fun i x p=>⟨[.string x],rfl,fun j v f=>?_⟩⟩
 cases j with
 | succ j=>simp at f
 | zero =>
  simp only [List.getElem?_cons_zero,Option.some.injEq] at f
  subst f
  have hi:=l i x p
  have g:i < D.length:=(List.getElem?_eq_some_iff.1 hi).1
  have e:off+cap<=arr.size:=by simpa [rS] using e
  have h:off+i * 1+0 < arr.size:=by omega
  show (Go.Sort.putCells encStr off D.toArray arr)[off+i * 1+0]? = _
  unfold Go.Sort.putCells
  rw [Array.getElem?_mapIdx,Array.getElem?_eq_getElem h]
  have q:off<=off+i * 1+0/\off+i * 1+0 < off+D.toArray.size:=⟨by omega,by simp;omega⟩
  have r:off+i * 1+0-off=i:=by omega
  have u:D.toArray[i]! = x.data.toList:=by
   rw [getElem!_pos _ i (by simpa using g)]
   have:=(List.getElem?_eq_some_iff.1 hi).2
   simpa using this
  simp only [Option.map_some,q,and_self,if_true,r,u,ZhU]
variable [LxP]
theorem Zov {P:Program} {f:FuncId} {xs l:List ByteArray} (q:Bd P f) (j:l.length=xs.length)
  (r:∀ b off cap w,Go.Sort.Holds encStr w b off (Y4 xs).toArray->b < w.heap.size->xs.length<=cap->Calls P f #[.slice (some ⟨b,off,none⟩) xs.length cap] w fun e w'=>e=.returned (.tuple #[])/\∃ n K,w'=Go.Sort.grow (Go.Sort.putRow encStr (Go.Sort.ahead w n) b off (Y4 l).toArray) K)
  (o:xs=[]->∀ p cap w,Calls P f #[.slice p 0 cap] w fun e w'=>e=.returned (.tuple #[])/\w'=w) :
  Fn P f ⟨1,[.c (.sl 0)],[],[(0,.own rS xs false)],1,.t [],[],[(0,.own rS l false)]⟩:=by
 refine ⟨q,fun E F w D=>?_⟩
 have g:OwnR rS F w xs (E.ρ 0):=D.M 0 (.own rS xs false) rfl
 have A:=D.mF 0 (.own rS xs false) rfl
 have C:∀ w',OwnR rS F w' l (E.ρ 0)->Ext (fun b=>b < w.heap.size/\¬ Ct.fp0 ⟨1,[.c (.sl 0)],[],[(0,.own rS xs false)],1,.t [],[],[(0,.own rS l false)]⟩ E b) w w' ->
   Ct.Post ⟨1,[.c (.sl 0)],[],[(0,.own rS xs false)],1,.t [],[],[(0,.own rS l false)]⟩ E F w E F w':=fun w' R u=>{
  env:=Env.Eqb.refl _ _
  one:=D.one
  V:=fun k f h=>nomatch h
  M:=fun k m h=>by
   rw [YD] at h;split at h
   ·rename_i e;cases h;subst e;exact R
   ·cases h
  dis:=fun k Z m m' h G d=>by
   rw [YD] at h G;split at h
   ·split at G
    ·rename_i U W;exact absurd (U.symm.trans W) d
    ·cases G
   ·cases h
  mF:=fun k m h b v=>by
   rw [YD] at h;split at h
   ·rename_i e;cases h;subst e
    exact ⟨(A b v).1,Zh (A b v).2 u.size,.inl ⟨0,_,rfl,v⟩⟩
   ·cases h
  fresh:=fun k m h S=>by
   rw [YD] at h;split at h
   ·cases h;cases S
   ·cases h
  F0:=fun _ h=>h
  F1:=fun _ h=>.inl h
  Fs:=fun b h=>Zh (D.hF b h) u.size
  ext:=u }
 show Calls P f #[E.ρ 0] w _
 by_cases d:xs=[]
 ·have Y:l=[]:=List.eq_nil_of_length_eq_zero (by rw [j,d];rfl)
  have z:∃ p cap,E.ρ 0=.slice p 0 cap:=by
   rcases g with ⟨_,h⟩ | ⟨b,off,cap,_,_,_,h,_⟩
   ·exact ⟨_,_,h⟩
   ·rw [d] at h;exact ⟨_,_,h⟩
  have ⟨p,cap,z⟩:=z
  have:=o d p cap w
  rw [<- z] at this
  refine this.mono ?_
  rintro e w' ⟨rfl,rfl⟩
  exact ⟨E,F,rfl,C _ (by rw [Y,<- d];exact g) (Ext.refl _ _)⟩
 ·rcases g with ⟨h,_⟩ | ⟨b,off,cap,arr,el,fz,H,L,N,O,I,z⟩
  ·exact absurd h d
  ·have v:b < w.heap.size:=(Array.getElem?_eq_some_iff.1 I).1
   have:=r b off cap w (Zib L N O I z) v L
   rw [<- H] at this
   refine this.mono ?_
   rintro e w' ⟨rfl,n,K,rfl⟩
   refine ⟨E,F,rfl,C _ ?_ ⟨rfl,rfl,⟨rfl,.inr (Nat.le_add_right _ _)⟩,ZjQ,fun T y=>Zia y.1 fun e=>y.2 ⟨0,_,rfl,?_⟩⟩⟩
   ·rw [H,<- j]
    exact Zi1 (fun i x u=>by simp [Y4,u]) (by simp [Y4];omega) (by omega) N O I
   ·show YC (E.ρ 0)=some T
    rw [H,e];rfl
theorem ZqR {P:Program} {f:FuncId} {xs l:List ByteArray} (A:Bd P f) (o:l.length<=xs.length)
  (C:∀ b off cap w,Go.Sort.Holds encStr w b off (Y4 xs).toArray->b < w.heap.size->xs.length<=cap->Calls P f #[.slice (some ⟨b,off,none⟩) xs.length cap] w fun e w'=>e=.returned (.slice (some ⟨b,off,none⟩) l.length cap)/\∃ n U,∃ D:List (List UInt8),w'=Go.Sort.grow (Go.Sort.putRow encStr (Go.Sort.ahead w n) b off D.toArray) U/\D.length<=xs.length/\∀ (i:Nat) x,l[i]? = some x->D[i]? = some x.data.toList)
  (q:xs=[]->∀ p cap w,Calls P f #[.slice p 0 cap] w fun e w'=>e=.returned (.slice p 0 cap)/\w'=w) :
  Fn P f ⟨1,[.c (.sl 0)],[],[(0,.own rS xs false)],2,.c (.sl 1),[],[(1,.own rS l false),(0,.gone)]⟩:=by
 refine ⟨A,fun E F w N=>?_⟩
 have j:OwnR rS F w xs (E.ρ 0):=N.M 0 (.own rS xs false) rfl
 have K:=N.mF 0 (.own rS xs false) rfl
 have L:∀ v w',(∀ b,YC v=some b->YC (E.ρ 0)=some b)->OwnR rS F w' l v->Ext (fun b=>b < w.heap.size/\¬ Ct.fp0 ⟨1,[.c (.sl 0)],[],[(0,.own rS xs false)],2,.c (.sl 1),[],[(1,.own rS l false),(0,.gone)]⟩ E b) w w' ->
   ∃ z I,v=Z8 z (.c (.sl 1))/\Ct.Post ⟨1,[.c (.sl 0)],[],[(0,.own rS xs false)],2,.c (.sl 1),[],[(1,.own rS l false),(0,.gone)]⟩ E F w z I w':=fun v w' O Z R=>by
  have r:(E.setρ 1 v).ρ 1=v:=by simp [Env.setρ]
  refine ⟨E.setρ 1 v,F,by show v=(E.setρ 1 v).ρ 1;rw [r],{
   env:=E.eqb_setρ _ _ _ (Zo _)
   one:=fun k=>by
    simp only [Env.setρ];split
    ·exact Zgg Z
    ·exact N.one k
   V:=fun k f h=>nomatch h
   M:=fun k m h=>by
    rw [YD] at h;split at h
    ·rename_i e;cases h;subst e
     show OwnR rS F w' l ((E.setρ 1 v).ρ 1)
     rw [r];exact Z
    ·rw [YD] at h;split at h
     ·cases h;trivial
     ·cases h
   dis:=fun k k' m m' h y d=>by
    rw [YD] at h y;split at h
    ·split at y
     ·rename_i e1 e2;exact absurd (e1.symm.trans e2) d
     ·rw [YD] at y;split at y
      ·cases y;exact fun b _ g=>g
      ·cases y
    ·rw [YD] at h;split at h
     ·cases h;exact fun b g=>g.elim
     ·cases h
   mF:=fun k m h b g=>by
    rw [YD] at h;split at h
    ·rename_i e;cases h;subst e
     have g:YC ((E.setρ 1 v).ρ 1)=some b:=g
     rw [r] at g
     have u:=O b g
     exact ⟨(K b u).1,Zh (K b u).2 R.size,.inl ⟨0,_,rfl,u⟩⟩
    ·rw [YD] at h;split at h
     ·cases h;exact g.elim
     ·cases h
   fresh:=fun k m h hf=>by
    rw [YD] at h;split at h
    ·cases h;cases hf
    ·rw [YD] at h;split at h
     ·cases h;cases hf
     ·cases h
   F0:=fun _ h=>h
   F1:=fun _ h=>.inl h
   Fs:=fun b h=>Zh (N.hF b h) R.size
   ext:=R }⟩
 show Calls P f #[E.ρ 0] w _
 by_cases d:xs=[]
 ·have hd:l=[]:=List.eq_nil_of_length_eq_zero (by rw [d] at o;simpa using o)
  have H:∃ p cap,E.ρ 0=.slice p 0 cap:=by
   rcases j with ⟨_,h⟩ | ⟨b,off,cap,_,_,_,h,_⟩
   ·exact ⟨_,_,h⟩
   ·rw [d] at h;exact ⟨_,_,h⟩
  have ⟨p,cap,H⟩:=H
  have:=q d p cap w
  rw [<- H] at this
  refine this.mono ?_
  rintro e w' ⟨rfl,rfl⟩
  have ⟨z,I,S,T⟩:=L _ _ (fun b h=>h) (by rw [hd,<- d];exact j) (Ext.refl _ _)
  exact ⟨z,I,congrArg _ S,T⟩
 ·rcases j with ⟨h,_⟩ | ⟨b,off,cap,arr,el,fz,r,hc,ha,ht,Y,H⟩
  ·exact absurd h d
  ·have g:b < w.heap.size:=(Array.getElem?_eq_some_iff.1 Y).1
   have:=C b off cap w (Zib hc ha ht Y H) g hc
   rw [<- r] at this
   refine this.mono ?_
   rintro e w' ⟨rfl,n,U,D,rfl,hD1,W⟩
   have ⟨z,I,S,T⟩:=L _ (Go.Sort.grow (Go.Sort.putRow encStr (Go.Sort.ahead w n) b off D.toArray) U) (fun b' h=>by rw [r];exact h) (Zi1 W (by omega) (by omega) ha ht Y) ⟨rfl,rfl,⟨rfl,.inr (Nat.le_add_right _ _)⟩,ZjQ,fun b' G=>Zia G.1 fun e=>G.2 ⟨0,_,rfl,(by show YC (E.ρ 0)=some b';rw [r,e];rfl)⟩⟩
   exact ⟨z,I,congrArg _ S,T⟩
end
section
def Tc (l:List UInt8):ByteArray:=⟨l.toArray⟩
theorem Zeb (x:ByteArray):Tc x.data.toList=x:=by
 unfold Tc
 rw [Array.toArray_toList]
theorem ZqV (l:List UInt8):(Tc l).data.toList=l:=by simp [Tc]
theorem Zj9 (l:List (List UInt8)):Y4 (l.map Tc)=l:=by
 unfold Y4
 rw [List.map_map]
 conv=>rhs;rw [<- List.map_id l]
 exact List.map_congr_left fun x _=>ZqV x
theorem ZiA (xs:List ByteArray):(Y4 xs).map Tc=xs:=by
 unfold Y4
 rw [List.map_map]
 conv=>rhs;rw [<- List.map_id xs]
 exact List.map_congr_left fun x _=>Zeb x
def TX (xs:List ByteArray):List ByteArray:=bif Nat.ble xs.length 1 then xs else ((Y4 xs).mergeSort fun x y=>decide (x<=y)).map Tc
theorem Zka (xs:List ByteArray):Y4 (TX xs)=(Y4 xs).mergeSort fun x y=>decide (x<=y):=by
 unfold TX
 match xs with
 | []=>simp [Y4]
 | [x]=>show Y4 [x]=_;simp [Y4]
 | x::y::r =>
  have:Nat.ble (x::y::r).length 1=false:=by
   cases h:Nat.ble (x::y::r).length 1 with
   | false=>rfl
   | true=>have:=Ze h;simp at this
  rw [this,cond_false,Zj9]
theorem ZjT (xs:List ByteArray):(TX xs).Perm xs:=by
 have h:=(List.mergeSort_perm (Y4 xs) fun x y=>decide (x<=y)).map Tc
 rw [<- Zka,ZiA,ZiA] at h
 exact h
theorem ZeO (xs:List ByteArray):(TX xs).length=xs.length:=(ZjT xs).length_eq
def U5 (xs:List ByteArray):List ByteArray:=bif Nat.ble xs.length 1 then xs else (Go.Lib.compact (Y4 xs)).map Tc
theorem ZeT (xs:List ByteArray):Y4 (U5 xs)=Go.Lib.compact (Y4 xs):=by
 unfold U5
 match xs with
 | []=>rfl
 | [x] =>
  show Y4 [x]=_
  rw [Go.Lib.compact_all]
  intro j b
  exact Go.Lib.keeps_lt_one _ j (by simpa [Y4] using b)
 | x::y::r =>
  have:Nat.ble (x::y::r).length 1=false:=by
   cases h:Nat.ble (x::y::r).length 1 with
   | false=>rfl
   | true=>have:=Ze h;simp at this
  rw [this,cond_false,Zj9]
theorem Zmp {α:Type} [Inhabited α] [DecidableEq α] (zs:List α):(Go.Lib.compact zs).length<=zs.length:=by
 unfold Go.Lib.compact Go.Lib.compactUpTo
 rw [List.length_map]
 refine Nat.le_trans (List.length_filter_le _ _) ?_
 simp
theorem BE (xs:List ByteArray):(U5 xs).length<=xs.length:=by
 have h:=Zmp (Y4 xs)
 rw [<- ZeT] at h
 simpa [Y4] using h
theorem Zon {α:Type} [Inhabited α] [DecidableEq α] (zs:List α) (x:α):x∈Go.Lib.compact zs↔x∈zs:=by
 unfold Go.Lib.compact Go.Lib.compactUpTo
 constructor
 ·intro h
  rw [List.mem_map] at h
  obtain ⟨j,b,rfl⟩:=h
  have b:=List.mem_range.1 (List.mem_filter.1 b).1
  have:zs.toArray[j]! = zs[j]:=by rw [getElem!_pos _ j (by simpa using b)];simp
  rw [this]
  exact List.getElem_mem b
 ·intro h
  obtain ⟨i,hi,rfl⟩:=List.getElem_of_mem h
  rw [List.mem_map]
  have key:∀ i,∀ hi:i < zs.length,∃ j,j∈(List.range zs.length).filter (Go.Lib.keeps zs.toArray)/\zs.toArray[j]! = zs[i]:=by
   intro i
   induction i with
   | zero =>
    intro hi
    refine ⟨0,List.mem_filter.2 ⟨List.mem_range.2 hi,Go.Lib.keeps_lt_one _ 0 (by omega)⟩,?_⟩
    rw [getElem!_pos _ 0 (by simpa using hi)];simp
   | succ i l =>
    intro hi
    by_cases f:Go.Lib.keeps zs.toArray (i+1)=true
    ·refine ⟨i+1,List.mem_filter.2 ⟨List.mem_range.2 hi,f⟩,?_⟩
     rw [getElem!_pos _ (i+1) (by simpa using hi)];simp
    ·have d:zs.toArray[i+1]! = zs.toArray[i+1-1]! := by
      refine Classical.byContradiction fun c=>f (Go.Lib.keeps_pos c)
     have ⟨j,b,e⟩:=l (by omega)
     refine ⟨j,b,e.trans ?_⟩
     have g:zs.toArray[i+1]! = zs[i+1]:=by rw [getElem!_pos _ (i+1) (by simpa using hi)];simp
     have k:zs.toArray[i+1-1]! = zs[i]:=by
      rw [Nat.add_sub_cancel,getElem!_pos _ i (show i < zs.toArray.size by simp;omega)];simp
     rw [g,k] at d
     exact d.symm
  exact key i hi
theorem Zom (xs:List ByteArray) (x:ByteArray):x∈U5 xs↔x∈xs:=by
 have h:=Zon (Y4 xs) x.data.toList
 rw [<- ZeT] at h
 have key:∀ l:List ByteArray,x.data.toList∈Y4 l↔x∈l:=by
  intro l
  unfold Y4
  rw [List.mem_map]
  constructor
  ·rintro ⟨y,b,e⟩
   have:Tc y.data.toList=Tc x.data.toList:=by rw [e]
   rw [Zeb,Zeb] at this
   rw [<- this];exact b
  ·exact fun h=>⟨x,h,rfl⟩
 rw [key,key] at h
 exact h
end
section
variable [LxP]
section
variable {X:Ctx} {s:St} {ops:Array Oper} {todo:Act->World->Prop} {tt:List (Nat × TD)}
end
end
section
variable [LxP]
def YS {α:Type}:List (ByteArray × α)->ByteArray->Option α
 | [],_=>none
 | (k,v)::r,a=>bif k.data.toList==a.data.toList then some v else YS r a
def Xo {α:Type}:List (ByteArray × α)->ByteArray->α->List (ByteArray × α)
 | [],a,x=>[(a,x)]
 | (k,v)::r,a,x=>bif k.data.toList==a.data.toList then (k,x)::r else (k,v)::Xo r a x
omit [LxP] in
theorem Tj (a b:ByteArray):(a.data.toList==b.data.toList)=true↔a=b:=by
 rw [beq_iff_eq]
 constructor
 ·intro h
  have ⟨x⟩:=a
  have ⟨y⟩:=b
  have:x=y:=Array.toList_inj.1 h
  rw [this]
 ·rintro rfl;rfl
def WO (ag:Bool) (vs:List Value):Value:=bif ag then .agg vs.toArray else vs.headD undef
def MapL {α:Type} (R:TRep α) (ag:Bool) (F:Yu) (w:World):List MapEntry->List (ByteArray × α)->Prop
 | [],[]=>True
 | e::es,(k,x)::r=>e.key=.string k/\(∃ vs,R.rep F w x vs/\e.val=WO ag vs)/\MapL R ag F w es r
 | _,_=>False
omit [LxP] in
theorem MapL.mono {α:Type} {R:TRep α} {ag F w F' w'} (g:Wh F w F' w'):∀ {es kvs},MapL R ag F w es kvs->MapL R ag F' w' es kvs
 | [],[],_=>trivial
 | [],_::_,h=>h.elim
 | _::_,[],h=>h.elim
 | e::es,(k,x)::r,⟨h1,⟨vs,h2,h3⟩,h4⟩=>⟨h1,⟨vs,R.mono g h2,h3⟩,MapL.mono g h4⟩
def Zlr {α:Type} (R:TRep α) (ag nl:Bool) (kvs:List (ByteArray × α)) (F:Yu) (w:World) (v:Value):Prop :=
 (nl=true/\kvs=[]/\v=.map none)\/∃ b es clock,v=.map (some b)/\w.heap[b]? = some (.map es clock)/\MapL R ag F w es.toList kvs
def ZY {α:Type} (R:TRep α) (ag nl:Bool) (kvs:List (ByteArray × α)):Zc9 where
 ok F w v:=Zlr R ag nl kvs F w v
 mono g hb h:=by
  rcases h with h | ⟨b,es,clock,hv,hh,hl⟩
  ·exact .inl h
  ·exact .inr ⟨b,es,clock,hv,by rw [hb b (by rw [hv];rfl)];exact hh,hl.mono g⟩
 one h:=by
  rcases h with ⟨_,_,hv⟩ | ⟨_,_,_,hv,_⟩<;>rw [hv]<;>rfl
omit [LxP] in
theorem Zh0 {α:Type} {R:TRep α} {ag F w} (a:ByteArray):∀ (es:List MapEntry) (kvs:List (ByteArray × α)) (i:Nat),MapL R ag F w es kvs ->
  (YS kvs a=none/\Instr.findNow .string (.string a) es i=some none)\/∃ x j e d,YS kvs a=some x/\Instr.findNow .string (.string a) es i=some (some (i+j,e.val))/\es[j]? = some e/\e.key=.string a/\R.rep F w x d/\e.val=WO ag d
 | [],[],i,_=>.inl ⟨rfl,rfl⟩
 | [],_::_,_,h=>h.elim
 | _::_,[],_,h=>h.elim
 | e::es,(k,x)::r,i,⟨h1,⟨d,h2,h3⟩,h4⟩=>by
  have m:Instr.sameNow .string (.string a) e.key=some (a==k):=by rw [h1];rfl
  by_cases n:a=k
  ·subst n
   have b:(a==a)=true:=(MapKept.bytes_beq a a).2 rfl
   have c:(a.data.toList==a.data.toList)=true:=(Tj a a).2 rfl
   exact .inr ⟨x,0,e,d,by rw [YS,c];rfl,by unfold Instr.findNow;rw [m,b];rfl,rfl,h1,h2,h3⟩
  ·have b:(a==k)=false:=by
    cases o:(a==k) with
    | false=>rfl
    | true=>exact absurd ((MapKept.bytes_beq a k).1 o) n
   have c:(k.data.toList==a.data.toList)=false:=by
    cases o:(k.data.toList==a.data.toList) with
    | false=>rfl
    | true=>exact absurd ((Tj k a).1 o).symm n
   rcases Zh0 a es r (i+1) h4 with ⟨f,g⟩ | ⟨y,j,p,l,f,g,q,u,v,z⟩
   ·exact .inl ⟨by rw [YS,c];exact f,by unfold Instr.findNow;rw [m,b];exact g⟩
   ·refine .inr ⟨y,j+1,p,l,by rw [YS,c];exact f,?_,by simpa using q,u,v,z⟩
    unfold Instr.findNow
    rw [m,b]
    show Instr.findNow .string (.string a) es (i+1)=_
    rw [g,show i+1+j=i+(j+1) by omega]
section
variable {P:Program} {t kt et:TypeId}
theorem Zn8 {w:World} {c:Value} {a:ByteArray} (f:P.underlying t=some (.map kt et)) (d:P.underlying kt=some .string) (g:∀ w,(zeroValue et).run P w=.ok c w) (b:Bool) :
  (Instr.lookup t (.map none) (.string a) b).run P w=.ok (bif b then .tuple #[c,.bool false] else c) w:=by
 have h:=MapKept.run_findKey (P:=P) (w:=w) (k:=.string a) (l:=[]) (a:=none) d rfl
 have i:=fun e n=>MapKept.run_checkKey (P:=P) (w:=w) (k:=.string a) d trivial e n
 cases b<;>simp [Instr.lookup,YU f,i,h,g,Result.andThen]
theorem Ziw {α:Type} {R:TRep α} {ag nl:Bool} {F:Yu} {w:World} {kvs:List (ByteArray × α)} {v g:Value} {a:ByteArray} (i:P.underlying t=some (.map kt et)) (d:P.underlying kt=some .string) (r:∀ w,(zeroValue et).run P w=.ok g w)
  (h:(ZY R ag nl kvs).ok F w v) (c:Bool) :
  (YS kvs a=none/\(Instr.lookup t v (.string a) c).run P w=.ok (bif c then .tuple #[g,.bool false] else g) w) \/
  ∃ x f,YS kvs a=some x/\R.rep F w x f/\(Instr.lookup t v (.string a) c).run P w=.ok (bif c then .tuple #[WO ag f,.bool true] else WO ag f) w:=by
 rcases h with ⟨_,rfl,rfl⟩ | ⟨b,es,l,rfl,u,y⟩
 ·exact .inl ⟨rfl,Zn8 i d r c⟩
 rcases Zh0 a es.toList kvs 0 y with ⟨m,o⟩ | ⟨x,j,e,f,m,o,C,D,z,A⟩
 ·refine .inl ⟨m,?_⟩
  have p:=MapKept.run_findKey (P:=P) (w:=w) d o
  have q:=fun e n=>MapKept.run_checkKey (P:=P) (w:=w) (k:=.string a) d trivial e n
  cases c<;>simp [Instr.lookup,YU i,MapKept.run_getObj_map u,q,p,r,Result.andThen]
 ·refine .inr ⟨x,f,m,z,?_⟩
  have p:=MapKept.run_findKey (P:=P) (w:=w) d o
  have q:=fun e n=>MapKept.run_checkKey (P:=P) (w:=w) (k:=.string a) d trivial e n
  rw [<- A]
  cases c<;>simp [Instr.lookup,YU i,MapKept.run_getObj_map u,q,p,Result.andThen]
theorem MapL.put {α:Type} {R:TRep α} {ag F w} {a:ByteArray} {x:α} {c:List Value} (g:R.rep F w x c):∀ (es:List MapEntry) (kvs:List (ByteArray × α)) (i b:Nat),MapL R ag F w es kvs ->
  (Instr.findNow .string (.string a) es i=some none/\MapL R ag F w (es++[{ key:=.string a,val:=WO ag c,born:=b }]) (Xo kvs a x)) \/
  ∃ j e,Instr.findNow .string (.string a) es i=some (some (i+j,e.val))/\es[j]? = some e/\e.key=.string a/\MapL R ag F w (es.modify j fun e=>{ e with key:=.string a,val:=WO ag c }) (Xo kvs a x)
 | [],[],i,b,_=>.inl ⟨rfl,rfl,⟨c,g,rfl⟩,trivial⟩
 | [],_::_,_,_,h=>h.elim
 | _::_,[],_,_,h=>h.elim
 | e::es,(k,y)::r,i,b,⟨h1,h2,h4⟩=>by
  have n:Instr.sameNow .string (.string a) e.key=some (a==k):=by rw [h1];rfl
  by_cases o:a=k
  ·subst o
   have d:(a==a)=true:=(MapKept.bytes_beq a a).2 rfl
   have f:(a.data.toList==a.data.toList)=true:=(Tj a a).2 rfl
   refine .inr ⟨0,e,by unfold Instr.findNow;rw [n,d];rfl,rfl,h1,?_⟩
   rw [Xo,f]
   exact ⟨rfl,⟨c,g,rfl⟩,h4⟩
  ·have d:(a==k)=false:=by
    cases p:(a==k) with
    | false=>rfl
    | true=>exact absurd ((MapKept.bytes_beq a k).1 p) o
   have f:(k.data.toList==a.data.toList)=false:=by
    cases p:(k.data.toList==a.data.toList) with
    | false=>rfl
    | true=>exact absurd ((Tj k a).1 p).symm o
   rcases MapL.put g es r (i+1) b h4 with ⟨l,m⟩ | ⟨j,q,l,m,u,v⟩
   ·refine .inl ⟨by unfold Instr.findNow;rw [n,d];exact l,?_⟩
    rw [Xo,f]
    exact ⟨h1,h2,m⟩
   ·refine .inr ⟨j+1,q,?_,by simpa using m,u,?_⟩
    ·unfold Instr.findNow
     rw [n,d]
     show Instr.findNow .string (.string a) es (i+1)=_
     rw [l,show i+1+j=i+(j+1) by omega]
    ·rw [Xo,f]
     exact ⟨h1,h2,v⟩
theorem Zps {α:Type} {R:TRep α} {ag nl:Bool} (u:nl=false) {F:Yu} {w:World} {kvs:List (ByteArray × α)} {v:Value} {a:ByteArray} {x:α} {r:List Value} (L:P.underlying t=some (.map kt et)) (y:P.underlying kt=some .string)
  (h:(ZY R ag nl kvs).ok F w v) (O:R.rep F w x r) (hF:∀ b,YC v=some b->¬ F b) :
  ∃ w',(Instr.mapUpdate t v (.string a) (WO ag r)).run P w=.ok () w'/\(ZY R ag nl (Xo kvs a x)).ok F w' v/\w'.os=w.os/\w'.tape=w.tape/\Oq w w'/\w.heap.size<=w'.heap.size/\(∀ b,YC v≠some b->w'.heap[b]? = w.heap[b]?):=by
 obtain ⟨b,es,c,rfl,p,S⟩:∃ b es c,v=.map (some b)/\w.heap[b]? = some (.map es c)/\MapL R ag F w es.toList kvs:=by
  rcases h with ⟨h,_⟩ | h
  ·rw [u] at h;cases h
  ·exact h
 have N:=fun e n=>MapKept.run_checkKey (P:=P) (w:=w) (k:=.string a) y trivial e n
 have q:∀ (f:Array MapEntry) (i:Nat),MapL R ag F w f.toList (Xo kvs a x)->(ZY R ag nl (Xo kvs a x)).ok F { w with heap:=w.heap.setIfInBounds b (.map f i) } (.map (some b)) /\
   w.heap.size<=({ w with heap:=w.heap.setIfInBounds b (.map f i) }:World).heap.size/\∀ l,YC (.map (some b))≠some l->({ w with heap:=w.heap.setIfInBounds b (.map f i) }:World).heap[l]? = w.heap[l]? := by
  intro f i H
  have ⟨T,M⟩:=MapKept.heap_set (o':=.map f i) p
  have g:Wh F w F { w with heap:=w.heap.setIfInBounds b (.map f i) }:=⟨fun _ h=>h,fun l o=>M l (fun e=>hF b rfl (e ▸ o))⟩
  exact ⟨.inr ⟨b,f,i,rfl,T,H.mono g⟩,by simp,fun l o=>M l (fun e=>o (by rw [e];rfl))⟩
 rcases MapL.put (a:=a) O es.toList kvs 0 c S with ⟨D,G⟩ | ⟨j,e,D,G,U,V⟩
 ·have I:=MapKept.run_findKey (P:=P) (w:=w) y D
  have ⟨z,A,C⟩:=q (es.push { key:=.string a,val:=WO ag r,born:=c }) (c+1) (by simpa using G)
  exact ⟨_,by simp [Instr.mapUpdate,YU L,MapKept.run_getObj_map p,N,I,MapKept.run_setObj_map _ p,Result.andThen],z,rfl,rfl,.m,A,C⟩
 ·have I:=MapKept.run_findKey (P:=P) (w:=w) y D
  have W:es[j]? = some e:=by simpa using G
  have K:(Instr.keyThatStays (.string a) (.string a)).run P w=.ok (.string a) w:=MapKept.run_keyThatStays (d:=.string) trivial
  have ⟨z,A,C⟩:=q (es.modify j fun e=>{ e with key:=.string a,val:=WO ag r }) c (by simpa using V)
  exact ⟨_,by simp [Instr.mapUpdate,YU L,MapKept.run_getObj_map p,N,I,W,U,K,MapKept.run_setObj_map _ p,Result.andThen],z,rfl,rfl,.m,A,C⟩
end
end
section
variable [LxP]
def Sq {α:Type} (P:Program) (R:TRep α) (t:TypeId) (ag:Bool) (z:α):Prop :=
 ∃ kt et zs,P.underlying t=some (.map kt et)/\P.underlying kt=some .string/\(∀ w,(zeroValue et).run P w=.ok (WO ag zs) w)/\∀ F w,R.rep F w z zs
theorem Zf7 {P:Program} {et:TypeId} {b:Value} (h:(P.info? et).bind (·.zero)=some b):∀ w,(zeroValue et).run P w=.ok b w:=by
  intro w
  cases hi:P.info? et with
  | none=>rw [hi] at h;cases h
  | some i =>
    rw [hi] at h
    have c:i.zero=some b:=h
    simp [zeroValue,typeInfo,hi,c]
def H8 (ag:Bool) (cs:List SC):SV:=bif ag then .a cs else .c (cs.headD .nil)
def H9 (ag:Bool) (cs:List SC) (b:Bool):SV:=.t [bif ag then .inr cs else .inl (cs.headD .nil),.inl (.b b)]
theorem ZqI {ag:Bool} {cs:List SC} {E:Env} {b:List Value} (h:b=cs.map (ZX E)) (d:0 < b.length):Z8 E (H8 ag cs)=WO ag b:=by
 subst h
 cases ag with
 | true=>rfl
 | false =>
  cases cs with
  | nil=>simp at d
  | cons c r=>rfl
theorem ZqK {ag:Bool} {cs:List SC} {E:Env} {d:List Value} {b:Bool} (h:d=cs.map (ZX E)) (e:0 < d.length):Z8 E (H9 ag cs b)=.tuple #[WO ag d,.bool b]:=by
 subst h
 cases ag with
 | true=>rfl
 | false =>
  cases cs with
  | nil=>simp at e
  | cons c r=>rfl
theorem ZqJ {ag:Bool} {cs:List SC} {n:Nat} (h:∀ c∈cs,SC.kb n c):(H8 ag cs).kb n:=by
 cases ag with
 | true=>exact h
 | false =>
  cases cs with
  | nil=>trivial
  | cons c r=>exact h c (Zj ..)
theorem ZqL {ag:Bool} {cs:List SC} {b:Bool} {n:Nat} (h:∀ c∈cs,SC.kb n c):(H9 ag cs b).kb n:=by
 intro v d
 rcases List.mem_cons.1 d with rfl | d
 ·cases ag with
  | true=>exact h
  | false =>
   cases cs with
   | nil=>trivial
   | cons c r=>exact h c (Zj ..)
 ·rcases List.mem_cons.1 d with rfl | d
  ·trivial
  ·cases d
section
variable {X:Ctx} {s:St} {ops:Array Oper} {todo:Act->World->Prop} {tt:List (Nat × TD)}
theorem Sat.newAv {E:Env} {F:Yu} {w:World} {a:Act} {A:Zc9} {v:Value} (d:Sat X s E F w a) (g:A.ok F w v)
  (e:∀ b,YC v=some b->¬ F b/\¬ X.Z b/\b < w.heap.size/\∀ k m',ZP s.M k=some m'->¬ m'.fp E k b) :
  ∃ m,m.ρ s.nx=v/\Sat X ⟨s.L,(s.nx,.av A)::s.M,s.V,s.nx+1⟩ m F w a:=by
 have l:E.Eqb s.nx (E.setρ s.nx v):=E.eqb_setρ _ _ _ (Zo _)
 have f:(E.setρ s.nx v).ρ s.nx=v:=by simp [Env.setρ]
 have u:=d.env l (fun j=>by
  simp only [Env.setρ];split
  ·exact A.one g
  ·exact d.one j)
 refine ⟨_,f,u.addM' ?_ trivial ?_ (fun h=>by cases h)⟩
 ·show A.ok F w ((E.setρ s.nx v).ρ s.nx)
  rw [f];exact g
 ·intro b c
  have c:YC ((E.setρ s.nx v).ρ s.nx)=some b:=c
  rw [f] at c
  have ⟨o,p,q,r⟩:=e b c
  exact ⟨o,p,q,fun k m' i n=>r k m' i ((MO.fp_eqb l (d.wf.hM k m' i).1).1 n)⟩
theorem WPr.mmk {α:Type} (R:TRep α) (ag:Bool) {i:Nat} {rest:List Nat} {o:Oper} {t:TypeId} {d:Nat} (l:ops[i]? = some o) (n:YJ ops s.L o=some true) (g:o.op=.makeMap t none) (p:o.dst=some d) (q:Nat.blt d X.fn.ntmps=true)
  (r:WPr X ops rest todo ⟨(d,.c (.sl s.nx))::s.L,(s.nx,.av (ZY R ag false []))::s.M,s.V,s.nx+1⟩):WPr X ops (i::rest) todo s:=by
 refine WPr.op l n (fun E F w a e=>?_) r
 have f:(Instr.makeMap t none).run X.P w=.ok (.map (some w.heap.size)) (w.alloc (.map #[] 0)):=rfl
 refine XD (v:=.map (some w.heap.size)) (w':=w.alloc (.map #[] 0)) ?_ ?_
 ·simp only [execOp,g]
  exact YP f
 ·have ⟨z,C⟩:=MapKept.heap_alloc w (.map #[] 0)
  have I:=e.world (w':=w.alloc (.map #[] 0)) rfl rfl .m (by show _<=(w.heap.push _).size;simp) (fun b h=>C b h)
  have ⟨D,G,H⟩:=I.newAv (A:=ZY R ag false []) (v:=.map (some w.heap.size)) (.inr ⟨w.heap.size,#[],0,rfl,z,trivial⟩) (fun b h=>by
   cases h
   exact ⟨fun hF=>Nat.lt_irrefl _ (e.hF _ hF),fun u=>Nat.lt_irrefl _ (Zh (e.hZ _ u) e.ext.size),by show _ < (w.heap.push _).size;simp,fun j m' x y=>Nat.lt_irrefl _ (e.mF j m' x _ y).2.2⟩)
  have k:=H.setL (d:=d) (v:=.c (.sl s.nx)) (Nat.lt_succ_self _) (YO q)
  simp only [Z8,ZX] at k
  rw [G] at k
  rw [p]
  exact ⟨D,F,k⟩
theorem WPr.mlk {α:Type} {R:TRep α} (O:Opn R) {i:Nat} {rest:List Nat} {o:Oper} {t:TypeId} {x y:Operand} {d k:Nat} {ag nl:Bool} {z e:α} {q:ByteArray} {kvs:List (ByteArray × α)} (G:Sq X.P R t ag z)
  (l:(YS kvs q).getD z=e) (H:ops[i]? = some o) (I:YJ ops s.L o=some true) (m:o.op=.lookup t x y false) (K:o.dst=some d) (N:Nat.blt d X.fn.ntmps=true)
  (S:Ya s.L x=some (.c (.sl k))) (T:ZP s.M k=some (.av (ZY R ag nl kvs))) (U:Ya s.L y=some (.c (.s q)))
  (W:WPr X ops rest todo ⟨(d,H8 ag (O.cells s.nx e))::s.L,s.M,O.facts s.nx e++s.V,s.nx+O.nk⟩):WPr X ops (i::rest) todo s:=by
 refine WPr.op H I (fun E F w a g=>?_) W
 have ⟨kt,et,zs,Z,hk,hz,r⟩:=G
 have ⟨e1,_⟩:=g.eval S
 have ⟨e2,_⟩:=g.eval U
 have C:(ZY R ag nl kvs).ok F w (E.ρ k):=g.hM k _ T
 obtain ⟨f,b,h⟩:∃ f,R.rep F w e f/\(Instr.lookup t (E.ρ k) (.string q) false).run X.P w=.ok (WO ag f) w:=by
  rcases Ziw (a:=q) Z hk hz C false with ⟨u,A⟩ | ⟨x,f,u,A,g3⟩
  ·rw [u] at l;cases l
   exact ⟨zs,r F w,A⟩
  ·rw [u] at l;cases l
   exact ⟨f,A,g3⟩
 have ⟨E2,a1,_,_,a3,a4,a5,a6⟩:=O.ok b s.nx E g.one
 have j:0 < f.length:=by rw [R.len b];exact R.pos
 refine XD (v:=WO ag f) (w':=w) ?_ ?_
 ·simp only [execOp,m,e1,e2,Z8,ZX]
  exact YP h
 ·have s1:=g.env a1 a3
  have s2:=s1.addF (fs:=O.facts s.nx e) (n:=O.nk) (fun p Y=>a5 p Y)
  have D:=s2.setL (d:=d) (v:=H8 ag (O.cells s.nx e)) (ZqJ a6) (YO N)
  rw [ZqI a4 j] at D
  rw [K]
  exact ⟨E2,F,D⟩
theorem WPr.mlo {α:Type} {R:TRep α} (O:Opn R) {i:Nat} {rest:List Nat} {o:Oper} {t:TypeId} {x y:Operand} {d k:Nat} {ag nl:Bool} {z e:α} {q:ByteArray} {kvs:List (ByteArray × α)} (G:Sq X.P R t ag z)
  (l:(YS kvs q).getD z=e) (H:ops[i]? = some o) (I:YJ ops s.L o=some true) (m:o.op=.lookup t x y true) (K:o.dst=some d) (N:Nat.blt d X.fn.ntmps=true)
  (S:Ya s.L x=some (.c (.sl k))) (T:ZP s.M k=some (.av (ZY R ag nl kvs))) (U:Ya s.L y=some (.c (.s q)))
  (W:WPr X ops rest todo ⟨(d,H9 ag (O.cells s.nx e) (YS kvs q).isSome)::s.L,s.M,O.facts s.nx e++s.V,s.nx+O.nk⟩):WPr X ops (i::rest) todo s:=by
 refine WPr.op H I (fun E F w a g=>?_) W
 have ⟨kt,et,zs,Z,hk,hz,r⟩:=G
 have ⟨e1,_⟩:=g.eval S
 have ⟨e2,_⟩:=g.eval U
 have C:(ZY R ag nl kvs).ok F w (E.ρ k):=g.hM k _ T
 obtain ⟨f,b,h⟩:∃ f,R.rep F w e f/\(Instr.lookup t (E.ρ k) (.string q) true).run X.P w=.ok (.tuple #[WO ag f,.bool (YS kvs q).isSome]) w:=by
  rcases Ziw (a:=q) Z hk hz C true with ⟨u,A⟩ | ⟨x,f,u,A,g3⟩
  ·rw [u] at l ⊢;cases l
   exact ⟨zs,r F w,A⟩
  ·rw [u] at l ⊢;cases l
   exact ⟨f,A,g3⟩
 have ⟨E2,a1,_,_,a3,a4,a5,a6⟩:=O.ok b s.nx E g.one
 have j:0 < f.length:=by rw [R.len b];exact R.pos
 refine XD (v:=.tuple #[WO ag f,.bool (YS kvs q).isSome]) (w':=w) ?_ ?_
 ·simp only [execOp,m,e1,e2,Z8,ZX]
  exact YP h
 ·have s1:=g.env a1 a3
  have s2:=s1.addF (fs:=O.facts s.nx e) (n:=O.nk) (fun p Y=>a5 p Y)
  have D:=s2.setL (d:=d) (v:=H9 ag (O.cells s.nx e) (YS kvs q).isSome) (ZqL a6) (YO N)
  rw [ZqK a4 j] at D
  rw [K]
  exact ⟨E2,F,D⟩
def agB (ag:Bool):SV->Bool
 | .a _=>ag
 | .c _ => !ag
 | _=>false
theorem Zly {ag:Bool} {v:SV} {d:List SC} {E:Env} (h:agB ag v=true) (b:WR v=some d):Z8 E v=WO ag (d.map (ZX E)):=by
 cases v with
 | c x =>
  cases b
  cases ag with
  | true=>cases h
  | false=>rfl
 | a cs =>
  cases b
  have h:ag=true:=h
  subst h;rfl
 | t _=>cases b
 | u=>cases b
theorem WPr.mup {α:Type} {R:TRep α} (O:Opn R) {i:Nat} {rest:List Nat} {o:Oper} {t:TypeId} {x y u:Operand} {k:Nat} {ag:Bool} {z:α} {q:ByteArray} {kvs:List (ByteArray × α)} {v:SV} {m:List SC} (e:α) (T:Sq X.P R t ag z)
  (U:ops[i]? = some o) (W:YJ ops s.L o=some true) (n:o.op=.mapUpdate t x y u) (Y:o.dst=none)
  (Z:Ya s.L x=some (.c (.sl k))) (p:ZP s.M k=some (.av (ZY R ag false kvs))) (hy:Ya s.L y=some (.c (.s q))) (hu:Ya s.L u=some v) (hp:WR v=some m) (hc:agB ag v=true) (hk:O.chk (ZP s.V) e m)
  (kk:WPr X ops rest todo ⟨s.L,(k,.av (ZY R ag false (Xo kvs q e)))::s.M,s.V,s.nx⟩):WPr X ops (i::rest) todo s:=by
 refine WPr.op U W (fun E F w a d=>?_) kk
 have ⟨kt,et,zs,C,D,hz,hzr⟩:=T
 have ⟨G,_⟩:=d.eval Z
 have ⟨H,_⟩:=d.eval hy
 have ⟨I,_⟩:=d.eval hu
 have N:(ZY R ag false kvs).ok F w (E.ρ k):=d.hM k _ p
 have S:=d.mF k _ p
 have l:R.rep F w e (m.map (ZX E)):=O.cok hk E F w (fun j f hj=>d.hV j f hj)
 have ⟨w',g,K,g1,g2,g3,g4,g5⟩:=Zps (nl:=false) rfl (a:=q) C D N l (fun b r=>(S b r).1)
 refine Ze0 (w':=w') ?_ ?_
 ·have G:a.eval x=E.ρ k:=G
  have H:a.eval y=.string q:=H
  have I:a.eval u=WO ag (m.map (ZX E)):=I.trans (Zly hc hp)
  simp only [execOp,n,G,H,I,Sem.run_bind,g,Result.andThen_ok,Sem.run_pure]
 ·have s1:=d.setM (m':=.av (ZY R ag false (Xo kvs q e))) p g1 g2 g3 g4 (fun b _ A=>g5 b (fun h=>A h)) (fun b r=>r) K trivial (fun h=>by cases h)
  rw [Y]
  exact ⟨E,F,s1⟩
theorem Sat.mapW {α:Type} {R:TRep α} {ag:Bool} {kvs:List (ByteArray × α)} {k:Nat} {E:Env} {F:Yu} {w:World} {a:Act} (d:Sat X s E F w a) (e:ZP s.M k=some (.av (ZY R ag false kvs))) :
  Sat X ⟨s.L,(k,.av (ZY R ag true kvs))::s.M,s.V,s.nx⟩ E F w a:=by
 have c:(ZY R ag false kvs).ok F w (E.ρ k):=d.hM k _ e
 refine d.setM (m':=.av (ZY R ag true kvs)) e rfl rfl .m (Zo _) (fun _ _ _=>rfl) (fun b f=>f) ?_ trivial (fun h=>by cases h)
 rcases c with ⟨h,_⟩ | h
 ·cases h
 ·exact .inr h
theorem Sat.mapZ {α:Type} (R:TRep α) (ag:Bool) {E:Env} {F:Yu} {w:World} {a:Act} (f:Sat X s E F w a) :
  ∃ e,e.ρ s.nx=.map none/\E.Eqb s.nx e/\Sat X ⟨s.L,(s.nx,.av (ZY R ag true []))::s.M,s.V,s.nx+1⟩ e F w a:=by
 have g:E.Eqb s.nx (E.setρ s.nx (.map none)):=E.eqb_setρ _ _ _ (Zo _)
 have d:(E.setρ s.nx (.map none)).ρ s.nx=.map none:=by simp [Env.setρ]
 have i:=f.env g (fun j=>by
  simp only [Env.setρ];split
  ·rfl
  ·exact f.one j)
 refine ⟨_,d,g,i.addM' ?_ trivial ?_ (fun h=>by cases h)⟩
 ·show (ZY R ag true ([]:List (ByteArray × α))).ok F w _
  rw [d];exact .inl ⟨rfl,rfl,rfl⟩
 ·intro b c
  have c:YC ((E.setρ s.nx (.map none)).ρ s.nx)=some b:=c
  rw [d] at c;cases c
end
end
section
variable [LxP]
section
variable {X:Ctx} {tt:List (Nat × TD)}
def dMm {α:Type} (R:TRep α) (ag:Bool) (c:Cf):Dl:=⟨[(YI c,.c (.sl (ZW c).nx))],[((ZW c).nx,.av (ZY R ag false []))],[],1⟩
def nMm {α:Type} (R:TRep α) (ag:Bool) (c:Cf):Cf:=Y5 (dMm R ag c) c
theorem HM {α:Type} {c:Cf} (R:TRep α) (ag:Bool) (k:Wc X (nMm R ag c))
  (b:(hB X.fn.ntmps c,(ZN c).dst,(ZN c).op)=(true,some (YI c),.makeMap (Z9 (ZN c).op) none):=by kernel_rfl):Wc X c:=by
 simp only [Zp] at b
 have ⟨i,e,j⟩:=b
 have ⟨l,m⟩:=Xa i
 exact Wc.ev (d:=dMm R ag c) l (Xd e rfl) (fun nk E0 F0 w0 n0 Z rest K f g h=>WPr.mmk (X:=X.var nk E0 F0 w0 n0 Z) R ag f g j e m h) k
def dMl {α:Type} {R:TRep α} (O:Opn R) (ag:Bool) (e:α) (c:Cf):Dl:=⟨[(YI c,H8 ag (O.cells (ZW c).nx e))],[],O.facts (ZW c).nx e,O.nk⟩
def nMl {α:Type} {R:TRep α} (O:Opn R) (ag:Bool) (e:α) (c:Cf):Cf:=Y5 (dMl O ag e c) c
theorem BN {α:Type} {R:TRep α} {t:TypeId} {ag nl:Bool} {z e:α} {q:ByteArray} {kvs:List (ByteArray × α)} {c:Cf} (O:Opn R) (g:Sq X.P R t ag z) (i:(YS kvs q).getD z=e) (k:Wc X (nMl O ag e c))
  (b:(hB X.fn.ntmps c,(ZN c).dst,(ZN c).op,Z7 c 0,ZP (ZW c).M (Yt (Z7 c 0)),Z7 c 1)=(true,some (YI c),.lookup t (Ym (ZN c).op 0) (Ym (ZN c).op 1) false,some (.c (.sl (Yt (Z7 c 0)))),some (.av (ZY R ag nl kvs)),some (.c (.s q))):=by kernel_rfl):Wc X c:=by
 simp only [Zp] at b
 have ⟨m,f,n,o,p,r⟩:=b
 have ⟨u,v⟩:=Xa m
 exact Wc.ev (d:=dMl O ag e c) u (Xd f rfl) (fun nk E0 F0 w0 n0 Z rest K j l h=>WPr.mlk (X:=X.var nk E0 F0 w0 n0 Z) O g i j l n f v o p r h) k
def dMo {α:Type} {R:TRep α} (O:Opn R) (ag:Bool) (e:α) (b:Bool) (c:Cf):Dl:=⟨[(YI c,H9 ag (O.cells (ZW c).nx e) b)],[],O.facts (ZW c).nx e,O.nk⟩
def nMo {α:Type} {R:TRep α} (O:Opn R) (ag:Bool) (e:α) (b:Bool) (c:Cf):Cf:=Y5 (dMo O ag e b c) c
theorem eMo {α:Type} {R:TRep α} {t:TypeId} {ag nl:Bool} {z e:α} {q:ByteArray} {kvs:List (ByteArray × α)} {c:Cf} (O:Opn R) (g:Sq X.P R t ag z) (i:(YS kvs q).getD z=e) (k:Wc X (nMo O ag e (YS kvs q).isSome c))
  (b:(hB X.fn.ntmps c,(ZN c).dst,(ZN c).op,Z7 c 0,ZP (ZW c).M (Yt (Z7 c 0)),Z7 c 1)=(true,some (YI c),.lookup t (Ym (ZN c).op 0) (Ym (ZN c).op 1) true,some (.c (.sl (Yt (Z7 c 0)))),some (.av (ZY R ag nl kvs)),some (.c (.s q))):=by kernel_rfl):Wc X c:=by
 simp only [Zp] at b
 have ⟨m,f,n,o,p,r⟩:=b
 have ⟨u,v⟩:=Xa m
 exact Wc.ev (d:=dMo O ag e (YS kvs q).isSome c) u (Xd f rfl) (fun nk E0 F0 w0 n0 Z rest K j l h=>WPr.mlo (X:=X.var nk E0 F0 w0 n0 Z) O g i j l n f v o p r h) k
def dMu {α:Type} (R:TRep α) (ag:Bool) (kvs:List (ByteArray × α)) (fz:List Nat) (c:Cf):Dl:=⟨[],[(Yt (Ya (Yj (ZW c) fz).L (Ym (ZN c).op 0)),.av (ZY R ag false kvs))],[],0⟩
def nMu {α:Type} (R:TRep α) (ag:Bool) (kvs:List (ByteArray × α)) (fz:List Nat) (c:Cf):Cf:=Y5 ((dMu R ag kvs fz c).fz (ZW c) fz) c
theorem HN {α:Type} {R:TRep α} {t:TypeId} {ag:Bool} {z:α} {q:ByteArray} {kvs:List (ByteArray × α)} {c:Cf} (fz:List Nat) (O:Opn R) (e:α) (j:Sq X.P R t ag z) (k:Wc X (nMu R ag (Xo kvs q e) fz c))
  (g:(TQ c,(ZN c).dst,U8 (ZW c) fz,(ZN c).op,Ya (Yj (ZW c) fz).L (Ym (ZN c).op 0),ZP (Yj (ZW c) fz).M (Yt (Ya (Yj (ZW c) fz).L (Ym (ZN c).op 0))),Ya (Yj (ZW c) fz).L (Ym (ZN c).op 1),Ya (Yj (ZW c) fz).L (Ym (ZN c).op 2),WR (RZ (Ya (Yj (ZW c) fz).L (Ym (ZN c).op 2))),agB ag (RZ (Ya (Yj (ZW c) fz).L (Ym (ZN c).op 2))),O.lq (ZP (Yj (ZW c) fz).V) e (U6 (Ya (Yj (ZW c) fz).L (Ym (ZN c).op 2)))) =
   (true,none,true,.mapUpdate t (Ym (ZN c).op 0) (Ym (ZN c).op 1) (Ym (ZN c).op 2),some (.c (.sl (Yt (Ya (Yj (ZW c) fz).L (Ym (ZN c).op 0))))),some (.av (ZY R ag false kvs)),some (.c (.s q)),some (RZ (Ya (Yj (ZW c) fz).L (Ym (ZN c).op 2))),some (U6 (Ya (Yj (ZW c) fz).L (Ym (ZN c).op 2))),true,O.rq (ZP (Yj (ZW c) fz).V) e (U6 (Ya (Yj (ZW c) fz).L (Ym (ZN c).op 2)))):=by kernel_rfl):Wc X c:=by
 simp only [Zp] at g
 have ⟨n,i,o,p,r,u,v,x,y,b,f⟩:=g
 exact Wc.evz (d:=dMu R ag (Xo kvs q e) fz c) fz n o (by rw [i];rfl) (fun nk E0 F0 w0 n0 Z rest K l m h=>WPr.mup (X:=X.var nk E0 F0 w0 n0 Z) O e j l m p i r u v x y b (O.eqn f) h) k
theorem eMw {α:Type} {R:TRep α} {ag:Bool} {kvs:List (ByteArray × α)} (K:Nat) {c:Cf} (k:Wc X (HU (fun s=>⟨s.L,(K,.av (ZY R ag true kvs))::s.M,s.V,s.nx⟩) c))
  (b:ZP c.st.M K=some (.av (ZY R ag false kvs)):=by kernel_rfl):Wc X c:=Zac (fun E F w a d=>⟨E,F,d.mapW b⟩) k
theorem eMz {α:Type} (R:TRep α) (ag:Bool) (d:Nat) (l r:List SC) {c:Cf} (k:Wc X (HU (fun s=>⟨(d,.a (l++.sl s.nx::r))::s.L,(s.nx,.av (ZY R ag true []))::s.M,s.V,s.nx+1⟩) c))
  (b:ZP c.st.L d=some (.a (l++.v (.map none)::r)):=by kernel_rfl):Wc X c:=by
 refine Zac (fun E F w a e=>?_) k
 have ⟨g,i,n,j⟩:=e.mapZ R ag
 have f:SV.kb c.st.nx (.a (l++.v (.map none)::r)):=e.wf.hL d _ b
 refine ⟨g,F,j.setL0 (v:=.a (l++.sl c.st.nx::r)) b ?_ ?_⟩
 ·show Value.agg _=Value.agg _
  congr 2
  simp only [List.map_append,List.map_cons,ZX,i]
 ·intro x m
  rcases List.mem_append.1 m with h | h
  ·exact (f x (List.mem_append_left _ h)).mono (Nat.le_succ _)
  ·rcases List.mem_cons.1 h with rfl | h
   ·exact Nat.lt_succ_self _
   ·exact (f x (List.mem_append_right _ (Zi _ h))).mono (Nat.le_succ _)
end
end
end Go.Kx
