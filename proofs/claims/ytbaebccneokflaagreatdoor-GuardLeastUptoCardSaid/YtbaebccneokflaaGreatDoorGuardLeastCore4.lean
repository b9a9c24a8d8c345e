/- Aids for the walks, part 4: a symbolic state of the machine, and that each step of the machine keeps it. -/
import Derived.Test.YtbaebccneokflaaGreatDoorGuardLeastCore3
set_option linter.all false
section
namespace Go.Kx
structure ISl where
 run:Cal→St→Option St
abbrev Kon:=List (Nat × SV)→List (Nat × MO)→Nat→Option St
abbrev Kit:=List Item→List (Nat × SV)→List (Nat × MO)→Nat→Nat→Option St
structure IOp where
 run:Cal→Kon→Kon
structure ICo where
 run:Cal→Kit→Kit
def frM (K:List (Nat × MO)→Option St) (M:List (Nat × MO)):Option St:=List.casesOn (motive:=fun _=>Option St) M (K []) fun q r=>K (q::r)
def frN (K:Nat→Option St) (n:Nat):Option St:=Nat.casesOn (motive:=fun _=>Option St) n (K 0) fun m=>K (Nat.succ m)
def goS (K:Kon):Option St→Option St
 | some ⟨L,M,_,nx⟩=>frN (fun nx=>frM (fun M=>K L M nx) M) nx
 | none=>none
theorem goS_eq {K:Kon} {L:List (Nat × SV)} {M:List (Nat × MO)} {V:List (Nat × VF)} {nx:Nat}:goS K (some ⟨L,M,V,nx⟩)=K L M nx:=by
 cases nx<;>cases M<;>rfl
theorem goS_ok {K:Kon} {x:Option St} {s':St} (h:goS K x=some s'):∃ s1,x=some s1∧K s1.L s1.M s1.nx=some s':=by
 cases x with
 | none=>cases h
 | some s1 =>
  obtain ⟨L,M,V,nx⟩:=s1
  rw [goS_eq] at h
  exact ⟨_,rfl,h⟩
noncomputable def pickF (L:List (Nat × SV)) (rd:List Nat):List (Nat × SV):=List.rec (motive:=fun _=>List (Nat × SV)) [] (fun d _ ih=>match lookF L d with
 | some v=>(d,v)::ih
 | none=>ih) rd
theorem pickF_eq (L:List (Nat × SV)):∀ rd:List Nat,pickF L rd=pickL L rd
 | []=>rfl
 | d::r=>by
  show (match lookF L d with | some v=>(d,v)::pickF L r | none=>pickF L r)=_
  rw [lookF_eq,pickF_eq L r];rfl
noncomputable def rV (d:Nat) (iv:IVal) (sl:ISl) (call:Cal) (K:Kon) (L:List (Nat × SV)) (M:List (Nat × MO)) (nx:Nat):Option St :=
 Option.rec (motive:=fun _=>Option St) (goS K (sl.run call ⟨L,M,[],nx⟩)) (fun v=>K ((d,v)::L) M nx) (iv.run L M)
noncomputable def rD (d:Nat) (rd:List Nat) (m:Bool) (iv:IVal) (sl:ISl) (call:Cal) (K:Kon) (L:List (Nat × SV)) (M:List (Nat × MO)) (nx:Nat):Option St :=
 Option.rec (motive:=fun _=>Option St) (goS K (sl.run call ⟨L,M,[],nx⟩)) (fun v=>K ((d,v)::L) M nx) (iv.run (pickF L rd) (Bool.rec (motive:=fun _=>List (Nat × MO)) M [] m))
def rN (sl:ISl) (call:Cal) (K:Kon) (L:List (Nat × SV)) (M:List (Nat × MO)) (nx:Nat):Option St:=goS K (sl.run call ⟨L,M,[],nx⟩)
def gV (w:Bool):Option SV→Option Bool
 | some (.c (.b t))=>match t with
  | true=>some w
  | false=>some (!w)
 | some .u=>some false
 | _=>none
noncomputable def rG (c:Nat) (w:Bool) (t:Nat) (o:IOp) (call:Cal) (K:Kon) (L:List (Nat × SV)) (M:List (Nat × MO)) (nx:Nat):Option St :=
 Option.rec (motive:=fun _=>Option St) none (fun b=>Bool.rec (motive:=fun _=>Option St) (K ((t,.u)::L) M nx) (o.run call K L M nx) b) (gV w (lookF L c))
noncomputable def runL (call:Cal) (K:Kon) (l:List IOp):Kon:=List.rec (motive:=fun _=>Kon) K (fun o _ ih=>o.run call ih) l
section
variable (P:Program) (tt:List (Nat × TD)) (ext:Xt) (nt:Nat)
def oGn (o:Oper) (call:Cal) (s:St):Option St:=evOp P tt call ext nt o s
def oCl (cal:Operand) (args:Array Operand) (o:Oper) (call:Cal) (s:St):Option St:=xeCall call ext nt o s cal args
def isVl:Op→Bool
 | .move _=>true
 | .assign _=>true
 | .pick _ _ _=>true
 | .load _ _=>true
 | .nilCheck _=>true
 | .binOp _ _ _ _ _=>true
 | .unOp _ _ _=>true
 | .fieldAddr _ _ _=>true
 | .indexAddr _ _ _=>true
 | .index _ _ _=>true
 | .slice _ _ _ _ _=>true
 | .extract _ _=>true
 | .convert _ _ _=>true
 | .call { callee:=.builtin _,args:=_,argTypes:=_ }=>true
 | _=>false
noncomputable def opI (o:Oper):IOp:=bif isVl o.op then (match o.dst with
  | some d=>bif Nat.blt d nt then ⟨rV d (vF tt o.op) ⟨oGn P tt ext nt o⟩⟩ else ⟨rN ⟨oGn P tt ext nt o⟩⟩
  | none=>⟨rN ⟨oGn P tt ext nt o⟩⟩)
 else match o.op with
  | .call { callee:=.value cal,args:=args,argTypes:=_ }=>⟨rN ⟨oCl ext nt cal args o⟩⟩
  | _=>⟨rN ⟨oGn P tt ext nt o⟩⟩
noncomputable def oGd (ops:Array Oper) (o:Oper) (call:Cal) (s:St):Option St:=match guardV ops s.L o with
 | some true=>evOp P tt call ext nt o s
 | some false=>match o.dst with
  | some d=>bif Nat.blt d nt then some ⟨(d,.u)::s.L,s.M,s.V,s.nx⟩ else none
  | none=>some s
 | none=>none
def gSt (ops:Array Oper) (j:Nat):Option Nat:=match ops[j]? with
 | some oj=>oj.dst
 | none=>none
noncomputable def gdI (ops:Array Oper) (o:Oper):IOp:=match o.guard with
 | none=>opI P tt ext nt o
 | some (j,w)=>match gSt ops j with
  | some c=>match o.dst with
   | some t=>bif Nat.blt t nt then ⟨rG c w t (opI P tt ext nt o)⟩ else ⟨rN ⟨oGd P tt ext nt ops o⟩⟩
   | none=>⟨rN ⟨oGd P tt ext nt ops o⟩⟩
  | none=>⟨rN ⟨oGd P tt ext nt ops o⟩⟩
noncomputable def gdL (ops:Array Oper):List Oper→List IOp
 | []=>[]
 | o::r=>gdI P tt ext nt ops o::gdL ops r
noncomputable def vl2 (s:St) (op:Op):Option SV:=match (vF tt op).run s.L s.M with
 | some v=>some v
 | none=>vlOf P tt s op
noncomputable def sGo (ops:Array Oper) (o:Oper) (call:Cal) (s:St):Option St:=stepS (clsOf tt) (vl2 P tt) (evOp P tt call ext nt) nt ops o s
noncomputable def stI (ops:Array Oper) (o:Oper):IOp:=match o.guard with
 | none=>bif isVl o.op && !(Nat.beq (clsOf tt o.op) 2) then (match o.dst with
  | some d=>bif Nat.blt d nt then ⟨rD d (readsOf ops o) (Nat.beq (clsOf tt o.op) 0) (vF tt o.op) ⟨sGo P tt ext nt ops o⟩⟩ else ⟨rN ⟨sGo P tt ext nt ops o⟩⟩
  | none=>⟨rN ⟨sGo P tt ext nt ops o⟩⟩) else ⟨rN ⟨sGo P tt ext nt ops o⟩⟩
 | some _=>⟨rN ⟨sGo P tt ext nt ops o⟩⟩
noncomputable def stL (ops:Array Oper):List Oper→List IOp
 | []=>[]
 | o::r=>stI P tt ext nt ops o::stL ops r
def oDd (ops:Array Oper) (call:Cal) (s:St):Option St:=evDrawn P tt call ext nt ops s
noncomputable def longer {α:Type _} (l:List α):Nat→Bool:=List.rec (motive:=fun _=>Nat→Bool) (fun _=>false) (fun _ _ ih n=>Nat.rec (motive:=fun _=>Bool) true (fun m _=>ih m) n) l
noncomputable def lenF {α:Type _} (l:List α):Nat:=List.rec (motive:=fun _=>Nat) 0 (fun _ _ ih=>Nat.succ ih) l
noncomputable def subF {α:Type _} (l:List (Nat × α)):Nat→List (Nat × α):=List.rec (motive:=fun _=>Nat→List (Nat × α)) (fun _=>[]) (fun q _ ih seen=>Bool.rec (motive:=fun _=>List (Nat × α)) (ih seen) (q::ih (Nat.lor seen (Nat.pow 2 q.1))) (Nat.beq (Nat.land 1 (Nat.shiftRight seen q.1)) 0)) l
def cNx (_:Cal) (ih:Kit) (k:List Item) (L:List (Nat × SV)) (M:List (Nat × MO)) (nx m:Nat):Option St:=ih k L M nx m
def cPs (a b:Item) (_:Cal) (ih:Kit) (k:List Item) (L:List (Nat × SV)) (M:List (Nat × MO)) (nx m:Nat):Option St:=ih (a::b::k) L M nx m
def cOn (a:Item) (_:Cal) (ih:Kit) (k:List Item) (L:List (Nat × SV)) (M:List (Nat × MO)) (nx m:Nat):Option St:=ih (a::k) L M nx m
noncomputable def cCd (d:Nat) (x y:Item) (_:Cal) (ih:Kit) (k:List Item) (L:List (Nat × SV)) (M:List (Nat × MO)) (nx m:Nat):Option St :=
 Option.rec (motive:=fun _=>Option St) none (fun t=>Bool.rec (motive:=fun _=>Option St) (ih (y::k) L M nx m) (ih (x::k) L M nx m) t) (asB (lookF L d))
noncomputable def cRg (l:List IOp) (call:Cal) (ih:Kit) (k:List Item) (L:List (Nat × SV)) (M:List (Nat × MO)) (nx m:Nat):Option St:=runL call (fun L M nx=>ih k L M nx m) l L M nx
def cDr (sl:ISl) (call:Cal) (ih:Kit) (k:List Item) (L:List (Nat × SV)) (M:List (Nat × MO)) (nx m:Nat):Option St:=goS (fun L M nx=>ih k L M nx m) (sl.run call ⟨L,M,[],nx⟩)
def cEx (id:Nat) (_:Cal) (ih:Kit) (k:List Item) (L:List (Nat × SV)) (M:List (Nat × MO)) (nx m:Nat):Option St:=match exitTo id k with
 | some k2=>ih k2 L M nx m
 | none=>none
noncomputable def cLo (a b:Item) (nt:Nat) (_:Cal) (ih:Kit) (k:List Item) (L:List (Nat × SV)) (M:List (Nat × MO)) (nx m:Nat):Option St:=match longer M m || longer L (Nat.add nt 30) with
 | true=>ih (a::b::k) (subF L 0) (subF M 0) nx (Nat.add (lenF (subF M 0)) 60)
 | false=>ih (a::b::k) L M nx m
def cRt (_:Cal) (_:Kit) (_:List Item) (L:List (Nat × SV)) (M:List (Nat × MO)) (nx _:Nat):Option St:=some ⟨L,M,[],nx⟩
def cNo (_:Cal) (_:Kit) (_:List Item) (_:List (Nat × SV)) (_:List (Nat × MO)) (_ _:Nat):Option St:=none
noncomputable def coI:Code→ICo
 | .skip=>⟨cNx⟩
 | .label _=>⟨cNx⟩
 | .seq x y=>⟨cPs (.code x) (.code y)⟩
 | .cond (.tmp d) x y=>⟨cCd d (.code x) (.code y)⟩
 | .cond (.const (.bool true)) x _=>⟨cOn (.code x)⟩
 | .cond (.const (.bool false)) _ y=>⟨cOn (.code y)⟩
 | .block id b=>⟨cPs (.code b) (.inBlock id)⟩
 | .exit id=>⟨cEx id⟩
 | .loop b=>⟨cPs (.code b) (.inLoop b)⟩
 | .ret=>⟨cRt⟩
 | .region _ ops false=>⟨cRg (gdL P tt ext nt ops ops.toList)⟩
 | .region _ ops true=>bif stAll (clsOf tt) ops ops.toList [] [] then ⟨cRg (stL P tt ext nt ops ops.toList)⟩ else ⟨cDr ⟨oDd P tt ext nt ops⟩⟩
 | _=>⟨cNo⟩
noncomputable def itI:Item→ICo
 | .inBlock _=>⟨cNx⟩
 | .inLoop c=>⟨cLo (.code c) (.inLoop c) nt⟩
 | .code c=>coI P tt ext nt c
 | _=>⟨cNo⟩
noncomputable def evItF (call:Cal) (fuel:Nat):Kit:=Nat.rec (motive:=fun _=>Kit) (fun _ _ _ _ _=>none) (fun _ ih k L M nx m =>
 List.casesOn (motive:=fun _=>Option St) k (some ⟨L,M,[],nx⟩) fun it k'=>(itI P tt ext nt it).run call ih k' L M nx m) fuel
noncomputable def noFr (M:List (Nat × MO)):Bool:=List.rec (motive:=fun _=>Bool) true (fun q _ ih=>bif q.2.isFresh then false else ih) M
noncomputable def markF (M:List (Nat × MO)):Nat→List Nat→Nat→Nat
 | 0,_,m=>m
 | _+1,[],m=>m
 | n+1,k::r,m=>bif Nat.beq (Nat.land 1 (Nat.shiftRight m k)) 0 then (match lookF M k with
  | some (.box cs _)=>markF M n (lsKeys cs++r) (Nat.lor m (Nat.pow 2 k))
  | some (.arr cs _ _)=>markF M n (lsKeys cs++r) (Nat.lor m (Nat.pow 2 k))
  | _=>markF M n r (Nat.lor m (Nat.pow 2 k))) else markF M n r m
noncomputable def keysB (nx:Nat) (M:List (Nat × MO)):List Nat:=List.rec (motive:=fun _=>List Nat) [] (fun q _ ih=>Bool.rec (motive:=fun _=>List Nat) ih (q.1::ih) (Nat.blt q.1 nx)) M
noncomputable def keepF (nx m:Nat) (M:List (Nat × MO)):List (Nat × MO):=List.rec (motive:=fun _=>List (Nat × MO)) [] (fun q _ ih=>Bool.rec (motive:=fun _=>List (Nat × MO)) (Bool.rec (motive:=fun _=>List (Nat × MO)) (q::ih) ih (Nat.beq (Nat.land 1 (Nat.shiftRight m q.1)) 0)) (q::ih) (Nat.blt q.1 nx)) M
noncomputable def gcF (nx:Nat) (v:SV) (M:List (Nat × MO)):List (Nat × MO):=match subF M 0 with
 | M1=>match markF M1 1000000 (lsKeys (svCs v)++keysB nx M1) 0 with
  | m=>keepF nx m M1
noncomputable def gc2 (n0 nx:Nat) (v:SV) (M:List (Nat × MO)):List (Nat × MO):=bif longer M (Nat.add n0 30) then gcF nx v M else M
end
noncomputable def evCallF (P:Program) (tt:List (Nat × TD)) (ft:FuncId→Option (Func × Code)) (ext:Xt) (T:Cal) (fuel:Nat):Nat→Cal
 | 0=>fun _ _ _ _ _=>none
 | n+1=>fun f args M V nx=>match T f args M V nx with
  | some r=>some r
  | none=>match ft f with
   | some (fn,body)=>bif Nat.ble args.length fn.ntmps && noFr M then
    (match evItF P tt ext fn.ntmps (evCallF P tt ft ext T fuel n) fuel [.code body] (numL 0 args) M nx (Nat.add (lenF M) 60) with
    | some s'=>match resV tt s' fn.results.toList with
     | some v=>bif Nat.ble nx s'.nx then some (v,gc2 (lenF M) nx v s'.M,s'.V,s'.nx) else none
     | none=>none
    | none=>none) else none
   | none=>none
section
variable {X:Ctx} {s s':St} {tt:List (Nat × TD)} {call:Cal} {ext:Xt} {ops:Array Oper} {todo:Act→World→Prop} {K:Kon} {L:List (Nat × SV)} {M:List (Nat × MO)} {nx:Nat}
theorem iv_ok (htt:TTOk X.P tt) {E F w a} (hs:Sat X s E F w a) {o:Oper} {v:SV} (h:(vF tt o.op).run s.L s.M=some v):(execOp a.eval o).run X.P w=.ok (.value (denV E v)) w∧v.kb s.nx:=by
 rcases vF_ok (P:=X.P) h with h | h
 ·exact sval_ok htt hs h
 ·exact xval_ok htt hs h
theorem vl2_ok (htt:TTOk X.P tt):VlOk X (vl2 X.P tt):=by
 refine ⟨fun _ _ _ _ _ _=>rfl,fun s E F w a o v hs h=>?_⟩
 unfold vl2 at h
 split at h
 ·rename_i u hu
  cases h
  exact iv_ok htt hs hu
 ·exact (vlOf_ok htt).2 s E F w a o v hs h
theorem Sat.noV {E F w a} (hs:Sat X s E F w a):Sat X ⟨s.L,s.M,[],s.nx⟩ E F w a:=hs.weaken rfl (fun _ _ h=>h) (fun _ _ h=>h) (fun _ _ h=>nomatch h)
theorem Stp.noV {o:Oper} {s1:St} (h:Stp X o s s1):Stp X o s ⟨s1.L,s1.M,[],s1.nx⟩:=fun E F w a hs =>
 Oper.wp_imp (fun _ _ ⟨E',F',h⟩=>⟨E',F',h.noV⟩) (h E F w a hs)
theorem WP.noV {k:List Item} (h:WP X k ⟨s.L,s.M,[],s.nx⟩):WP X k s:=fun E F w a hs=>h E F w a hs.noV
theorem op1_ok (htt:TTOk X.P tt) (hc:CalOk X.P call) (hx:ExtOk X.P ext) {o:Oper} (h:(opI X.P tt ext X.fn.ntmps o).run call K L M nx=some s') :
  ∃ L1 M1 n1,Stp X o ⟨L,M,[],nx⟩ ⟨L1,M1,[],n1⟩∧K L1 M1 n1=some s':=by
 have hgen:∀ {sl:ISl},(∀ s1,sl.run call ⟨L,M,[],nx⟩=some s1→Stp X o ⟨L,M,[],nx⟩ s1)→goS K (sl.run call ⟨L,M,[],nx⟩)=some s'→∃ L1 M1 n1,Stp X o ⟨L,M,[],nx⟩ ⟨L1,M1,[],n1⟩∧K L1 M1 n1=some s':=fun hsl h=>by
  obtain ⟨s1,h1,h2⟩:=goS_ok h
  exact ⟨_,_,_,(hsl s1 h1).noV,h2⟩
 have hev:∀ s1,(ISl.mk (oGn X.P tt ext X.fn.ntmps o)).run call ⟨L,M,[],nx⟩=some s1→Stp X o ⟨L,M,[],nx⟩ s1:=fun s1 h=>evOp_ok htt hc hx h
 unfold opI at h
 cases hv:isVl o.op with
 | true =>
  rw [hv] at h
  simp only [cond_true] at h
  split at h
  ·rename_i d hd
   cases hb:Nat.blt d X.fn.ntmps with
   | false=>rw [hb] at h;exact hgen hev h
   | true =>
    rw [hb] at h
    simp only [cond_true,rV] at h
    cases hv:(vF tt o.op).run L M with
    | some v =>
     rw [hv] at h
     refine ⟨_,_,_,Stp.val (v:=v) (fun E F w a hs=>iv_ok htt hs hv) ?_,h⟩
     unfold setd
     rw [hd]
     simp only [hb,cond_true]
    | none=>rw [hv] at h;exact hgen hev h
  ·exact hgen hev h
 | false =>
  rw [hv] at h
  simp only [cond_false] at h
  split at h
  ·rename_i ho
   exact hgen (fun s1 h1=>xeCall_ok hc hx ho h1) h
  ·exact hgen hev h
theorem gV_ok {j c:Nat} {w b:Bool} {o:Oper} (hg:o.guard=some (j,w)) (hc:gSt ops j=some c) (h:gV w (lookF L c)=some b):guardV ops L o=some b:=by
 rw [lookF_eq] at h
 unfold gSt at hc
 split at hc
 ·rename_i oj hoj
  unfold guardV
  simp only [hg,hoj,hc]
  unfold gV at h
  split at h
  ·rename_i t ht
   rw [ht]
   cases t<;>exact h
  ·rename_i ht;rw [ht];exact h
  ·cases h
 ·cases hc
theorem runL_cons {o:IOp} {l:List IOp}:runL call K (o::l) L M nx=o.run call (runL call K l) L M nx:=rfl
theorem runG_ok (htt:TTOk X.P tt) (hc:CalOk X.P call) (hx:ExtOk X.P ext) (hk:∀ L M nx,K L M nx=some s'→WPr X ops [] todo ⟨L,M,[],nx⟩):∀ (l:List Oper) (i:Nat) {L:List (Nat × SV)} {M:List (Nat × MO)} {nx:Nat},ops.toList.drop i=l →
  runL call K (gdL X.P tt ext X.fn.ntmps ops l) L M nx=some s'→WPr X ops (List.range' i l.length) todo ⟨L,M,[],nx⟩
 | [],i,L,M,nx,_,h=>hk _ _ _ h
 | o::r,i,L,M,nx,hl,h=>by
  have ho:ops[i]? = some o:=by
   have:=congrArg (fun z=>z[0]?) hl
   simpa using this
  have hr:ops.toList.drop (i+1)=r:=by
   rw [← List.drop_drop,hl];rfl
  show WPr X ops (List.range' i (r.length+1)) todo _
  rw [List.range'_succ]
  unfold gdL at h
  rw [runL_cons] at h
  have ih:=fun {L M nx}=>runG_ok htt hc hx hk r (i+1) (L:=L) (M:=M) (nx:=nx) hr
  have hgen:goS (runL call K (gdL X.P tt ext X.fn.ntmps ops r)) (oGd X.P tt ext X.fn.ntmps ops o call ⟨L,M,[],nx⟩)=some s'→WPr X ops (i::List.range' (i+1) r.length) todo ⟨L,M,[],nx⟩:=fun h=>by
   obtain ⟨s1,h1,h2⟩:=goS_ok h
   unfold oGd at h1
   split at h1
   ·rename_i hg
    exact WPr.op ho hg (evOp_ok htt hc hx h1).noV (ih h2)
   ·rename_i hg
    split at h1
    ·rename_i d hd
     cases hb:Nat.blt d X.fn.ntmps with
     | false=>rw [hb] at h1;cases h1
     | true =>
      rw [hb] at h1;cases h1
      exact WPr.skip ho hg hd (blt_lt hb) (ih h2)
    ·rename_i hd
     cases h1
     exact WPr.skip0 ho hg hd (ih h2)
   ·cases h1
  unfold gdI at h
  split at h
  ·rename_i hg
   obtain ⟨L1,M1,n1,hst,h2⟩:=op1_ok htt hc hx h
   exact WPr.op ho (by unfold guardV;rw [hg]) hst (ih h2)
  ·rename_i j w hg
   split at h
   ·rename_i c hcc
    split at h
    ·rename_i t hd
     cases hb:Nat.blt t X.fn.ntmps with
     | false=>rw [hb] at h;exact hgen h
     | true =>
      rw [hb] at h
      simp only [cond_true,rG] at h
      cases hgv:gV w (lookF L c) with
      | none=>rw [hgv] at h;cases h
      | some b =>
       rw [hgv] at h
       have hgv:=gV_ok hg hcc hgv
       cases b with
       | true =>
        obtain ⟨L1,M1,n1,hst,h2⟩:=op1_ok htt hc hx h
        exact WPr.op ho hgv hst (ih h2)
       | false=>exact WPr.skip ho hgv hd (blt_lt hb) (ih h)
    ·exact hgen h
   ·exact hgen h
theorem stI_ok {o:Oper} (h:(stI X.P tt ext X.fn.ntmps ops o).run call K L M nx=some s'):∃ dl L1 M1 n1,SR (clsOf tt) (vl2 X.P tt) (evOp X.P tt call ext X.fn.ntmps) X.fn.ntmps ops o ⟨L,M,[],nx⟩ dl ⟨L1,M1,[],n1⟩∧K L1 M1 n1=some s':=by
 have hgen:goS K (sGo X.P tt ext X.fn.ntmps ops o call ⟨L,M,[],nx⟩)=some s'→∃ dl L1 M1 n1,SR (clsOf tt) (vl2 X.P tt) (evOp X.P tt call ext X.fn.ntmps) X.fn.ntmps ops o ⟨L,M,[],nx⟩ dl ⟨L1,M1,[],n1⟩∧K L1 M1 n1=some s':=fun h=>by
  obtain ⟨s1,h1,h2⟩:=goS_ok h
  obtain ⟨dl,hd⟩:=stepS_ok h1
  obtain ⟨L1,M1,V1,n1⟩:=s1
  have:V1=[]:=hd.2.1
  subst this
  exact ⟨dl,_,_,_,hd,h2⟩
 unfold stI at h
 split at h
 ·rename_i hg
  cases hv:(isVl o.op && !(Nat.beq (clsOf tt o.op) 2)) with
  | false=>rw [hv] at h;exact hgen h
  | true =>
   rw [hv] at h
   simp only [cond_true] at h
   split at h
   ·rename_i d hd
    cases hb:Nat.blt d X.fn.ntmps with
    | false=>rw [hb] at h;exact hgen h
    | true =>
     rw [hb] at h
     simp only [cond_true,rD] at h
     rw [pickF_eq] at h
     rw [show (Bool.rec (motive:=fun _=>List (Nat × MO)) M [] (Nat.beq (clsOf tt o.op) 0))=(bif Nat.beq (clsOf tt o.op) 0 then [] else M) by cases Nat.beq (clsOf tt o.op) 0<;>rfl] at h
     cases hval:(vF tt o.op).run (pickL L (readsOf ops o)) (bif Nat.beq (clsOf tt o.op) 0 then [] else M) with
     | some v =>
      rw [hval] at h
      rw [Bool.and_eq_true,Bool.not_eq_true'] at hv
      refine ⟨[(d,v)],_,_,_,⟨rfl,rfl,by rw [hd];rfl,_,fun d v=>pickL_ok,.inr (.inl ⟨by unfold guardV;rw [hg],fun e=>?_,rfl,rfl,d,v,hd,blt_lt hb,rfl,?_⟩)⟩,h⟩
      ·rw [e] at hv;exact absurd hv.2 (by decide)
      ·unfold vl2
       simp only [hval]
     | none=>rw [hval] at h;exact hgen h
   ·exact hgen h
 ·exact hgen h
theorem runS_ok:∀ {l:List Oper} {L:List (Nat × SV)} {M:List (Nat × MO)} {nx:Nat},runL call K (stL X.P tt ext X.fn.ntmps ops l) L M nx=some s' →
  ∃ (sT:Nat→St) (dlf:Nat→List (Nat × SV)) (L1:List (Nat × SV)) (M1:List (Nat × MO)) (n1:Nat),sT 0=⟨L,M,[],nx⟩∧sT l.length=⟨L1,M1,[],n1⟩ ∧
   (∀ i o,l[i]? = some o→SR (clsOf tt) (vl2 X.P tt) (evOp X.P tt call ext X.fn.ntmps) X.fn.ntmps ops o (sT i) (dlf i) (sT (i+1)))∧K L1 M1 n1=some s'
 | [],L,M,nx,h=>⟨fun _=>⟨L,M,[],nx⟩,fun _=>[],L,M,nx,rfl,rfl,fun i o h=>by simp at h,h⟩
 | o::r,L,M,nx,h=>by
  unfold stL at h
  rw [runL_cons] at h
  obtain ⟨dl,L1,M1,n1,hd,h1⟩:=stI_ok h
  obtain ⟨sT,dlf,L2,M2,n2,e0,e1,hT,h2⟩:=runS_ok h1
  refine ⟨fun | 0=>⟨L,M,[],nx⟩ | i+1=>sT i,fun | 0=>dl | i+1=>dlf i,L2,M2,n2,rfl,e1,fun i o' ho=>?_,h2⟩
  cases i with
  | zero=>simp at ho;subst ho;show SR _ _ _ _ ops o _ dl (sT 0);rw [e0];exact hd
  | succ i=>exact hT i o' (by simpa using ho)
theorem cDs_ok (htt:TTOk X.P tt) (hc:CalOk X.P call) (hx:ExtOk X.P ext) (hm:X.P.follows .mixedOrders=true) {id:Nat} {k':List Item} (hst:stAll (clsOf tt) ops ops.toList [] []=true)
  (h:runL call K (stL X.P tt ext X.fn.ntmps ops ops.toList) L M nx=some s') (hk:∀ L M nx,K L M nx=some s'→WP X k' ⟨L,M,[],nx⟩):WP X (.code (.region id ops true)::k') ⟨L,M,[],nx⟩:=by
 intro E F w a hs
 obtain ⟨sT,dlf,L1,M1,n1,e0,e1,hT,h2⟩:=runS_ok h
 have k:=hk _ _ _ h2
 have e1:sT ops.size=⟨L1,M1,[],n1⟩:=by rw [← e1,Array.length_toList]
 refine runs_of_wp (wp_region_any hm ?_)
 have hs':Sat X ⟨L,M,[],nx⟩ E F { w with drawn:=w.drawn+1 } a:=hs.world rfl rfl rfl (Nat.le_refl _) fun _ _=>rfl
 have hf:∀ j,(Array.replicate ops.size false).getD j false=false:=fun j=>by
  by_cases h:j < ops.size<;>simp [h]
 refine regionS_aux (todo:=rk X k') (vl2_ok htt) (fun nk E0 F0 w0 n0 Z o s s' h=>evOp_ok (X:=X.var nk E0 F0 w0 n0 Z) htt hc hx h) (StOk.of hst) (fun i o ho=>hT i o (by simpa using ho)) e0 (fun E F w a hs=>k E F w a (by rw [e1] at hs;exact hs)) ops.size _ E F _ a (by simp)
  (fun i _ hi=>by rw [hf] at hi;cases hi) (cnt_false fun j _=>hf j) ?_
 have hz:mxF (clsOf tt) ops (fun _=>false) ops.size=0:=by
  have:∀ n,mxF (clsOf tt) ops (fun _=>false) n=0:=fun n=>by
   induction n with
   | zero=>rfl
   | succ n ih=>simp [mxF,ih]
  exact this _
 have:sD (clsOf tt) ops ⟨L,M,[],nx⟩ sT dlf (fun j=>(Array.replicate ops.size false).getD j false)=⟨L,M,[],nx⟩:=by
  unfold sD
  rw [show (fun j=>(Array.replicate ops.size false).getD j false)=fun _=>false from funext hf,gath_false,hz,e0]
 rw [this]
 exact hs'
theorem subF_look {α:Type _}:∀ {l:List (Nat × α)} {seen k:Nat} {v:α},look (subF l seen) k=some v→look l k=some v∧Nat.testBit seen k=false
 | [],_,_,_,h=>by cases h
 | (j,u)::r,seen,k,v,h=>by
  have hb0:Nat.beq (Nat.land 1 (Nat.shiftRight seen j)) 0 = !(Nat.testBit seen j):=by
   have e1:Nat.testBit seen j=(Nat.land 1 (Nat.shiftRight seen j) != 0):=rfl
   rw [e1]
   generalize Nat.land 1 (Nat.shiftRight seen j)=z
   cases z with
   | zero=>rfl
   | succ z=>rfl
  have h:look (Bool.rec (motive:=fun _=>List (Nat × α)) (subF r seen) ((j,u)::subF r (Nat.lor seen (Nat.pow 2 j))) (Nat.beq (Nat.land 1 (Nat.shiftRight seen j)) 0)) k=some v:=h
  rw [hb0] at h
  cases hb:Nat.testBit seen j with
  | false =>
   rw [hb] at h
   have h:look ((j,u)::subF r (Nat.lor seen (Nat.pow 2 j))) k=some v:=h
   rw [look_cons] at h ⊢
   split at h
   ·rename_i e;cases h;subst e;simp [hb]
   ·rename_i e
    obtain ⟨h1,h2⟩:=subF_look h
    have h2':Nat.testBit (seen ||| 2 ^ j) k=false:=h2
    rw [Nat.testBit_or,Bool.or_eq_false_iff] at h2'
    rw [if_neg e]
    exact ⟨h1,h2'.1⟩
  | true =>
   rw [hb] at h
   have h:look (subF r seen) k=some v:=h
   obtain ⟨h1,h2⟩:=subF_look h
   rw [look_cons]
   have:j≠k:=fun e=>by subst e;rw [h2] at hb;cases hb
   rw [if_neg this]
   exact ⟨h1,h2⟩
theorem evItF_ok (htt:TTOk X.P tt) (hc:CalOk X.P call) (hx:ExtOk X.P ext) (hm:X.P.follows .mixedOrders=true) (h1:∀ k',WP X (.code .ret::k') s') (h0:WP X [] s') :
  ∀ (n:Nat) {k:List Item} {L:List (Nat × SV)} {M:List (Nat × MO)} {nx m:Nat},evItF X.P tt ext X.fn.ntmps call n k L M nx m=some s'→WP X k ⟨L,M,[],nx⟩:=by
 intro n
 induction n with
 | zero=>intro k L M nx m h;cases h
 | succ n ih =>
  intro k L M nx m h
  cases k with
  | nil=>cases h;exact h0
  | cons it k' =>
   replace h:(itI X.P tt ext X.fn.ntmps it).run call (evItF X.P tt ext X.fn.ntmps call n) k' L M nx m=some s':=h
   unfold itI at h
   split at h
   ·exact WP.inBlock (ih h)
   ·simp only [cLo] at h
    split at h
    ·refine WP.inLoop fun E F w a hs=>ih h E F w a (hs.weaken rfl (fun _ _ h=>(subF_look h).1) (fun _ _ h=>(subF_look h).1) (fun _ _ h=>h))
    ·exact WP.inLoop (ih h)
   ·unfold coI at h
    split at h
    ·exact WP.skip (ih h)
    ·exact WP.label (ih h)
    ·exact WP.seq (ih h)
    ·simp only [cCd] at h
     rename_i d x y
     cases ht:asB (lookF L d) with
     | none=>rw [ht] at h;cases h
     | some t =>
      rw [ht] at h
      rw [lookF_eq] at ht
      cases t with
      | true=>exact WP.condT rfl (asB_ok ht) (ih h)
      | false=>exact WP.condF rfl (asB_ok ht) (ih h)
    ·exact WP.condCT (ih h)
    ·exact WP.condCF (ih h)
    ·exact WP.block (ih h)
    ·simp only [cEx] at h
     split at h
     ·rename_i k2 he;exact WP.exit he (ih h)
     ·cases h
    ·exact WP.loop (ih h)
    ·cases h;exact h1 _
    ·rename_i ops
     refine WP.region ?_
     have:=runG_ok (todo:=rk X k') (ops:=ops) htt hc hx (fun L M nx hK=>WPr.nil (ih hK)) ops.toList 0 rfl h
     rw [Array.length_toList,← List.range_eq_range'] at this
     exact this
    ·rename_i ops
     cases hst:stAll (clsOf tt) ops ops.toList [] [] with
     | true =>
      rw [hst] at h
      exact cDs_ok htt hc hx hm hst h fun L M nx hK=>ih hK
     | false =>
      rw [hst] at h
      obtain ⟨s1,h1',h2⟩:=goS_ok h
      exact evDrawn_ok htt hc hx hm h1' (WP.noV (ih h2))
    ·cases h
   ·cases h
theorem keepF_ok {nx m:Nat} {p:Nat→Bool} (hp:∀ k,p k=(Nat.blt k nx || !(Nat.beq (Nat.land 1 (Nat.shiftRight m k)) 0))):∀ M:List (Nat × MO),keepF nx m M=M.filter fun q=>p q.1
 | []=>rfl
 | q::r=>by
  rw [List.filter_cons,← keepF_ok hp r,hp]
  show (Bool.rec (motive:=fun _=>List (Nat × MO)) (Bool.rec (motive:=fun _=>List (Nat × MO)) (q::keepF nx m r) (keepF nx m r) (Nat.beq (Nat.land 1 (Nat.shiftRight m q.1)) 0)) (q::keepF nx m r) (Nat.blt q.1 nx))=_
  cases Nat.blt q.1 nx<;>cases Nat.beq (Nat.land 1 (Nat.shiftRight m q.1)) 0<;>rfl
theorem gc2_look {n0 nx:Nat} {v:SV} {M:List (Nat × MO)} {k:Nat} {m:MO} (h:look (gc2 n0 nx v M) k=some m):look M k=some m:=by
 unfold gc2 at h
 cases hb:longer M (Nat.add n0 30) with
 | true =>
  rw [hb] at h
  simp only [cond_true,gcF] at h
  rw [keepF_ok (fun _=>rfl),look_filter (p:=fun k=>Nat.blt k nx || !(Nat.beq (Nat.land 1 (Nat.shiftRight _ k)) 0))] at h
  generalize (Nat.blt k nx || !(Nat.beq (Nat.land 1 (Nat.shiftRight (markF (subF M 0) 1000000 (lsKeys (svCs v)++keysB nx (subF M 0)) 0) k)) 0))=b at h
  cases b with
  | true=>exact (subF_look h).1
  | false=>cases h
 | false=>rw [hb] at h;exact h
theorem noFr_eq:∀ M:List (Nat × MO),noFr M=M.all fun q => !q.2.isFresh
 | []=>rfl
 | q::r=>by
  show (bif q.2.isFresh then false else noFr r)=_
  rw [noFr_eq r,List.all_cons]
  cases q.2.isFresh<;>rfl
end
theorem evCallF_ok {P:Program} {tt:List (Nat × TD)} {ft:FuncId→Option (Func × Code)} {ext:Xt} {T:Cal} (hT:CalOk P T) (htt:TTOk P tt) (hft:FtOk P ft) (hx:ExtOk P ext) (hm:P.follows .mixedOrders=true) (fuel:Nat) :
  ∀ n,CalOk P (evCallF P tt ft ext T fuel n):=by
 intro n
 induction n with
 | zero=>intro f args M V nx v M' V' nx' h;cases h
 | succ n ih =>
  intro f args M V nx v M' V' nx' h
  unfold evCallF at h
  split at h
  ·rename_i r hr
   cases h
   exact hT _ _ _ _ _ _ _ _ _ hr
  split at h
  ·rename_i fn body hf
   obtain ⟨hpf,hpb,hpn⟩:=hft _ _ _ hf
   cases hb:(Nat.ble args.length fn.ntmps && noFr M) with
   | false=>rw [hb] at h;cases h
   | true =>
    rw [hb] at h
    simp only [cond_true] at h
    rw [Bool.and_eq_true,noFr_eq] at hb
    split at h
    ·rename_i s1 hs1
     split at h
     ·rename_i v1 hv1
      cases hle:Nat.ble nx s1.nx with
      | false=>rw [hle] at h;cases h
      | true =>
       rw [hle] at h
       simp only [cond_true,Option.some.injEq,Prod.mk.injEq] at h
       obtain ⟨rfl,rfl,rfl,rfl⟩:=h
       refine ⟨⟨fn,hpf,hpn,by rw [hpb];rfl⟩,fun E F w hwf hp=>?_⟩
       intro cs
       let X:Ctx:={ (ctOf args M V nx v1 (gc2 (lenF M) nx v1 s1.M) s1.V s1.nx).ctx P f fn E F w with
        post:=fun v w'=>∃ E' F',v=denV E' v1∧(ctOf args M V nx v1 (gc2 (lenF M) nx v1 s1.M) s1.V s1.nx).Post E F w E' F' w'∧St.Wf ⟨[(0,v1)],gc2 (lenF M) nx v1 s1.M,s1.V,s1.nx⟩∧nx≤s1.nx }
       let b:Frame:={ (default:Frame) with fn:=f,kind:=.normal }
       let a:Act:={ tmps:=(args.map (denV E)).toArray++Array.replicate (fn.ntmps-(args.map (denV E)).toArray.size) undef,defers:=[] }
       have henter:Frame.enter P f (args.map (denV E)).toArray .normal=b.at a [.code body]:=by
        simp [Frame.enter,Frame.at,hpf,hpb,b,a]
       have hle':=Nat.le_of_ble_eq_true hb.1
       have hs:Sat X ⟨numL 0 args,M,V,nx⟩ E F w a:={
        wf:=hwf
        nk:=Nat.le_refl _
        defers:=rfl
        size:=by show (_++_:Array Value).size=fn.ntmps;simp;omega
        hL:=fun d v hl=>by
         obtain ⟨i,rfl,hi⟩:=look_numL _ _ _ _ hl
         show (_++_:Array Value)[0+i]? = _
         have hlt:i < args.length:=(List.getElem?_eq_some_iff.1 hi).1
         rw [Nat.zero_add,Array.getElem?_append_left (by simpa using hlt)]
         simp [hi]
        hV:=hp.V
        hM:=hp.M
        dis:=hp.dis
        mF:=fun k m hm b' hb'=>⟨(hp.mF k m hm b' hb').1,fun hz=>hz.2 ⟨k,m,hm,hb'⟩,(hp.mF k m hm b' hb').2⟩
        fresh:=fun k m hm hfr=>by
         have:=List.all_eq_true.1 hb.2 _ (look_mem hm)
         simp [hfr] at this
        hF:=hp.hF
        hF0:=fun _ h=>h
        hF1:=fun _ h=>.inl h
        hn0:=Nat.le_refl _
        hZ:=fun b' hz=>hz.1
        ext:=Ext.refl _ _
        link:=Env.Eqb.refl _ _
        one:=hp.one }
       have hpost:∀ E' F' w' a',Sat X s1 E' F' w' a'→X.post (denV E' v1) w':=fun E' F' w' a' hs'=>by
        have hvk:v1.kb s1.nx:=resV_kb (X:=X) hs' hv1
        refine ⟨E',F',rfl,?_,⟨fun d u hd=>?_,fun k m hk=>hs'.wf.hM k m (gc2_look hk),hs'.wf.hV⟩,Nat.le_of_ble_eq_true hle⟩
        ·exact {
          env:=hs'.link
          one:=hs'.one
          V:=hs'.hV
          M:=fun k m hk=>hs'.hM k m (gc2_look hk)
          dis:=fun k k' m m' hk hk'=>hs'.dis k k' m m' (gc2_look hk) (gc2_look hk')
          mF:=fun k m hk b hb=>by
           have:=hs'.mF k m (gc2_look hk) b hb
           refine ⟨this.1,this.2.2,?_⟩
           by_cases hz:b < w.heap.size
           ·left
            exact Classical.byContradiction fun hnz=>this.2.1 ⟨hz,hnz⟩
           ·exact .inr (Nat.not_lt.1 hz)
          fresh:=fun k m hk hf b hb=>hs'.fresh k m (gc2_look hk) hf b hb
          F0:=hs'.hF0
          F1:=fun b hb=>(hs'.hF1 b hb).imp id And.left
          Fs:=hs'.hF
          ext:=hs'.ext }
        ·rw [look_cons] at hd
         split at hd
         ·cases hd;exact hvk
         ·cases hd
       have hw:=evItF_ok (X:=X) htt ih hx hm (s':=s1) (fun k' E' F' w' a' hs'=>runs_ret hpf (resV_ok (X:=X) htt hs' hv1) hs'.defers (hpost E' F' w' a' hs'))
        (fun E' F' w' a' hs'=>runs_end hpf (resV_ok (X:=X) htt hs' hv1) hs'.defers (hpost E' F' w' a' hs')) fuel hs1
       obtain ⟨v,w',fr,hR,hst,hfn,hl⟩:=hw E F w a hs.noV b cs rfl rfl
       rw [← henter] at hst
       obtain ⟨E',F',hv,hpost⟩:=hR
       exact ⟨.returned v,w',fr,⟨E',F',by rw [hv],hpost⟩,hst,hfn,hl⟩
     ·cases h
    ·cases h
  ·cases h
end Go.Kx
end
section
namespace Go.Kx
structure Sm where
 f:Nat
 args:List SV
 M:List (Nat × MO)
 nx:Nat
 v:SV
 M1:List (Nat × MO)
 n1:Nat
def argsEq:List SV→List SV→Bool
 | [],[]=>true
 | x::xs,y::ys=>svEq x y && argsEq xs ys
 | _,_=>false
theorem argsEq_ok:∀ {xs ys:List SV},argsEq xs ys=true→xs=ys
 | [],[],_=>rfl
 | x::xs,y::ys,h=>by
  simp only [argsEq,Bool.and_eq_true] at h
  rw [svEq_ok h.1,argsEq_ok h.2]
 | [],_::_,h=>by cases h
 | _::_,[],h=>by cases h
noncomputable def memIn (M:List (Nat × MO)):List (Nat × MO)→Bool
 | []=>true
 | (k,m)::r=>moEqO (lookF M k) m && memIn M r
theorem memIn_ok {M:List (Nat × MO)}:∀ {N:List (Nat × MO)},memIn M N=true→∀ k m,look N k=some m→look M k=some m
 | [],_,k,m,h=>by cases h
 | (j,u)::r,h,k,m,hk=>by
  simp only [memIn,Bool.and_eq_true] at h
  rw [look_cons] at hk
  split at hk
  ·rename_i e;cases hk;subst e
   rw [← lookF_eq];exact moEqO_ok h.1
  ·exact memIn_ok h.2 k m hk
def noC:Cal:=fun _ _ _ _ _=>none
theorem noC_ok {P:Program}:CalOk P noC:=fun _ _ _ _ _ _ _ _ _ h=>nomatch h
noncomputable def smC (e:Sm) (rest:Cal):Cal:=fun f args M V nx=>bif Nat.beq f e.f && Nat.beq nx e.nx && argsEq args e.args && memIn M e.M then some (e.v,e.M1,[],e.n1) else rest f args M V nx
noncomputable def smB (call:Cal) (e:Sm):Bool:=match call e.f e.args e.M [] e.nx with
 | some (v,M1,_,n1)=>svEq v e.v && memIn M1 e.M1 && Nat.beq n1 e.n1
 | none=>false
theorem smC_ok {P:Program} {call rest:Cal} {e:Sm} (hc:CalOk P call) (hb:smB call e=true) (hr:CalOk P rest):CalOk P (smC e rest):=by
 intro f args M V nx v M' V' nx' h
 unfold smC at h
 cases hq:(Nat.beq f e.f && Nat.beq nx e.nx && argsEq args e.args && memIn M e.M) with
 | false=>rw [hq] at h;exact hr _ _ _ _ _ _ _ _ _ h
 | true =>
  rw [hq] at h
  simp only [cond_true,Option.some.injEq,Prod.mk.injEq] at h
  obtain ⟨rfl,rfl,rfl,rfl⟩:=h
  simp only [Bool.and_eq_true] at hq
  obtain ⟨⟨⟨q1,q2⟩,q3⟩,q4⟩:=hq
  have q1:=Nat.eq_of_beq_eq_true q1
  have q2:=Nat.eq_of_beq_eq_true q2
  have q3:=argsEq_ok q3
  have q4:=memIn_ok q4
  subst q1 q2 q3
  unfold smB at hb
  split at hb
  ·rename_i v1 M1 V1 n1 he
   simp only [Bool.and_eq_true] at hb
   obtain ⟨⟨b1,b2⟩,b3⟩:=hb
   have b1:=svEq_ok b1
   have b2:=memIn_ok b2
   have b3:=Nat.eq_of_beq_eq_true b3
   subst b1 b3
   obtain ⟨hcb,hcs⟩:=hc _ _ _ _ _ _ _ _ _ he
   refine ⟨hcb,fun E F w hwf hp=>?_⟩
   refine (hcs E F w ⟨hwf.hL,fun k m hk=>hwf.hM k m (q4 k m hk),fun k f hk=>(nomatch hk)⟩
    ⟨hp.one,hp.hF,fun k f hk=>(nomatch hk),fun k m hk=>hp.M k m (q4 k m hk),fun k k' m m' hk hk'=>hp.dis k k' m m' (q4 k m hk) (q4 k' m' hk'),fun k m hk=>hp.mF k m (q4 k m hk)⟩).mono ?_
   rintro ex w' ⟨E',F',rfl,hq,hwf',hle⟩
   have hfp:∀ b,(ctOf e.args e.M [] e.nx e.v M1 V1 e.n1).fp0 E b→(ctOf e.args M V e.nx e.v e.M1 [] e.n1).fp0 E b:=fun b ⟨k,m,hk,hb⟩=>⟨k,m,q4 k m hk,hb⟩
   refine ⟨E',F',rfl,?_,⟨hwf'.hL,fun k m hk=>hwf'.hM k m (b2 k m hk),fun k f hk=>(nomatch hk)⟩,hle⟩
   exact {
    env:=hq.env
    one:=hq.one
    V:=fun k f hk=>(nomatch hk)
    M:=fun k m hk=>hq.M k m (b2 k m hk)
    dis:=fun k k' m m' hk hk'=>hq.dis k k' m m' (b2 k m hk) (b2 k' m' hk')
    mF:=fun k m hk b hb=>by
     obtain ⟨h1,h2,h3⟩:=hq.mF k m (b2 k m hk) b hb
     exact ⟨h1,h2,h3.imp (hfp b) id⟩
    fresh:=fun k m hk=>hq.fresh k m (b2 k m hk)
    F0:=hq.F0
    F1:=hq.F1
    Fs:=hq.Fs
    ext:=hq.ext.mono fun b hz=>⟨hz.1,fun hn=>hz.2 (hfp b hn)⟩ }
  ·cases hb
end Go.Kx
end
