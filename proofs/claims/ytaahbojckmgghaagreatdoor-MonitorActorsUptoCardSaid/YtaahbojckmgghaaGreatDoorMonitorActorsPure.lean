/- What each function of the statement computes, as plain definitions. -/
import Derived.Test.YtaahbojckmgghaaGreatDoorMonitorActorsCore3
set_option linter.all false
section
open Go Go.Kx
namespace Gx
structure Yg where
  Kind:Int
  Lo:Int
  Hi:Int
structure T4 where
  Name:ByteArray
  Sort':Yg
structure T1 where
  X:Int
  Y:Int
  C:Int
structure T6 where
  Diffs:(List T1)
  Equals:(List (Int × Int))
structure T0 where
  Name:ByteArray
  Fields:(List T4)
  First:Int
  Guard:T6
structure T7 where
  From:Int
  To:Int
  Label:Int
structure T2 where
  From:Int
  Act:T7
  To:Int
  Again:Bool
structure W5 where
  State:Int
  Ticks:Int
  Else:Int
structure T5 where
  Name:ByteArray
  Roles:(List ByteArray)
  Decls:(List T0)
  States:Int
  Start:Int
  End:Int
  Edges:(List T2)
  Timeouts:(List W5)
structure T9 where
  From:Int
  Send:Bool
  Peer:Int
  Label:Int
  To:Int
  Again:Bool
structure T8 where
  Role:Int
  States:Int
  Start:Int
  Finals:(List Bool)
  Moves:(List T9)
  Timeouts:(List W5)
structure Zk where
  Kind:Int
  N:Int
  S:ByteArray
structure T3 where
  Role:Int
  Send:Bool
  Peer:Int
  Label:Int
  Values:(List Zk)
structure ZM where
  At:Int
  Known:(List Zk)
  Pending:(List Zk)
structure YF where
  Machine:T8
  out':(List (List Int))
structure SB where
  send':Bool
  peer':Int
  label':Int
structure Tf where
  Name:ByteArray
  Sort':Yg
  Init:Zk
structure L9 where
  Peer:Int
  Label:Int
  Entry:Int
structure U2 where
  Peer:Int
  Label:Int
  When:Int
  Args:Int
structure Wy where
  Op:Int
  N:Int
  S:ByteArray
structure Z6 where
  Name:ByteArray
  Role:Int
  Vars:(List Tf)
  Handlers:(List L9)
  Offers:(List U2)
  Code:(List Wy)
structure Z7 where
  G:T5
  M:T8
  P:Z6
structure XA where
  Send:Bool
  Waited:Int
  Pick:Int
  Values:(List Zk)
structure YI where
  At:Int
  Label:Int
  Params:(List Int)
  Results:(List Int)
structure Yq where
  known':Bool
  stack':(List Int)
  loops':(List Int)
structure ZS where
  State:Int
  Known:(List Zk)
  Vars:(List Zk)
  Pending:(List Zk)
structure X8 where
  Stack:(List Zk)
  Vars:(List Zk)
  Steps:Int
structure Yh where
  stack':(List Zk)
  vars':(List Zk)
  params':(List Zk)
  loops':(List Int)
  trap':Bool
structure ZU where
  N:Int
  B:(List Int)
def z17 (N:Nat):Option (T5 × T8) :=
 some ((⟨(str [80]),([(str [97]),(str [98]),(str [99])]:List ByteArray),([(⟨(str [109]),([(⟨(str [110]),(⟨1,0,9⟩:Yg)⟩:T4)]:List T4),0,(⟨([]:List T1),([]:List (Int × Int))⟩:T6)⟩:T0)]:List T0),3,0,2,([(⟨0,(⟨0,1,0⟩:T7),1,false⟩:T2),(⟨1,(⟨0,2,0⟩:T7),2,true⟩:T2)]:List T2),([]:List W5)⟩:T5),(⟨0,3,0,([false,false,true]:List Bool),([(⟨0,true,1,0,1,false⟩:T9),(⟨1,true,2,0,2,true⟩:T9)]:List T9),([]:List W5)⟩:T8))
def Qd (N:Nat) (a:Int):Option Zk :=
 some (⟨1,a,(str [])⟩:Zk)
def z18 (N:Nat) (a:Int) (b:Int):Option (List T3) :=
 (Qd N a).bind fun c =>
 (Qd N b).bind fun d =>
 some ([(⟨0,true,1,0,([c]:List Zk)⟩:T3),(⟨0,true,2,0,([d]:List Zk)⟩:T3)]:List T3)
def MY (N:Nat) (a:Int):Option Bool :=
 bif (decide (97≤a)) then (bif (decide (a≤122)) then (some true)
 else bif (decide (65≤a)) then (some (decide (a≤90)))
 else some false)
 else bif (decide (65≤a)) then (some (decide (a≤90)))
 else some false
def ZaB (N:Nat) (a:Int):Option Bool :=
 bif (decide (48≤a)) then (some (decide (a≤57)))
 else some false
def GL (N:Nat) (a:Int):Option Bool :=
 (MY N a).bind fun b =>
 bif b then (some true)
 else (ZaB N a).bind fun c =>
 bif c then (some true)
 else some (a==95)
def G2:Option Bool :=
 some true
def Tq (N:Nat) (a:ByteArray):Nat→Int→Option Bool
 | 0,_=>none
 | b+1,c =>
 bif (decide (c < (a.size:Int))) then ((Xq a c).bind fun d =>
 (GL N d).bind fun e =>
 bif (!e) then (some false)
 else (Tq N a b) (Zi (c+1)))
 else G2
def Dg (N:Nat) (a:ByteArray):Option Bool :=
 bif (a.toList==(str []).toList) then (some false)
 else bif (decide ((a.size:Int) > 16)) then (some false)
 else (Xq a 0).bind fun b =>
 (MY N b).bind fun c =>
 bif (!c) then (some false)
 else Tq N a N 0
def BI:Option Int :=
 some (-1)
def Ro (a:(List ByteArray)) (b:ByteArray):Nat→Int→Option Int
 | 0,_=>none
 | c+1,d =>
 bif (decide (d < (a.length:Int))) then ((Zm a d).bind fun e =>
 bif (b.toList==e.toList) then (some d)
 else (Ro a b c) (Zi (d+1)))
 else BI
def DC (N:Nat) (a:(List ByteArray)) (b:ByteArray):Option Int :=
 Ro a b N 0
def MN (N:Nat) (a:(List ByteArray)) (b:ByteArray):Option Bool :=
 (DC N a b).bind fun c =>
 some (decide (c≥0))
def QL (N:Nat) (a:ByteArray):Option Bool :=
 (Dg N a).bind fun b =>
 bif b then ((MN N ([(str [97,103,97,105,110]),(str [97,110,100]),(str [97,115]),(str [97,116]),(str [99,97,108,108]),(str [99,104,111,105,99,101]),(str [101,108,115,101]),(str [102,114,111,109]),(str [105,102]),(str [105,110,116]),(str [108,101,110]),(str [108,111,111,112]),(str [109,101,115,115,97,103,101]),(str [111,102]),(str [111,102,102,101,114]),(str [111,110]),(str [111,114]),(str [112,97,114]),(str [112,108,97,121,115]),(str [112,114,111,116,111,99,111,108]),(str [115,101,114,118,105,99,101]),(str [116,101,120,116]),(str [116,105,109,101,115]),(str [116,111]),(str [118,97,114]),(str [119,104,101,114,101]),(str [119,104,105,108,101]),(str [119,105,116,104,105,110])]:List ByteArray) a).bind fun c =>
 some (!c))
 else some false
def De:Option Bool :=
 some true
def QZ (N:Nat) (a:T5):Nat→Int→Option Bool
 | 0,_=>none
 | b+1,c =>
 bif (decide (c < (a.Roles.length:Int))) then ((Zm a.Roles c).bind fun d =>
 (QL N d).bind fun e =>
 bif (!e) then (some false)
 else (lsl a.Roles none (some c)).bind fun f =>
 (MN N f d).bind fun g =>
 bif g then (some false)
 else (QZ N a b) (Zi (c+1)))
 else De
def Dy (N:Nat) (a:T5):Option Bool :=
 (QL N a.Name).bind fun b =>
 bif (!b) then (some false)
 else bif (decide ((a.Roles.length:Int) < 1)) then (some false)
 else bif (decide ((a.Roles.length:Int) > 6)) then (some false)
 else QZ N a N 0
def BJ:Option Bool :=
 some true
def RB (a:T5):Nat→Int→Option Bool
 | 0,_=>none
 | b+1,c =>
 bif (decide (c < (a.Edges.length:Int))) then ((Zm a.Edges c).bind fun d =>
 bif (decide ((Z1 (Z1 (Z1 (Z1 d.From d.To) d.Act.From) d.Act.To) d.Act.Label) < 0)) then (some false)
 else bif (decide ((ZX d.From d.To)≥a.States)) then (some false)
 else bif (decide ((ZX d.Act.From d.Act.To)≥(a.Roles.length:Int))) then (some false)
 else bif (d.Act.From==d.Act.To) then (some false)
 else bif (decide (d.Act.Label≥(a.Decls.length:Int))) then (some false)
 else (RB a b) (Zi (c+1)))
 else BJ
def Bs (N:Nat) (a:T5):Option Bool :=
 bif (decide (a.States < 1)) then (some false)
 else bif (decide (a.States > 200)) then (some false)
 else bif (decide ((Z1 a.Start a.End) < 0)) then (some false)
 else bif (decide ((ZX a.Start a.End)≥a.States)) then (some false)
 else bif (decide ((a.Edges.length:Int) > 400)) then (some false)
 else RB a N 0
def Gl (a:(List T4)):Option (List T4) :=
 some a
def Qk (a:(List T0)):Nat→(List T4)→Int→Option (List T4)
 | 0,_,_=>none
 | b+1,c,d =>
 bif (decide (d < (a.length:Int))) then ((Zm a d).bind fun e =>
 (Z4 c e.Fields).bind fun f =>
 (Qk a b) f (Zi (d+1)))
 else Gl c
def HC (N:Nat) (a:(List T0)):Option (List T4) :=
 Qk a N ([]:List T4) 0
def Zaq (a:Int) (b:Nat):Option Int :=
 some a
def GP (a:ByteArray):Nat→Int→Nat→Option Int
 | 0,_,_=>none
 | b+1,c,d =>
 bif decide (d < a.size) then ((GP a b) (Zi (c+1)) (d+(Utf8.decode a d).2))
 else Zaq c d
def ZaZ (N:Nat) (a:ByteArray):Option Int :=
 GP a N 0 (0:Nat)
def Zar (N:Nat) (a:ByteArray):Option (Int × Int) :=
 bif (decide ((a.size:Int) < 1)) then (some (65533,0))
 else (Xq a 0).bind fun b =>
 Zdj 0
def ZfJ (N:Nat) (a:ByteArray):Option (Int × Int) :=
 bif (!(a.toList==(str []).toList)) then ((Xq a 0).bind fun b =>
 bif (decide (b < 128)) then ((Xq a 0).bind fun c =>
 some ((wk .i32 (c)),1))
 else (Zar N a).bind fun d =>
 some (d.1,d.2))
 else (Zar N a).bind fun e =>
 some (e.1,e.2)
def Zch (a:Int) (b:ByteArray) (c:(List ByteArray)):Option (List ByteArray) :=
 bif (decide (a > 0)) then ((Zm c (Zi (a-1))).bind fun d =>
 some (ZW c (Zi (a-1)) b))
 else some c
def DD (N:Nat) (a:Int):Nat→ByteArray→(List ByteArray)→Int→Option (List ByteArray)
 | 0,_,_,_=>none
 | b+1,c,d,e =>
 bif (decide (e < (Zi (a-1)))) then ((ZfJ N c).bind fun f =>
 (ssl c none (some f.2)).bind fun g =>
 (Zm d e).bind fun h =>
 (ssl c (some f.2) none).bind fun i =>
 (DD N a b) i (ZW d e g) (Zi (e+1)))
 else Zch a c d
def GS (N:Nat) (a:ByteArray) (b:Int):Option (List ByteArray) :=
 (YG (str []) b b).bind fun c =>
 DD N b N a c 0
def H4 (N:Nat) (a:ByteArray) (b:Int) (c:Int) (d:Bool):Option (List ByteArray) :=
 bif d then (GS N a c)
 else GS N a b
def ZfY (N:Nat) (a:ByteArray) (b:Int):Option (List ByteArray) :=
 (ZaZ N a).bind fun c =>
 bif (decide (b < 0)) then (H4 N a b c true)
 else H4 N a b c (decide (b > c))
def ZaW (N:Nat) (a:ByteArray) (b:Int):Option Int :=
 some (ZdA a b)
def ZbX (N:Nat) (a:ByteArray) (b:ByteArray):Option Int :=
 bif ((b.size:Int)==0) then (some 0)
 else bif (b.toList==a.toList) then (some 0)
 else bif ((b.size:Int)==1) then ((Xq b 0).bind fun c =>
 (ZaW N a c).bind fun d =>
 some d)
 else bif (decide ((b.size:Int)≥(a.size:Int))) then (some (-1))
 else Zdj 0
def Hu (N:Nat) (a:ByteArray) (b:ByteArray):Option Int :=
 (ZbX N a b).bind fun c =>
 some c
def Gc (N:Nat) (a:ByteArray):Nat→ByteArray→Int→Option Int
 | 0,_,_=>none
 | b+1,c,d =>
 (Hu N c a).bind fun e =>
 bif (e==(-1)) then (some d)
 else (ssl c (some (Zi (e+(a.size:Int)))) none).bind fun f =>
 (Gc N a b) f (Zi (d+1))
def Dk (N:Nat) (a:ByteArray) (b:ByteArray):Option Int :=
 bif ((b.size:Int)==0) then ((ZaZ N a).bind fun c =>
 some (Zi (c+1)))
 else bif ((b.size:Int)==1) then ((Xq b 0).bind fun d =>
 some (Zbe a d))
 else Gc N b N a 0
def P9 (a:ByteArray) (b:(List ByteArray)) (c:Int):Option (List ByteArray) :=
 (Zm b c).bind fun d =>
 (lsl (ZW b c a) none (some (Zi (c+1)))).bind fun e =>
 some e
def Su (N:Nat) (a:ByteArray) (b:ByteArray) (c:Int) (d:Int):Nat→ByteArray→(List ByteArray)→Int→Option (List ByteArray)
 | 0,_,_,_=>none
 | e+1,f,g,h =>
 bif (decide (h < (Zi ((Z1 d (Zi ((a.size:Int)+1)))-1)))) then ((Hu N f b).bind fun i =>
 bif (decide (i < 0)) then (P9 f g h)
 else (ssl f none (some (Zi (i+c)))).bind fun j =>
 (Zm g h).bind fun k =>
 (ssl f (some (Zi (i+(b.size:Int)))) none).bind fun l =>
 (Su N a b c d e) l (ZW g h j) (Zi (h+1)))
 else P9 f g h
def Hw (N:Nat) (a:ByteArray) (b:ByteArray) (c:Int) (d:Int):Option (List ByteArray) :=
 (YG (str []) (Z1 d (Zi ((a.size:Int)+1))) (Z1 d (Zi ((a.size:Int)+1)))).bind fun e =>
 Su N a b c d N a e 0
def Zco (N:Nat) (a:ByteArray) (b:ByteArray) (c:Int) (d:Int):Option (List ByteArray) :=
 bif (d==0) then (some ([]:List ByteArray))
 else bif (b.toList==(str []).toList) then ((ZfY N a d).bind fun e =>
 some e)
 else bif (decide (d < 0)) then ((Dk N a b).bind fun f =>
 Hw N a b c (Zi (f+1)))
 else Hw N a b c d
def HV (N:Nat) (a:ByteArray) (b:ByteArray):Option (List ByteArray) :=
 (Zco N a b 0 (-1)).bind fun c =>
 some c
def Zax (N:Nat) (a:ByteArray):Option Bool :=
 (QL N a).bind fun b =>
 some (!b)
def GG:Option Int :=
 some (-1)
def R3 (N:Nat) (a:(List ByteArray)):Nat→Int→Option Int
 | 0,_=>none
 | b+1,c =>
 bif (decide (c < (a.length:Int))) then ((Zm a c).bind fun d =>
 (Zax N d).bind fun e =>
 bif e then (some c)
 else (R3 N a b) (Zi (c+1)))
 else GG
def Zdl (N:Nat) (a:(List ByteArray)):Option Int :=
 R3 N a N 0
def Zbu (N:Nat) (a:(List ByteArray)):Option Bool :=
 (Zdl N a).bind fun b =>
 some (decide (b≥0))
def BZ (N:Nat) (a:ByteArray):Option Bool :=
 bif (decide ((a.size:Int)≤50)) then ((HV N a (str [46])).bind fun b =>
 (Zbu N b).bind fun c =>
 some (!c))
 else some false
def ZcR (N:Nat) (a:T0) (b:T0):Option Bool :=
 some (a.Name.toList==b.Name.toList)
def GZ:Option Int :=
 some (-1)
def RI (N:Nat) (a:(List T0)) (b:T0):Nat→Int→Option Int
 | 0,_=>none
 | c+1,d =>
 bif (decide (d < (a.length:Int))) then ((Zm a d).bind fun e =>
 (ZcR N e b).bind fun f =>
 bif f then (some d)
 else (RI N a b c) (Zi (d+1)))
 else GZ
def Zb8 (N:Nat) (a:(List T0)) (b:T0):Option Int :=
 RI N a b N 0
def Bw (N:Nat) (a:(List T0)) (b:T0):Option Bool :=
 (Zb8 N a b).bind fun c =>
 some (decide (c≥0))
def HS (N:Nat) (a:Yg):Option Bool :=
 bif (a.Kind==1) then (bif (decide (a.Lo≥(-1000))) then (bif (decide (a.Lo≤a.Hi)) then (some (decide (a.Hi≤1000)))
 else some false)
 else some false)
 else bif (a.Kind==2) then (bif (decide (a.Lo≥0)) then (bif (decide (a.Lo≤a.Hi)) then (some (decide (a.Hi≤40)))
 else some false)
 else some false)
 else some false
def ZcF (N:Nat) (a:T4) (b:T4):Option Bool :=
 some (a.Name.toList==b.Name.toList)
def Bq:Option Int :=
 some (-1)
def RO (N:Nat) (a:(List T4)) (b:T4):Nat→Int→Option Int
 | 0,_=>none
 | c+1,d =>
 bif (decide (d < (a.length:Int))) then ((Zm a d).bind fun e =>
 (ZcF N e b).bind fun f =>
 bif f then (some d)
 else (RO N a b c) (Zi (d+1)))
 else Bq
def Zcv (N:Nat) (a:(List T4)) (b:T4):Option Int :=
 RO N a b N 0
def B4 (N:Nat) (a:(List T4)) (b:T4):Option Bool :=
 (Zcv N a b).bind fun c =>
 some (decide (c≥0))
def Bt:Option Bool :=
 some true
def MH (a:Int) (b:Int→Option Bool):Option Bool :=
 b (Zi (a+1))
def P3 (a:(List T4)) (b:Int) (c:Int→Option Bool) (d:(Int × Int)):Nat→Int→Option Bool
 | 0,_=>none
 | e+1,f =>
 bif (decide (f < 2)) then ((Zm ([d.1,d.2]:List Int) f).bind fun g =>
 bif (decide (g < 0)) then (some false)
 else bif (decide (g≥(a.length:Int))) then (some false)
 else (Zm a g).bind fun h =>
 bif (h.Sort'.Kind != 2) then (some false)
 else (P3 a b c d e) (Zi (f+1)))
 else MH b c
def VC (N:Nat) (a:T6) (b:(List T4)):Nat→Int→Option Bool
 | 0,_=>none
 | c+1,d =>
 bif (decide (d < (a.Equals.length:Int))) then ((Zm a.Equals d).bind fun e =>
 P3 b d (VC N a b c) e N 0)
 else Bt
def LQ (N:Nat) (a:T6) (b:(List T4)):Option Bool :=
 VC N a b N 0
def QG (N:Nat) (a:T6) (b:(List T4)):Nat→Int→Option Bool
 | 0,_=>none
 | c+1,d =>
 bif (decide (d < (a.Diffs.length:Int))) then ((Zm a.Diffs d).bind fun e =>
 bif (decide ((Z1 e.X e.Y) < (-1))) then (some false)
 else bif (decide ((ZX e.X e.Y)≥(b.length:Int))) then (some false)
 else bif (decide (e.C < (-20000))) then (some false)
 else bif (decide (e.C > 20000)) then (some false)
 else (QG N a b c) (Zi (d+1)))
 else LQ N a b
def Gm (N:Nat) (a:T6) (b:(List T4)):Option Bool :=
 bif (decide ((a.Diffs.length:Int) > 20)) then (some false)
 else bif (decide ((a.Equals.length:Int) > 20)) then (some false)
 else QG N a b N 0
def HQ:Option Bool :=
 some true
def Li (N:Nat) (a:(List T4)) (b:Int) (c:Int) (d:Int→Int→Option Bool) (e:T0):Option Bool :=
 (Gm N e.Guard a).bind fun f =>
 bif (!f) then (some false)
 else d (Zi (b+(e.Fields.length:Int))) (Zi (c+1))
def RG (N:Nat) (a:(List T4)) (b:Int) (c:Int) (d:Int→Int→Option Bool) (e:T0):Nat→Int→Option Bool
 | 0,_=>none
 | f+1,g =>
 bif (decide (g < (e.Fields.length:Int))) then ((Zm e.Fields g).bind fun h =>
 (QL N h.Name).bind fun i =>
 bif (!i) then (some false)
 else (HS N h.Sort').bind fun j =>
 bif (!j) then (some false)
 else (lsl e.Fields none (some g)).bind fun k =>
 (B4 N k h).bind fun l =>
 bif l then (some false)
 else (RG N a b c d e f) (Zi (g+1)))
 else Li N a b c d e
def WR (N:Nat) (a:(List T0)) (b:(List T4)):Nat→Int→Int→Option Bool
 | 0,_,_=>none
 | c+1,d,e =>
 bif (decide (e < (a.length:Int))) then ((Zm a e).bind fun f =>
 (BZ N f.Name).bind fun g =>
 bif (!g) then (some false)
 else bif (decide ((f.Fields.length:Int) > 4)) then (some false)
 else bif (f.First != d) then (some false)
 else (lsl a none (some e)).bind fun h =>
 (Bw N h f).bind fun i =>
 bif i then (some false)
 else RG N b d e (WR N a b c) f N 0)
 else HQ
def Lu (N:Nat) (a:(List T0)):Option Bool :=
 bif (decide ((a.length:Int) > 40)) then (some false)
 else (HC N a).bind fun b =>
 bif (decide ((b.length:Int) > 24)) then (some false)
 else WR N a b N 0 0
def DA (a:(List T1)):Option (List T1) :=
 some a
def Rr (a:T0):Nat→(List T1)→Int→Option (List T1)
 | 0,_,_=>none
 | b+1,c,d =>
 bif (decide (d < (a.Guard.Equals.length:Int))) then ((Zm a.Guard.Equals d).bind fun e =>
 (Z4 c ([(⟨e.1,e.2,0⟩:T1),(⟨e.2,e.1,0⟩:T1)]:List T1)).bind fun f =>
 (Rr a b) f (Zi (d+1)))
 else DA c
def Ga (N:Nat) (a:T0) (b:(List T1)):Option (List T1) :=
 (Z4 b a.Guard.Diffs).bind fun c =>
 Rr a N c 0
def Rs (N:Nat) (a:T0):Nat→(List T1)→Int→Option (List T1)
 | 0,_,_=>none
 | b+1,c,d =>
 bif (decide (d < (a.Fields.length:Int))) then ((Zm a.Fields d).bind fun e =>
 (Z4 c ([(⟨(Zi (a.First+d)),(-1),e.Sort'.Hi⟩:T1),(⟨(-1),(Zi (a.First+d)),(Zi (0-e.Sort'.Lo))⟩:T1)]:List T1)).bind fun f =>
 (Rs N a b) f (Zi (d+1)))
 else Ga N a c
def Zdb (N:Nat) (a:T0):Option (List T1) :=
 Rs N a N ([]:List T1) 0
def Zam (N:Nat) (a:(List T0)) (b:Int):Option ((List T1) × Int) :=
 bif (decide (b < 0)) then (some (([]:List T1),1))
 else bif (decide (b≥(a.length:Int))) then (some (([]:List T1),1))
 else (Lu N a).bind fun c =>
 bif (!c) then (some (([]:List T1),1))
 else (Zm a b).bind fun d =>
 (Zdb N d).bind fun e =>
 some (e,0)
def DF (N:Nat) (a:(List T0)):Option Bool :=
 bif ((a.length:Int)==0) then (some true)
 else (Zam N a 0).bind fun b =>
 some (b.2==0)
def D6:Option Bool :=
 some true
def Le (a:Int) (b:Int→Option Bool):Option Bool :=
 b (Zi (a+1))
def Ss (a:T2) (b:Int) (c:Int→Option Bool) (d:T2) (e:Bool):Option Bool :=
 bif e then (some false)
 else bif a.Again then (bif (d.To==a.From) then (bif (a.Act.From != d.Act.From) then (some false)
 else bif (a.Act.Label != d.Act.Label) then (some false)
 else c (Zi (b+1)))
 else c (Zi (b+1)))
 else c (Zi (b+1))
def Vs (a:T5) (b:Int) (c:Int→Option Bool) (d:T2):Nat→Int→Option Bool
 | 0,_=>none
 | e+1,f =>
 bif (decide (f < (a.Edges.length:Int))) then ((Zm a.Edges f).bind fun g =>
 bif (b != f) then (bif (d.From==g.From) then (bif ((d.Act.From==g.Act.From) && ((d.Act.To==g.Act.To) && ((d.Act.Label==g.Act.Label) && true))) then (Ss d f (Vs a b c d e) g true)
 else bif (d.Act.From != g.Act.From) then (Ss d f (Vs a b c d e) g true)
 else Ss d f (Vs a b c d e) g d.Again)
 else Ss d f (Vs a b c d e) g false)
 else Ss d f (Vs a b c d e) g false)
 else Le b c
def Mh (N:Nat) (a:T5) (b:Int) (c:Int→Option Bool) (d:T2) (e:Bool):Option Bool :=
 bif e then (some false)
 else Vs a b c d N 0
def Ww (N:Nat) (a:T5):Nat→Int→Option Bool
 | 0,_=>none
 | b+1,c =>
 bif (decide (c < (a.Edges.length:Int))) then ((Zm a.Edges c).bind fun d =>
 bif (d.From==a.End) then (Mh N a c (Ww N a b) d true)
 else bif d.Again then (Mh N a c (Ww N a b) d (d.From==a.Start))
 else Mh N a c (Ww N a b) d false)
 else D6
def Gk (N:Nat) (a:T5):Option Bool :=
 Ww N a N 0
def Dj:Option Bool :=
 some true
def UP (a:T5):Nat→Int→Int→Option Bool
 | 0,_,_=>none
 | b+1,c,d =>
 bif (decide (d < (a.Timeouts.length:Int))) then ((Zm a.Timeouts d).bind fun e =>
 bif (decide (e.State≤c)) then (some false)
 else bif (decide (e.Ticks < 1)) then (some false)
 else bif (decide (e.Ticks > 1000)) then (some false)
 else bif (decide (e.Else < 0)) then (some false)
 else bif (decide (e.Else≥(a.Edges.length:Int))) then (some false)
 else (Zm a.Edges e.Else).bind fun f =>
 bif (f.From != e.State) then (some false)
 else (Zm a.Edges e.Else).bind fun g =>
 bif g.Again then (some false)
 else (UP a b) e.State (Zi (d+1)))
 else Dj
def BF (N:Nat) (a:T5):Option Bool :=
 UP a N (-1) 0
def Zen (N:Nat) (a:Int) (b:Int):Option (Int × Int) :=
 (WL .and .u64 a 4294967295).bind fun c =>
 (WL .shr .u64 a 32).bind fun d =>
 (WL .and .u64 b 4294967295).bind fun e =>
 (WL .shr .u64 b 32).bind fun f =>
 (WL .shr .u64 (wk .u64 (c * e)) 32).bind fun g =>
 (WL .and .u64 (wk .u64 ((wk .u64 (d * e))+g)) 4294967295).bind fun h =>
 (WL .shr .u64 (wk .u64 ((wk .u64 (d * e))+g)) 32).bind fun i =>
 (WL .shr .u64 (wk .u64 (h+(wk .u64 (c * f)))) 32).bind fun j =>
 some ((wk .u64 ((wk .u64 ((wk .u64 (d * f))+i))+j)),(wk .u64 (a * b)))
def BM (N:Nat) (a:Int) (b:Int):Option (Int × Int) :=
 (Zen N a b).bind fun c =>
 some (c.1,c.2)
def HK (a:(List Int)):Option (List Int) :=
 some a
def Qq:Nat→(List Int)→Int→Option (List Int)
 | 0,_,_=>none
 | a+1,b,c =>
 bif (decide (c < (b.length:Int))) then ((lsl b (some c) none).bind fun d =>
 (lsl b none (some c)).bind fun e =>
 (Vv b (some c) none e).bind fun f =>
 (Qq a) f.1 (Zi (c+f.2)))
 else HK b
def Lk (N:Nat) (a:(List Int)) (b:Int × Int) (c:Bool):Option (List Int) :=
 bif c then (Zdj 0)
 else (YG 0 (Zi (b.2)) (Zi (b.2))).bind fun d =>
 (Vv d none none a).bind fun e =>
 Qq N e.1 e.2
def GD (N:Nat) (a:(List Int)) (b:Int):Option (List Int) :=
 bif (decide (b < 0)) then (Zdj 0)
 else (BM N (wk .u64 ((a.length:Int))) (wk .u64 (b))).bind fun c =>
 bif (decide (c.1 > 0)) then (Lk N a c true)
 else Lk N a c (decide (c.2 > 9223372036854775807))
def Zb1 (a:(List Int)):Option (List Int) :=
 some a
def MM (a:(List Int)→(List Int)→Option (List Int)) (b:(List Int)) (c:(List Int)):Option (List Int) :=
 (lsl c (some 1) none).bind fun d =>
 a b d
def MC (a:(List Int)) (b:(List Int)) (c:Int) (d:(List Int)→(List Int)→Int→Option (List Int)) (e:Int) (f:Int):Option (List Int) :=
 (Zm b 0).bind fun g =>
 bif (e==g) then ((Zm a f).bind fun h =>
 bif (decide (h < 0)) then ((Zm a e).bind fun i =>
 (Zm a f).bind fun j =>
 (Z4 b ([f]:List Int)).bind fun k =>
 d (ZW a f (Zi (i+1))) k (Zi (c+1)))
 else d a b (Zi (c+1)))
 else d a b (Zi (c+1))
def VR (a:T5) (b:Bool) (c:(List Int)→(List Int)→Option (List Int)):Nat→(List Int)→(List Int)→Int→Option (List Int)
 | 0,_,_,_=>none
 | d+1,e,f,g =>
 bif (decide (g < (a.Edges.length:Int))) then ((Zm a.Edges g).bind fun h =>
 bif b then (MC e f g (VR a b c d) h.To h.From)
 else MC e f g (VR a b c d) h.From h.To)
 else MM c e f
def VA (N:Nat) (a:T5) (b:Bool):Nat→(List Int)→(List Int)→Option (List Int)
 | 0,_,_=>none
 | c+1,d,e =>
 bif (decide ((e.length:Int) > 0)) then (VR a b (VA N a b c) N d e 0)
 else Zb1 d
def MR (N:Nat) (a:T5) (b:Int) (c:Bool):Option (List Int) :=
 (GD N ([(-1)]:List Int) a.States).bind fun d =>
 (Zm d b).bind fun e =>
 VA N a c N (ZW d b 0) ([b]:List Int)
def BN:Option Int :=
 some (-1)
def Rl (a:(List Int)) (b:Int):Nat→Int→Option Int
 | 0,_=>none
 | c+1,d =>
 bif (decide (d < (a.length:Int))) then ((Zm a d).bind fun e =>
 bif (b==e) then (some d)
 else (Rl a b c) (Zi (d+1)))
 else BN
def ZbT (N:Nat) (a:(List Int)) (b:Int):Option Int :=
 Rl a b N 0
def Ht (N:Nat) (a:(List Int)) (b:Int):Option Bool :=
 (ZbT N a b).bind fun c =>
 some (decide (c≥0))
def Mo (N:Nat) (a:T5):Option Bool :=
 (Dy N a).bind fun b =>
 bif b then ((Bs N a).bind fun c =>
 bif c then ((DF N a.Decls).bind fun d =>
 bif d then ((Gk N a).bind fun e =>
 bif e then ((BF N a).bind fun f =>
 bif f then ((MR N a a.Start false).bind fun g =>
 (Ht N g (-1)).bind fun h =>
 bif (!h) then ((MR N a a.End true).bind fun i =>
 (Ht N i (-1)).bind fun j =>
 some (!j))
 else some false)
 else some false)
 else some false)
 else some false)
 else some false)
 else some false
def P0 (N:Nat) (a:T8) (b:Int):Option Bool :=
 bif (decide (b≥0)) then (some (decide (b < a.States)))
 else some false
def Zb7:Option Bool :=
 some true
def Re (N:Nat) (a:T8):Nat→Int→Option Bool
 | 0,_=>none
 | b+1,c =>
 bif (decide (c < (a.Moves.length:Int))) then ((Zm a.Moves c).bind fun d =>
 (P0 N a d.From).bind fun e =>
 bif (!e) then (some false)
 else (P0 N a d.To).bind fun f =>
 bif (!f) then (some false)
 else bif (decide (d.Peer < 0)) then (some false)
 else bif (decide (d.Peer≥6)) then (some false)
 else bif (d.Peer==a.Role) then (some false)
 else bif (decide (d.Label < 0)) then (some false)
 else bif (decide (d.Label≥40)) then (some false)
 else (Re N a b) (Zi (c+1)))
 else Zb7
def Dd (N:Nat) (a:T8):Option Bool :=
 bif (decide (a.Role < 0)) then (some false)
 else bif (decide (a.Role≥6)) then (some false)
 else bif (decide (a.States < 1)) then (some false)
 else bif (decide (a.States > 200)) then (some false)
 else (P0 N a a.Start).bind fun b =>
 bif (!b) then (some false)
 else bif ((a.Finals.length:Int) != a.States) then (some false)
 else bif (decide ((a.Moves.length:Int) > 400)) then (some false)
 else Re N a N 0
def S1 (N:Nat) (a:T9):Option SB :=
 some (⟨a.Send,a.Peer,a.Label⟩:SB)
def HO (N:Nat) (a:Int):Option Bool :=
 some (a != a)
def Rb (N:Nat) (a:Int) (b:Int):Option Int :=
 (HO N a).bind fun c =>
 (HO N b).bind fun d =>
 bif c then (bif d then (some 0)
 else some (-1))
 else bif d then (some 1)
 else bif (decide (a < b)) then (some (-1))
 else bif (decide (a > b)) then (some 1)
 else some 0
def Zcx:Option Int :=
 some 0
def WO (a:(List Int)):Nat→Int→Option Int
 | 0,_=>none
 | b+1,c =>
 bif (decide (c < (a.length:Int))) then ((Zm a c).bind fun d =>
 bif (d != 0) then (some d)
 else (WO a b) (Zi (c+1)))
 else Zcx
def TQ (N:Nat) (a:(List Int)):Option Int :=
 WO a N 0
def Bl (N:Nat) (a:SB) (b:SB):Option Int :=
 bif (!(a.send'==b.send')) then (bif a.send' then (some (-1))
 else some 1)
 else (Rb N a.peer' b.peer').bind fun c =>
 (Rb N a.label' b.label').bind fun d =>
 (TQ N ([c,d]:List Int)).bind fun e =>
 some e
def Mm (N:Nat) (a:Int) (b:Int) (c:T8):Option Int :=
 (Zm c.Moves a).bind fun d =>
 (S1 N d).bind fun e =>
 (Zm c.Moves b).bind fun f =>
 (S1 N f).bind fun g =>
 (Bl N e g).bind fun h =>
 some h
def XT (N:Nat) (a:T8) (i k:Int):Int:=(Mm N i k a).getD 0
def Gw (N:Nat) (c:T8) (xs:List Int):Bool:=(xs.all fun i=>xs.all fun k=>(Mm N i k c).isSome) && (Dp (fun a b=>decide (XT N c a b < 0)) xs && decide (xs.length < 4611686018427387904))
def TR (N:Nat) (a:T8):Nat→List (List Int)→Int→Option YF
 | 0,_,_=>none
 | n+1,xss,j=>bif decide (j < (xss.length:Int)) then (Zm xss j).bind fun xs =>
   bif Gw N a xs then TR N a n (xss.set j.toNat (X3 (XT N a) xs)) (Zi (j+1)) else none
   else some ⟨a,xss⟩
def QS (N:Nat) (a:T8):Nat→List (List Int)→Int→Option YF
 | 0,_,_=>none
 | n+1,xss,i=>bif decide (i < (a.Moves.length:Int)) then (Zm a.Moves i).bind fun x=>(Zm xss x.From).bind fun xs=>(Z4 xs [i]).bind fun ys =>
   QS N a n (xss.set x.From.toNat ys) (Zi (i+1))
   else TR N a N xss 0
def Br (N:Nat) (a:T8):Option YF:=(YG () a.States a.States).bind fun us=>bif us.isEmpty then none else QS N a N (List.replicate us.length []) 0
def Zck:Option Bool :=
 some true
def Rn (a:Int) (b:Int→Option Bool):Option Bool :=
 b (Zi (a+1))
def Tt (N:Nat) (a:YF) (b:Int) (c:Int→Option Bool) (d:(List Int)):Nat→Int→Option Bool
 | 0,_=>none
 | e+1,f =>
 bif (decide (f < (d.length:Int))) then ((Zm d (Zi (f-1))).bind fun g =>
 (Zm a.Machine.Moves g).bind fun h =>
 (Zm d f).bind fun i =>
 (Zm a.Machine.Moves i).bind fun j =>
 (S1 N h).bind fun k =>
 (S1 N j).bind fun l =>
 bif ((k.send'==l.send') && ((k.peer'==l.peer') && ((k.label'==l.label') && true))) then (some false)
 else bif (!(h.Send==j.Send)) then (some false)
 else (Tt N a b c d e) (Zi (f+1)))
 else Rn b c
def X9 (N:Nat) (a:YF):Nat→Int→Option Bool
 | 0,_=>none
 | b+1,c =>
 bif (decide (c < (a.out'.length:Int))) then ((Zm a.out' c).bind fun d =>
 Tt N a c (X9 N a b) d N 1)
 else Zck
def LI (N:Nat) (a:YF):Option Bool :=
 X9 N a N 0
def Zc1 (a:YF) (b:(List Int)):Option Bool :=
 some ((b.length:Int)==a.Machine.States)
def ZcJ (a:Int) (b:(List Bool)→(List Int)→Int→Option Bool) (c:(List Bool)) (d:(List Int)):Option Bool :=
 b c d (Zi (a+1))
def UC (a:YF) (b:Int) (c:(List Bool)→(List Int)→Int→Option Bool) (d:(List Int)):Nat→(List Bool)→(List Int)→Int→Option Bool
 | 0,_,_,_=>none
 | e+1,f,g,h =>
 bif (decide (h < (d.length:Int))) then ((Zm d h).bind fun i =>
 (Zm a.Machine.Moves i).bind fun j =>
 (Zm f j.To).bind fun k =>
 bif (!k) then ((Zm f j.To).bind fun l =>
 (Z4 g ([j.To]:List Int)).bind fun m =>
 (UC a b c d e) (ZW f j.To true) m (Zi (h+1)))
 else (UC a b c d e) f g (Zi (h+1)))
 else ZcJ b c f g
def WS (N:Nat) (a:YF):Nat→(List Bool)→(List Int)→Int→Option Bool
 | 0,_,_,_=>none
 | b+1,c,d,e =>
 bif (decide (e < (d.length:Int))) then ((Zm d e).bind fun f =>
 (Zm a.out' f).bind fun g =>
 UC a e (WS N a b) g N c d 0)
 else Zc1 a d
def Mt (N:Nat) (a:YF):Option Bool :=
 (YG false a.Machine.States a.Machine.States).bind fun b =>
 (Zm b a.Machine.Start).bind fun c =>
 WS N a N (ZW b a.Machine.Start true) ([a.Machine.Start]:List Int) 0
def Zbj:Option Bool :=
 some true
def Px (a:Int) (b:Int→Option Bool):Option Bool :=
 b (Zi (a+1))
def UA (a:YF) (b:Int) (c:Int→Option Bool) (d:T9):Nat→Int→Option Bool
 | 0,_=>none
 | e+1,f =>
 bif (decide (f < (a.Machine.Moves.length:Int))) then ((Zm a.Machine.Moves f).bind fun g =>
 bif (g.To==d.From) then (bif (!g.Send) then (some false)
 else bif (g.Label != d.Label) then (some false)
 else (UA a b c d e) (Zi (f+1)))
 else (UA a b c d e) (Zi (f+1)))
 else Px b c
def Wq (N:Nat) (a:YF):Nat→Int→Option Bool
 | 0,_=>none
 | b+1,c =>
 bif (decide (c < (a.Machine.Moves.length:Int))) then ((Zm a.Machine.Moves c).bind fun d =>
 bif (!d.Again) then ((Wq N a b) (Zi (c+1)))
 else bif (!d.Send) then (some false)
 else (Zm a.out' d.From).bind fun e =>
 bif ((e.length:Int) != 1) then (some false)
 else bif (d.From==a.Machine.Start) then (some false)
 else (Zm a.Machine.Finals d.From).bind fun f =>
 bif f then (some false)
 else UA a c (Wq N a b) d N 0)
 else Zbj
def LA (N:Nat) (a:YF):Option Bool :=
 Wq N a N 0
def ZbE:Option Bool :=
 some true
def XG (a:YF) (b:Int) (c:Int→Option Bool) (d:W5) (e:Bool):Option Bool :=
 bif e then (some false)
 else (Zm a.Machine.Moves d.Else).bind fun f =>
 bif (f.From != d.State) then (some false)
 else bif (!f.Send) then (some false)
 else bif f.Again then (some false)
 else c (Zi (b+1))
def YS (a:YF):Nat→Int→Option Bool
 | 0,_=>none
 | b+1,c =>
 bif (decide (c < (a.Machine.Timeouts.length:Int))) then ((Zm a.Machine.Timeouts c).bind fun d =>
 bif (decide (c > 0)) then ((Zm a.Machine.Timeouts (Zi (c-1))).bind fun e =>
 bif (decide (e.State≥d.State)) then (XG a c (YS a b) d true)
 else bif (decide (d.Ticks < 1)) then (XG a c (YS a b) d true)
 else bif (decide (d.Ticks > 1000)) then (XG a c (YS a b) d true)
 else bif (decide (d.Else < 0)) then (XG a c (YS a b) d true)
 else XG a c (YS a b) d (decide (d.Else≥(a.Machine.Moves.length:Int))))
 else bif (decide (d.Ticks < 1)) then (XG a c (YS a b) d true)
 else bif (decide (d.Ticks > 1000)) then (XG a c (YS a b) d true)
 else bif (decide (d.Else < 0)) then (XG a c (YS a b) d true)
 else XG a c (YS a b) d (decide (d.Else≥(a.Machine.Moves.length:Int))))
 else ZbE
def Hd (N:Nat) (a:YF):Option Bool :=
 YS a N 0
def P8 (N:Nat) (a:T8):Option ((Option YF) × Bool) :=
 (Dd N a).bind fun b =>
 bif (!b) then (some (none,false))
 else (Br N a).bind fun c =>
 (LI N c).bind fun d =>
 bif d then ((Mt N c).bind fun e =>
 bif e then ((LA N c).bind fun f =>
 bif f then ((Hd N c).bind fun g =>
 some ((some c),g))
 else some ((some c),false))
 else some ((some c),false))
 else some ((some c),false)
def PN (N:Nat) (a:T8):Option Bool :=
 (P8 N a).bind fun b =>
 BC b.1 (some b.2) fun q2 =>
 some b.2
def Pm (N:Nat) (a:T9) (b:T5):Option Bool :=
 bif (decide (a.Peer≥(b.Roles.length:Int))) then (some true)
 else some (decide (a.Label≥(b.Decls.length:Int)))
def Zca:Option Int :=
 some (-1)
def TH (N:Nat) (a:(List T9)) (b:T5):Nat→Int→Option Int
 | 0,_=>none
 | c+1,d =>
 bif (decide (d < (a.length:Int))) then ((Zm a d).bind fun e =>
 (Pm N e b).bind fun f =>
 bif f then (some d)
 else (TH N a b c) (Zi (d+1)))
 else Zca
def Gn (N:Nat) (a:(List T9)) (b:T5):Option Int :=
 TH N a b N 0
def Gr (N:Nat) (a:(List T9)) (b:T5):Option Bool :=
 (Gn N a b).bind fun c =>
 some (decide (c≥0))
def Tz (N:Nat) (a:T5) (b:T8):Option Bool :=
 (Mo N a).bind fun c =>
 bif c then ((PN N b).bind fun d =>
 bif d then (bif (decide (b.Role < (a.Roles.length:Int))) then ((Gr N b.Moves a).bind fun e =>
 some (!e))
 else some false)
 else some false)
 else some false
def DW (a:(List T4)):Option (List T4) :=
 some a
def QQ (a:T5):Nat→(List T4)→Int→Option (List T4)
 | 0,_,_=>none
 | b+1,c,d =>
 bif (decide (d < (a.Decls.length:Int))) then ((Zm a.Decls d).bind fun e =>
 (Z4 c e.Fields).bind fun f =>
 (QQ a b) f (Zi (d+1)))
 else DW c
def Bc (N:Nat) (a:T5):Option (List T4) :=
 QQ a N ([]:List T4) 0
def LH (N:Nat) (a:T5) (b:T8):Option ZM :=
 (Tz N a b).bind fun c =>
 bif (!c) then (some (⟨0,([]:List Zk),([]:List Zk)⟩:ZM))
 else (Bc N a).bind fun d =>
 (YG (⟨0,0,(str [])⟩:Zk) (d.length:Int) (d.length:Int)).bind fun e =>
 some (⟨b.Start,e,([]:List Zk)⟩:ZM)
def DX (N:Nat) (a:Zk):Option Int :=
 bif (a.Kind==1) then (some a.N)
 else bif (a.Kind==2) then (some (a.S.size:Int))
 else some 0
def Hy (a:Yg) (b:Int) (c:Int):Option Bool :=
 bif (decide (b≤a.Lo)) then (bif (decide (a.Lo≤a.Hi)) then (some (decide (a.Hi≤c)))
 else some false)
 else some false
def z76 (N:Nat) (a:Yg):Option Bool :=
 bif (a.Kind==1) then (Hy a (-1000) 1000)
 else bif (a.Kind==2) then (Hy a 0 40)
 else some false
def Zc9 (N:Nat) (a:Int):Option Bool :=
 bif (decide (a < 32)) then (some true)
 else some (decide (a > 126))
def ZcK (a:Nat):Option Int :=
 some (-1)
def Rz (N:Nat) (a:ByteArray) (b:Bool):Nat→Nat→Option Int
 | 0,_=>none
 | c+1,d =>
 bif decide (d < a.size) then ((Zc9 N ((Utf8.decode a d).1:Int)).bind fun e =>
 bif (e==b) then (some ((d:Nat):Int))
 else (Rz N a b c) (d+(Utf8.decode a d).2))
 else ZcK d
def ZbA (N:Nat) (a:ByteArray) (b:Bool):Option Int :=
 Rz N a b N (0:Nat)
def Zaz (N:Nat) (a:ByteArray):Option Int :=
 (ZbA N a true).bind fun b =>
 some b
def H2 (N:Nat) (a:ByteArray):Option Bool :=
 (Zaz N a).bind fun b =>
 some (decide (b≥0))
def Za1 (N:Nat) (a:ByteArray):Option Bool :=
 (H2 N a).bind fun b =>
 some (!b)
def z77 (N:Nat) (a:Zk):Option Bool :=
 bif (a.Kind==1) then (bif (decide (a.N≥(-1000))) then (bif (decide (a.N≤1000)) then (some (a.S.toList==(str []).toList))
 else some false)
 else some false)
 else bif (a.Kind==2) then (bif (a.N==0) then (bif (decide ((a.S.size:Int)≤40)) then ((Za1 N a.S).bind fun b =>
 some b)
 else some false)
 else some false)
 else some false
def Hv (N:Nat) (a:Yg) (b:Zk):Option Bool :=
 (DX N b).bind fun c =>
 (z76 N a).bind fun d =>
 bif d then ((z77 N b).bind fun e =>
 bif e then (bif (a.Kind==b.Kind) then (bif (decide (c≥a.Lo)) then (some (decide (c≤a.Hi)))
 else some false)
 else some false)
 else some false)
 else some false
def z39 (N:Nat) (a:T4) (b:Zk):Option Bool :=
 bif ((b.Kind==0) && ((b.N==0) && ((b.S.toList==(str []).toList) && true))) then (some true)
 else (Hv N a.Sort' b).bind fun c =>
 some c
def Zbr:Option Bool :=
 some true
def RF (N:Nat) (a:(List T4)) (b:(List Zk)):Nat→Int→Option Bool
 | 0,_=>none
 | c+1,d =>
 bif (decide (d < (a.length:Int))) then ((Zm a d).bind fun e =>
 (Zm b d).bind fun f =>
 (z39 N e f).bind fun g =>
 bif (!g) then (some false)
 else (RF N a b c) (Zi (d+1)))
 else Zbr
def Bp (N:Nat) (a:(List T4)) (b:(List Zk)):Option Bool :=
 bif ((a.length:Int) != (b.length:Int)) then (some false)
 else RF N a b N 0
def Sb (N:Nat) (a:T5) (b:T8) (c:ZM):Option Bool :=
 (Tz N a b).bind fun d =>
 bif d then (bif (decide (c.At≥0)) then (bif (decide (c.At < b.States)) then ((Bc N a).bind fun e =>
 (Bp N e c.Known).bind fun f =>
 some f)
 else some false)
 else some false)
 else some false
def Mx (N:Nat) (a:T9) (b:ZM) (c:T3):Option Bool :=
 bif (a.From==b.At) then (bif (a.Send==c.Send) then (bif (a.Peer==c.Peer) then (some (a.Label==c.Label))
 else some false)
 else some false)
 else some false
def Zdm:Option Int :=
 some (-1)
def Ti (N:Nat) (a:(List T9)) (b:ZM) (c:T3):Nat→Int→Option Int
 | 0,_=>none
 | d+1,e =>
 bif (decide (e < (a.length:Int))) then ((Zm a e).bind fun f =>
 (Mx N f b c).bind fun g =>
 bif g then (some e)
 else (Ti N a b c d) (Zi (e+1)))
 else Zdm
def LW (N:Nat) (a:(List T9)) (b:ZM) (c:T3):Option Int :=
 Ti N a b c N 0
def z85 (N:Nat) (a:T4) (b:Zk):Option Bool :=
 (Hv N a.Sort' b).bind fun c =>
 some c
def Zcg:Option Bool :=
 some true
def QD (N:Nat) (a:(List T4)) (b:(List Zk)):Nat→Int→Option Bool
 | 0,_=>none
 | c+1,d =>
 bif (decide (d < (a.length:Int))) then ((Zm a d).bind fun e =>
 (Zm b d).bind fun f =>
 (z85 N e f).bind fun g =>
 bif (!g) then (some false)
 else (QD N a b c) (Zi (d+1)))
 else Zcg
def Zbp (N:Nat) (a:(List T4)) (b:(List Zk)):Option Bool :=
 bif ((a.length:Int) != (b.length:Int)) then (some false)
 else QD N a b N 0
def La (N:Nat) (a:(List T4)) (b:(List Zk)):Option Bool :=
 (Zbp N a b).bind fun c =>
 some c
def Mk (N:Nat) (a:Zk):Option Int :=
 bif (a.Kind==2) then (some (a.S.size:Int))
 else some a.N
def Zav (N:Nat) (a:Int):Option Bool :=
 bif (decide (a < 32)) then (some true)
 else some (decide (a > 126))
def Zc4 (a:Nat):Option Int :=
 some (-1)
def Qc (N:Nat) (a:ByteArray) (b:Bool):Nat→Nat→Option Int
 | 0,_=>none
 | c+1,d =>
 bif decide (d < a.size) then ((Zav N ((Utf8.decode a d).1:Int)).bind fun e =>
 bif (e==b) then (some ((d:Nat):Int))
 else (Qc N a b c) (d+(Utf8.decode a d).2))
 else Zc4 d
def ZbM (N:Nat) (a:ByteArray) (b:Bool):Option Int :=
 Qc N a b N (0:Nat)
def ZcD (N:Nat) (a:ByteArray):Option Int :=
 (ZbM N a true).bind fun b =>
 some b
def H3 (N:Nat) (a:ByteArray):Option Bool :=
 (ZcD N a).bind fun b =>
 some (decide (b≥0))
def MW (N:Nat) (a:Yg) (b:Zk):Option Bool :=
 bif (b.Kind != a.Kind) then (some false)
 else (Mk N b).bind fun c =>
 bif (decide (c < a.Lo)) then (some false)
 else (Mk N b).bind fun d =>
 bif (decide (d > a.Hi)) then (some false)
 else bif (b.Kind==1) then (some (b.S.toList==(str []).toList))
 else bif (b.N==0) then ((H3 N b.S).bind fun e =>
 some (!e))
 else some false
def Zda:Option Bool :=
 some true
def Sn (N:Nat) (a:(List Zk)) (b:(List T4)):Nat→Int→Option Bool
 | 0,_=>none
 | c+1,d =>
 bif (decide (d < (a.length:Int))) then ((Zm a d).bind fun e =>
 bif (!((e.Kind==0) && ((e.N==0) && ((e.S.toList==(str []).toList) && true)))) then ((Zm b d).bind fun f =>
 (MW N f.Sort' e).bind fun g =>
 bif (!g) then (some false)
 else (Sn N a b c) (Zi (d+1)))
 else (Sn N a b c) (Zi (d+1)))
 else Zda
def LO (N:Nat) (a:(List T0)) (b:Int) (c:(List Zk)):Option Bool :=
 bif (decide (b < 0)) then (some false)
 else bif (decide (b≥(a.length:Int))) then (some false)
 else (Lu N a).bind fun d =>
 bif (!d) then (some false)
 else (HC N a).bind fun e =>
 bif ((e.length:Int) != (c.length:Int)) then (some false)
 else Sn N c e N 0
def B8:Option Bool :=
 some true
def RY (N:Nat) (a:(List T4)) (b:(List Zk)):Nat→Int→Option Bool
 | 0,_=>none
 | c+1,d =>
 bif (decide (d < (a.length:Int))) then ((Zm a d).bind fun e =>
 (Zm b d).bind fun f =>
 (MW N e.Sort' f).bind fun g =>
 bif (!g) then (some false)
 else (RY N a b c) (Zi (d+1)))
 else B8
def M6 (N:Nat) (a:(List T4)) (b:(List Zk)):Option Bool :=
 bif ((a.length:Int) != (b.length:Int)) then (some false)
 else RY N a b N 0
def Mu (N:Nat) (a:(List Zk)):Option (List Zk) :=
 (Z4 ([]:List Zk) a).bind fun b =>
 some b
def LJ (N:Nat) (a:T0) (b:(List Zk)) (c:(List Zk)):Option (List Zk) :=
 (Mu N c).bind fun d =>
 (lsl d (some a.First) none).bind fun e =>
 (Vv d (some a.First) none b).bind fun f =>
 some f.1
def ZaY:Option Bool :=
 some true
def Rg (a:T6) (b:(List Zk)):Nat→Int→Option Bool
 | 0,_=>none
 | c+1,d =>
 bif (decide (d < (a.Equals.length:Int))) then ((Zm a.Equals d).bind fun e =>
 (Zm b e.1).bind fun f =>
 bif (f.Kind==0) then (some false)
 else (Zm b e.2).bind fun g =>
 bif (g.Kind==0) then (some false)
 else (Zm b e.1).bind fun h =>
 (Zm b e.2).bind fun i =>
 bif (!(h.S.toList==i.S.toList)) then (some false)
 else (Rg a b c) (Zi (d+1)))
 else ZaY
def BL (N:Nat) (a:T6) (b:(List Zk)):Option Bool :=
 Rg a b N 0
def BH (a:Int) (b:Int→Option Bool) (c:T1) (d:Int) (e:Int):Option Bool :=
 bif (decide ((Zi (d-e)) > c.C)) then (some false)
 else b (Zi (a+1))
def VT (N:Nat) (a:(List Zk)) (b:Int) (c:Int→Option Bool) (d:T1):Nat→Int→Int→Int→Option Bool
 | 0,_,_,_=>none
 | e+1,f,g,h =>
 bif (decide (h < 2)) then ((Zm ([d.X,d.Y]:List Int) h).bind fun i =>
 bif (decide (i < 0)) then ((VT N a b c d e) f g (Zi (h+1)))
 else (Zm a i).bind fun j =>
 bif (j.Kind==0) then (some false)
 else (Zm a i).bind fun k =>
 (Mk N k).bind fun l =>
 bif (h==0) then ((VT N a b c d e) l g (Zi (h+1)))
 else bif (h==1) then ((VT N a b c d e) f l (Zi (h+1)))
 else none)
 else BH b c d f g
def Ui (N:Nat) (a:T6) (b:(List Zk)):Nat→Int→Option Bool
 | 0,_=>none
 | c+1,d =>
 bif (decide (d < (a.Diffs.length:Int))) then ((Zm a.Diffs d).bind fun e =>
 VT N b d (Ui N a b c) e N 0 0 0)
 else BL N a b
def H5 (N:Nat) (a:T6) (b:(List Zk)):Option Bool :=
 Ui N a b N 0
def Dv (N:Nat) (a:(List T0)) (b:Int) (c:(List Zk)) (d:(List Zk)):Option Bool :=
 (LO N a b d).bind fun e =>
 bif (!e) then (some false)
 else (Zm a b).bind fun f =>
 (M6 N f.Fields c).bind fun g =>
 bif (!g) then (some false)
 else (Zm a b).bind fun h =>
 (LJ N h c d).bind fun i =>
 (H5 N h.Guard i).bind fun j =>
 some j
def M4 (N:Nat) (a:ByteArray):Option Bool :=
 some (!(a.toList==a.toList))
def P4 (N:Nat) (a:ByteArray) (b:ByteArray):Option Int :=
 (M4 N a).bind fun c =>
 (M4 N b).bind fun d =>
 bif c then (bif d then (some 0)
 else some (-1))
 else bif d then (some 1)
 else bif (Op.bytesLess a.toList b.toList) then (some (-1))
 else bif (!((Op.bytesLess a.toList b.toList) || (a.toList==b.toList))) then (some 1)
 else some 0
def Dc (N:Nat) (a:Zk) (b:Zk):Option Int :=
 (Rb N a.Kind b.Kind).bind fun c =>
 (Rb N a.N b.N).bind fun d =>
 (Rb N (a.S.size:Int) (b.S.size:Int)).bind fun e =>
 (P4 N a.S b.S).bind fun f =>
 (TQ N ([c,d,e,f]:List Int)).bind fun g =>
 some g
def VB (N:Nat) (a:Zk) (b:Zk):Option Bool :=
 (Dc N a b).bind fun c =>
 some (c==0)
def ZcP:Option Bool :=
 some true
def U3 (N:Nat) (a:(List Zk)) (b:(List Zk)):Nat→Int→Option Bool
 | 0,_=>none
 | c+1,d =>
 bif (decide (d < (a.length:Int))) then ((Zm a d).bind fun e =>
 (Zm b d).bind fun f =>
 (VB N e f).bind fun g =>
 bif (!g) then (some false)
 else (U3 N a b c) (Zi (d+1)))
 else ZcP
def Ge (N:Nat) (a:(List Zk)) (b:(List Zk)):Option Bool :=
 bif ((a.length:Int) != (b.length:Int)) then (some false)
 else U3 N a b N 0
def Sj (N:Nat) (a:(List Zk)) (b:(List Zk)):Option Bool :=
 (Ge N a b).bind fun c =>
 some c
def z50 (N:Nat) (a:(List T0)) (b:Int) (c:(List Zk)) (d:(List Zk)):Option ((List Zk) × Int) :=
 (LO N a b d).bind fun e =>
 bif (!e) then (some (([]:List Zk),1))
 else (Zm a b).bind fun f =>
 (M6 N f.Fields c).bind fun g =>
 bif (!g) then (some (([]:List Zk),11))
 else (Zm a b).bind fun h =>
 (LJ N h c d).bind fun i =>
 some (i,0)
def Sh (N:Nat) (a:T5) (b:T8) (c:ZM) (d:T3) (e:Int) (f:Bool):Option (ZM × Int) :=
 bif f then (some ((⟨0,([]:List Zk),([]:List Zk)⟩:ZM),17))
 else (Zm b.Moves e).bind fun g =>
 (z50 N a.Decls d.Label d.Values c.Known).bind fun h =>
 bif d.Send then ((Mu N d.Values).bind fun i =>
 some ((⟨g.To,h.1,i⟩:ZM),0))
 else some ((⟨g.To,h.1,([]:List Zk)⟩:ZM),0)
def z25 (N:Nat) (a:T5) (b:T8) (c:ZM) (d:T3):Option (ZM × Int) :=
 (LW N b.Moves c d).bind fun e =>
 bif (d.Role != b.Role) then (some ((⟨0,([]:List Zk),([]:List Zk)⟩:ZM),12))
 else bif (decide (e < 0)) then (some ((⟨0,([]:List Zk),([]:List Zk)⟩:ZM),23))
 else (Zm a.Decls d.Label).bind fun f =>
 (La N f.Fields d.Values).bind fun g =>
 bif (!g) then (some ((⟨0,([]:List Zk),([]:List Zk)⟩:ZM),11))
 else (Dv N a.Decls d.Label d.Values c.Known).bind fun h =>
 bif (!h) then (Sh N a b c d e true)
 else (Zm b.Moves e).bind fun i =>
 bif i.Again then ((Sj N d.Values c.Pending).bind fun j =>
 Sh N a b c d e (!j))
 else Sh N a b c d e false
def ZaD (a:(List T3)) (b:Int) (c:(List Zk)) (d:(List Zk)):Option (ZM × Int × Int) :=
 some ((⟨b,c,d⟩:ZM),(a.length:Int),0)
def Qr (N:Nat) (a:T5) (b:T8) (c:(List T3)):Nat→Int→(List Zk)→(List Zk)→Int→Option (ZM × Int × Int)
 | 0,_,_,_,_=>none
 | d+1,e,f,g,h =>
 bif (decide (h < (c.length:Int))) then ((Zm c h).bind fun i =>
 (z25 N a b (⟨e,f,g⟩:ZM) i).bind fun j =>
 bif (j.2 != 0) then (some ((⟨e,f,g⟩:ZM),h,j.2))
 else (Qr N a b c d) j.1.At j.1.Known j.1.Pending (Zi (h+1)))
 else ZaD c e f g
def z7 (N:Nat) (a:T5) (b:T8) (c:(List T3)):Option (ZM × Int × Int) :=
 (LH N a b).bind fun d =>
 (Sb N a b d).bind fun e =>
 bif (!e) then (some ((⟨0,([]:List Zk),([]:List Zk)⟩:ZM),0,1))
 else Qr N a b c N d.At d.Known d.Pending 0
def Bf (N:Nat) (a:T5) (b:T8) (c:ZM):Option Bool :=
 (Sb N a b c).bind fun d =>
 bif d then ((Zm b.Finals c.At).bind fun e =>
 some e)
 else some false
def z20 (N:Nat) (a:ZM) (b:ZM):Option Bool :=
 bif (a.At==b.At) then ((Sj N a.Known b.Known).bind fun c =>
 bif c then ((Sj N a.Pending b.Pending).bind fun d =>
 some d)
 else some false)
 else some false
def z5 (N:Nat):Option Bool :=
 (z17 N).bind fun a =>
 (z18 N 3 3).bind fun b =>
 (z7 N a.1 a.2 b).bind fun c =>
 (z18 N 3 4).bind fun d =>
 (z7 N a.1 a.2 d).bind fun e =>
 bif (c.2.2==0) then (bif (c.2.1==2) then ((Bf N a.1 a.2 c.1).bind fun f =>
 bif f then (bif (e.2.1==1) then (bif (e.2.2==17) then ((Sb N a.1 a.2 c.1).bind fun g =>
 bif g then ((z20 N c.1 c.1).bind fun h =>
 bif h then ((LH N a.1 a.2).bind fun i =>
 some ((i.Known.length:Int)==1))
 else some false)
 else some false)
 else some false)
 else some false)
 else some false)
 else some false)
 else some false
def Bx (a:(List T0)) (b:Int):Option Bool :=
 bif (decide ((a.length:Int)≤60)) then (some (decide (b≤100)))
 else some false
def Qa (a:(List T0)):Nat→Int→Int→Option Bool
 | 0,_,_=>none
 | b+1,c,d =>
 bif (decide (d < (a.length:Int))) then ((Zm a d).bind fun e =>
 (Zm a d).bind fun f =>
 (Zm a d).bind fun g =>
 (Qa a b) (Zi (c+(Zi ((Zi ((e.Fields.length:Int)+(f.Guard.Diffs.length:Int)))+(g.Guard.Equals.length:Int))))) (Zi (d+1)))
 else Bx a c
def z45 (N:Nat) (a:(List T0)):Option Bool :=
 Qa a N 0 0
def z22 (N:Nat) (a:T5):Option Bool :=
 bif (decide (a.States≤40)) then (bif (decide ((a.Edges.length:Int)≤80)) then (bif (decide ((a.Timeouts.length:Int)≤40)) then (bif (decide ((a.Roles.length:Int)≤10)) then ((z45 N a.Decls).bind fun b =>
 some b)
 else some false)
 else some false)
 else some false)
 else some false
def z23 (N:Nat) (a:T8):Option Bool :=
 bif (decide (a.States≤40)) then (bif (decide ((a.Finals.length:Int)≤45)) then (bif (decide ((a.Moves.length:Int)≤80)) then (some (decide ((a.Timeouts.length:Int)≤45)))
 else some false)
 else some false)
 else some false
def Zbh (a:(List Zk)):Option Bool :=
 some (decide ((a.length:Int)≤40))
def Qs (a:(List Zk)):Nat→Int→Option Bool
 | 0,_=>none
 | b+1,c =>
 bif (decide (c < (a.length:Int))) then ((Zm a c).bind fun d =>
 bif (decide ((d.S.size:Int) > 100)) then (some false)
 else (Qs a b) (Zi (c+1)))
 else Zbh a
def z12 (N:Nat) (a:(List Zk)):Option Bool :=
 Qs a N 0
def HP (N:Nat) (a:Int):Option Bool :=
 bif (decide (a≥97)) then (bif (decide (a≤122)) then (some true)
 else bif (decide (a≥65)) then (some (decide (a≤90)))
 else some false)
 else bif (decide (a≥65)) then (some (decide (a≤90)))
 else some false
def ZdK (N:Nat) (a:Int):Option Bool :=
 bif (decide (a≥48)) then (some (decide (a≤57)))
 else some false
def ZeM (N:Nat) (a:Int):Option Bool :=
 (HP N a).bind fun b =>
 bif b then (some true)
 else (ZdK N a).bind fun c =>
 bif c then (some true)
 else some (a==95)
def Zap:Option Bool :=
 some true
def Pd (N:Nat) (a:ByteArray):Nat→Int→Option Bool
 | 0,_=>none
 | b+1,c =>
 bif (decide (c < (a.size:Int))) then ((Xq a c).bind fun d =>
 (ZeM N d).bind fun e =>
 bif (!e) then (some false)
 else (Pd N a b) (Zi (c+1)))
 else Zap
def PB (N:Nat) (a:ByteArray):Option Bool :=
 bif (a.toList==(str []).toList) then (some false)
 else (Xq a 0).bind fun b =>
 (HP N b).bind fun c =>
 bif (!c) then (some false)
 else bif (decide ((a.size:Int) > 16)) then (some false)
 else Pd N a N 0
def Zaw (N:Nat):Option (List ByteArray) :=
 some ([(str [97,103,97,105,110]),(str [97,110,100]),(str [97,115]),(str [97,116]),(str [99,97,108,108]),(str [99,104,111,105,99,101]),(str [101,108,115,101]),(str [102,114,111,109]),(str [105,102]),(str [105,110,116]),(str [108,101,110]),(str [108,111,111,112]),(str [109,101,115,115,97,103,101]),(str [111,102]),(str [111,102,102,101,114]),(str [111,110]),(str [111,114]),(str [112,97,114]),(str [112,108,97,121,115]),(str [112,114,111,116,111,99,111,108]),(str [115,101,114,118,105,99,101]),(str [116,101,120,116]),(str [116,105,109,101,115]),(str [116,111]),(str [118,97,114]),(str [119,104,101,114,101]),(str [119,104,105,108,101]),(str [119,105,116,104,105,110])]:List ByteArray)
def DV:Option Bool :=
 some false
def QF (a:(List ByteArray)) (b:ByteArray):Nat→Int→Option Bool
 | 0,_=>none
 | c+1,d =>
 bif (decide (d < (a.length:Int))) then ((Zm a d).bind fun e =>
 bif (e.toList==b.toList) then (some true)
 else (QF a b c) (Zi (d+1)))
 else DV
def Da (N:Nat) (a:(List ByteArray)) (b:ByteArray):Option Bool :=
 QF a b N 0
def Q9 (N:Nat) (a:ByteArray):Option Bool :=
 (PB N a).bind fun b =>
 bif b then ((Zaw N).bind fun c =>
 (Da N c a).bind fun d =>
 some (!d))
 else some false
def Bu:Option Int :=
 some (-1)
def QK (a:(List ByteArray)) (b:ByteArray):Nat→Int→Option Int
 | 0,_=>none
 | c+1,d =>
 bif (decide (d < (a.length:Int))) then ((Zm a d).bind fun e =>
 bif (e.toList==b.toList) then (some d)
 else (QK a b c) (Zi (d+1)))
 else Bu
def LC (N:Nat) (a:(List ByteArray)) (b:ByteArray):Option Int :=
 QK a b N 0
def Do (a:Int):Option Int :=
 some a
def Rw (a:(List T0)):Nat→Int→Int→Option Int
 | 0,_,_=>none
 | b+1,c,d =>
 bif (decide (d < (a.length:Int))) then ((Zm a d).bind fun e =>
 (Rw a b) (Zi (c+(e.Fields.length:Int))) (Zi (d+1)))
 else Do c
def Q5 (N:Nat) (a:(List T0)):Option Int :=
 Rw a N 0 0
def M9 (a:Yg) (b:Int) (c:Int):Option Bool :=
 bif (a.Kind==1) then (bif (decide (a.Lo≥b)) then (bif (decide (a.Hi≤c)) then (some (decide (a.Lo≤a.Hi)))
 else some false)
 else some false)
 else bif (a.Kind==2) then (bif (decide (a.Lo≥b)) then (bif (decide (a.Hi≤c)) then (some (decide (a.Lo≤a.Hi)))
 else some false)
 else some false)
 else some false
def GN (N:Nat) (a:Yg):Option Bool :=
 bif (a.Kind==2) then (M9 a 0 40)
 else M9 a (-1000) 1000
def D4 (N:Nat) (a:ByteArray):Option Bool :=
 (Q9 N a).bind fun b =>
 some b
def Ld (a:ByteArray):Option Bool :=
 some (decide ((a.size:Int)≤50))
def RM (N:Nat) (a:ByteArray) (b:Int) (c:Int) (d:Int→Int→Option Bool) (e:Bool):Option Bool :=
 bif e then ((ssl a (some b) (some c)).bind fun f =>
 (D4 N f).bind fun g =>
 bif (!g) then (some false)
 else d (Zi (c+1)) (Zi (c+1)))
 else d b (Zi (c+1))
def UR (N:Nat) (a:ByteArray):Nat→Int→Int→Option Bool
 | 0,_,_=>none
 | b+1,c,d =>
 bif (decide (d≤(a.size:Int))) then (bif (d==(a.size:Int)) then (RM N a c d (UR N a b) true)
 else (Xq a d).bind fun e =>
 RM N a c d (UR N a b) (e==46))
 else Ld a
def Dn (N:Nat) (a:ByteArray):Option Bool :=
 UR N a N 0 0
def ZaX:Option T4 :=
 some (⟨(str []),(⟨0,0,0⟩:Yg)⟩:T4)
def P1 (a:(List T0)):Nat→Int→Int→Option T4
 | 0,_,_=>none
 | b+1,c,d =>
 bif (decide (d < (a.length:Int))) then ((Zm a d).bind fun e =>
 bif (decide (c < (e.Fields.length:Int))) then ((Zm a d).bind fun f =>
 (Zm f.Fields c).bind fun g =>
 some g)
 else (Zm a d).bind fun h =>
 (P1 a b) (Zi (c-(h.Fields.length:Int))) (Zi (d+1)))
 else ZaX
def MX (N:Nat) (a:(List T0)) (b:Int):Option T4 :=
 P1 a N b 0
def LD (N:Nat) (a:(List T0)) (b:Int):Option Bool :=
 bif (decide (b≥0)) then ((Q5 N a).bind fun c =>
 bif (decide (b < c)) then ((MX N a b).bind fun d =>
 some (d.Sort'.Kind==2))
 else some false)
 else some false
def Pu (a:T6):Option Bool :=
 bif (decide ((a.Diffs.length:Int)≤20)) then (some (decide ((a.Equals.length:Int)≤20)))
 else some false
def Pa (N:Nat) (a:(List T0)) (b:T6):Nat→Int→Option Bool
 | 0,_=>none
 | c+1,d =>
 bif (decide (d < (b.Equals.length:Int))) then ((Zm b.Equals d).bind fun e =>
 (LD N a e.1).bind fun f =>
 bif (!f) then (some false)
 else (Zm b.Equals d).bind fun g =>
 (LD N a g.2).bind fun h =>
 bif (!h) then (some false)
 else (Pa N a b c) (Zi (d+1)))
 else Pu b
def Hj (N:Nat) (a:(List T0)) (b:T6):Option Bool :=
 Pa N a b N 0
def Rm (N:Nat) (a:(List T0)) (b:T6) (c:Int):Nat→Int→Option Bool
 | 0,_=>none
 | d+1,e =>
 bif (decide (e < (b.Diffs.length:Int))) then ((Zm b.Diffs e).bind fun f =>
 bif (decide (f.X < (-1))) then (some false)
 else bif (decide (f.X≥c)) then (some false)
 else bif (decide (f.Y < (-1))) then (some false)
 else bif (decide (f.Y≥c)) then (some false)
 else bif (decide (f.C < (-20000))) then (some false)
 else bif (decide (f.C > 20000)) then (some false)
 else (Rm N a b c d) (Zi (e+1)))
 else Hj N a b
def HM (N:Nat) (a:(List T0)) (b:T6):Option Bool :=
 (Q5 N a).bind fun c =>
 Rm N a b c N 0
def Dh:Option Bool :=
 some true
def Lw (N:Nat) (a:(List T0)) (b:Int) (c:Int) (d:Int→Int→Option Bool) (e:T0):Option Bool :=
 (Dn N e.Name).bind fun f =>
 bif (!f) then (some false)
 else bif (decide ((e.Fields.length:Int) > 4)) then (some false)
 else bif (e.First != b) then (some false)
 else (HM N a e.Guard).bind fun g =>
 bif (!g) then (some false)
 else d (Zi (b+(e.Fields.length:Int))) (Zi (c+1))
def Lf (a:Int) (b:Int→Option Bool):Option Bool :=
 b (Zi (a+1))
def Qx (a:T0) (b:Int) (c:Int→Option Bool):Nat→Int→Option Bool
 | 0,_=>none
 | d+1,e =>
 bif (decide (e < b)) then ((Zm a.Fields e).bind fun f =>
 (Zm a.Fields b).bind fun g =>
 bif (f.Name.toList==g.Name.toList) then (some false)
 else (Qx a b c d) (Zi (e+1)))
 else Lf b c
def VE (N:Nat) (a:(List T0)) (b:Int) (c:Int) (d:Int→Int→Option Bool) (e:T0):Nat→Int→Option Bool
 | 0,_=>none
 | f+1,g =>
 bif (decide (g < (e.Fields.length:Int))) then ((Zm e.Fields g).bind fun h =>
 (GN N h.Sort').bind fun i =>
 bif (!i) then (some false)
 else (Zm e.Fields g).bind fun j =>
 (Q9 N j.Name).bind fun k =>
 bif (!k) then (some false)
 else Qx e g (VE N a b c d e f) N 0)
 else Lw N a b c d e
def L3 (N:Nat) (a:(List T0)) (b:Int) (c:Int) (d:Int→Int→Option Bool) (e:T0):Option Bool :=
 VE N a b c d e N 0
def Pc (N:Nat) (a:(List T0)) (b:Int) (c:Int) (d:Int→Int→Option Bool) (e:T0):Nat→Int→Option Bool
 | 0,_=>none
 | f+1,g =>
 bif (decide (g < c)) then ((Zm a g).bind fun h =>
 bif (h.Name.toList==e.Name.toList) then (some false)
 else (Pc N a b c d e f) (Zi (g+1)))
 else L3 N a b c d e
def Xi (N:Nat) (a:(List T0)):Nat→Int→Int→Option Bool
 | 0,_,_=>none
 | b+1,c,d =>
 bif (decide (d < (a.length:Int))) then ((Zm a d).bind fun e =>
 Pc N a c d (Xi N a b) e N 0)
 else Dh
def L2 (N:Nat) (a:(List T0)):Option Bool :=
 bif (decide ((a.length:Int) > 40)) then (some false)
 else (Q5 N a).bind fun b =>
 bif (decide (b > 24)) then (some false)
 else Xi N a N 0 0
def LP (N:Nat) (a:T5):Option Bool :=
 (Q9 N a.Name).bind fun b =>
 bif b then (bif (decide ((a.Roles.length:Int)≥1)) then (bif (decide ((a.Roles.length:Int)≤6)) then ((L2 N a.Decls).bind fun c =>
 some c)
 else some false)
 else some false)
 else some false
def RW (N:Nat) (a:T5):Nat→Int→Option Bool
 | 0,_=>none
 | b+1,c =>
 bif (decide (c < (a.Roles.length:Int))) then ((Zm a.Roles c).bind fun d =>
 (Q9 N d).bind fun e =>
 bif (!e) then (some false)
 else (Zm a.Roles c).bind fun f =>
 (LC N a.Roles f).bind fun g =>
 bif (decide (g < c)) then (some false)
 else (RW N a b) (Zi (c+1)))
 else LP N a
def GK (N:Nat) (a:T5):Option Bool :=
 RW N a N 0
def SJ (N:Nat) (a:T5) (b:Int):Option Bool :=
 bif (decide (b≥0)) then (some (decide (b < a.States)))
 else some false
def Lm (N:Nat) (a:T5):Option Bool :=
 bif (decide (a.States≥1)) then (bif (decide (a.States≤200)) then ((SJ N a a.Start).bind fun b =>
 bif b then ((SJ N a a.End).bind fun c =>
 bif c then (some (decide ((a.Edges.length:Int)≤400)))
 else some false)
 else some false)
 else some false)
 else some false
def Qj (N:Nat) (a:T5):Nat→Int→Option Bool
 | 0,_=>none
 | b+1,c =>
 bif (decide (c < (a.Edges.length:Int))) then ((Zm a.Edges c).bind fun d =>
 (SJ N a d.From).bind fun e =>
 bif (!e) then (some false)
 else (SJ N a d.To).bind fun f =>
 bif (!f) then (some false)
 else bif (decide (d.Act.From < 0)) then (some false)
 else bif (decide (d.Act.From≥(a.Roles.length:Int))) then (some false)
 else bif (decide (d.Act.To < 0)) then (some false)
 else bif (decide (d.Act.To≥(a.Roles.length:Int))) then (some false)
 else bif (d.Act.From==d.Act.To) then (some false)
 else bif (decide (d.Act.Label < 0)) then (some false)
 else bif (decide (d.Act.Label≥(a.Decls.length:Int))) then (some false)
 else (Qj N a b) (Zi (c+1)))
 else Lm N a
def BX (N:Nat) (a:T5):Option Bool :=
 Qj N a N 0
def DU:Option Bool :=
 some true
def HD (a:Int) (b:Int→Option Bool):Option Bool :=
 b (Zi (a+1))
def SH (a:T2) (b:Int) (c:Int→Option Bool) (d:T2) (e:Bool):Option Bool :=
 bif e then (some false)
 else bif a.Again then (bif (d.To==a.From) then (bif (d.Act.From != a.Act.From) then (some false)
 else bif (d.Act.Label != a.Act.Label) then (some false)
 else c (Zi (b+1)))
 else c (Zi (b+1)))
 else c (Zi (b+1))
def VJ (a:T5) (b:Int) (c:Int→Option Bool) (d:T2):Nat→Int→Option Bool
 | 0,_=>none
 | e+1,f =>
 bif (decide (f < (a.Edges.length:Int))) then ((Zm a.Edges f).bind fun g =>
 bif (f != b) then (bif (d.From==g.From) then (bif ((d.Act.From==g.Act.From) && ((d.Act.To==g.Act.To) && ((d.Act.Label==g.Act.Label) && true))) then (SH d f (VJ a b c d e) g true)
 else bif (d.Act.From != g.Act.From) then (SH d f (VJ a b c d e) g true)
 else SH d f (VJ a b c d e) g d.Again)
 else SH d f (VJ a b c d e) g false)
 else SH d f (VJ a b c d e) g false)
 else HD b c
def Hg (N:Nat) (a:T5) (b:Int) (c:Int→Option Bool) (d:T2) (e:Bool):Option Bool :=
 bif e then (some false)
 else VJ a b c d N 0
def WI (N:Nat) (a:T5):Nat→Int→Option Bool
 | 0,_=>none
 | b+1,c =>
 bif (decide (c < (a.Edges.length:Int))) then ((Zm a.Edges c).bind fun d =>
 bif d.Again then (Hg N a c (WI N a b) d (d.From==a.Start))
 else Hg N a c (WI N a b) d false)
 else DU
def DP (N:Nat) (a:T5):Option Bool :=
 WI N a N 0
def GA (a:(List Int)):Option (List Int) :=
 some a
def BB (a:Int) (b:(List Int)→Int→Option (List Int)) (c:(List Int)):Option (List Int) :=
 b c (Zi (a+1))
def V5 (a:T5) (b:Int) (c:(List Int)→Int→Option (List Int)):Nat→(List Int)→Int→Option (List Int)
 | 0,_,_=>none
 | d+1,e,f =>
 bif (decide (f < (a.Edges.length:Int))) then ((Zm a.Edges f).bind fun g =>
 (Zm e g.To).bind fun h =>
 bif (h==b) then ((Zm e g.From).bind fun i =>
 bif (decide (i < 0)) then ((Zm e g.From).bind fun j =>
 (V5 a b c d) (ZW e g.From (Zi (b+1))) (Zi (f+1)))
 else (V5 a b c d) e (Zi (f+1)))
 else (V5 a b c d) e (Zi (f+1)))
 else BB b c e
def Ub (N:Nat) (a:T5):Nat→(List Int)→Int→Option (List Int)
 | 0,_,_=>none
 | b+1,c,d =>
 bif (decide (d < a.States)) then (V5 a d (Ub N a b) N c 0)
 else GA c
def Hf (N:Nat) (a:T5) (b:(List Int)):Option (List Int) :=
 (Zm b a.End).bind fun c =>
 Ub N a N (ZW b a.End 0) 0
def QR (N:Nat) (a:T5):Nat→(List Int)→Int→Option (List Int)
 | 0,_,_=>none
 | b+1,c,d =>
 bif (decide (d < a.States)) then ((Zm c d).bind fun e =>
 (QR N a b) (ZW c d (-1)) (Zi (d+1)))
 else Hf N a c
def Bn (N:Nat) (a:T5):Option (List Int) :=
 (YG 0 a.States a.States).bind fun b =>
 QR N a N b 0
def D2 (N:Nat) (a:T5) (b:Int) (c:Int):Option Bool :=
 (Zm a.Edges b).bind fun d =>
 (Zm a.Edges c).bind fun e =>
 bif (d.Act.To != e.Act.To) then (some (decide (d.Act.To < e.Act.To)))
 else bif (d.Act.Label != e.Act.Label) then (some (decide (d.Act.Label < e.Act.Label)))
 else some (decide (b < c))
def DH (a:(List Int)):Option (List Int) :=
 some a
def ME (a:(List Int)) (b:Int) (c:(List Int)→Int→Option (List Int)) (d:Int):Option (List Int) :=
 (lsl a none (some d)).bind fun e =>
 (lsl a (some d) none).bind fun f =>
 (Z4 ([b]:List Int) f).bind fun g =>
 (Z4 e g).bind fun h =>
 c h (Zi (b+1))
def SS (N:Nat) (a:T5) (b:(List Int)) (c:Int) (d:(List Int)→Int→Option (List Int)):Nat→Int→Option (List Int)
 | 0,_=>none
 | e+1,f =>
 bif (decide (f < (b.length:Int))) then ((Zm b f).bind fun g =>
 (D2 N a g c).bind fun h =>
 bif h then ((SS N a b c d e) (Zi (f+1)))
 else ME b c d f)
 else ME b c d f
def Vj (N:Nat) (a:T5) (b:Int):Nat→(List Int)→Int→Option (List Int)
 | 0,_,_=>none
 | c+1,d,e =>
 bif (decide (e < (a.Edges.length:Int))) then ((Zm a.Edges e).bind fun f =>
 bif (f.From != b) then ((Vj N a b c) d (Zi (e+1)))
 else SS N a d e (Vj N a b c) N 0)
 else DH d
def G8 (N:Nat) (a:T5) (b:Int):Option (List Int) :=
 Vj N a b N ([]:List Int) 0
def Md (N:Nat) (a:T5):Option Bool :=
 (G8 N a a.End).bind fun b =>
 some ((b.length:Int)==0)
def Q1 (N:Nat) (a:T5) (b:(List Bool)) (c:(List Int)):Nat→Int→Option Bool
 | 0,_=>none
 | d+1,e =>
 bif (decide (e < a.States)) then ((Zm b e).bind fun f =>
 bif (!f) then (some false)
 else (Zm c e).bind fun g =>
 bif (decide (g < 0)) then (some false)
 else (Q1 N a b c d) (Zi (e+1)))
 else Md N a
def Hp (N:Nat) (a:T5) (b:(List Bool)):Option Bool :=
 (Bn N a).bind fun c =>
 Q1 N a b c N 0
def GY (a:Int) (b:(List Bool)→Int→Option Bool) (c:(List Bool)):Option Bool :=
 b c (Zi (a+1))
def Ty (a:T5) (b:Int) (c:(List Bool)→Int→Option Bool):Nat→(List Bool)→Int→Option Bool
 | 0,_,_=>none
 | d+1,e,f =>
 bif (decide (f < (a.Edges.length:Int))) then ((Zm a.Edges f).bind fun g =>
 (Zm a.Edges f).bind fun h =>
 (Zm e h.To).bind fun i =>
 bif i then ((Zm e g.To).bind fun j =>
 (Ty a b c d) (ZW e g.To true) (Zi (f+1)))
 else (Zm a.Edges f).bind fun k =>
 (Zm e k.From).bind fun l =>
 (Zm e g.To).bind fun m =>
 (Ty a b c d) (ZW e g.To l) (Zi (f+1)))
 else GY b c e
def VV (N:Nat) (a:T5):Nat→(List Bool)→Int→Option Bool
 | 0,_,_=>none
 | b+1,c,d =>
 bif (decide (d < a.States)) then (Ty a d (VV N a b) N c 0)
 else Hp N a c
def BQ (N:Nat) (a:T5):Option Bool :=
 (YG false a.States a.States).bind fun b =>
 (Zm b a.Start).bind fun c =>
 VV N a N (ZW b a.Start true) 0
def G3:Option Bool :=
 some true
def Te (N:Nat) (a:T5):Nat→Int→Option Bool
 | 0,_=>none
 | b+1,c =>
 bif (decide (c < (a.Timeouts.length:Int))) then ((Zm a.Timeouts c).bind fun d =>
 (SJ N a d.State).bind fun e =>
 bif (!e) then (some false)
 else bif (decide (c > 0)) then ((Zm a.Timeouts (Zi (c-1))).bind fun f =>
 bif (decide (d.State≤f.State)) then (some false)
 else bif (decide (d.Ticks < 1)) then (some false)
 else bif (decide (d.Ticks > 1000)) then (some false)
 else bif (decide (d.Else < 0)) then (some false)
 else bif (decide (d.Else≥(a.Edges.length:Int))) then (some false)
 else (Zm a.Edges d.Else).bind fun g =>
 bif (g.From != d.State) then (some false)
 else (Zm a.Edges d.Else).bind fun h =>
 bif h.Again then (some false)
 else (Te N a b) (Zi (c+1)))
 else bif (decide (d.Ticks < 1)) then (some false)
 else bif (decide (d.Ticks > 1000)) then (some false)
 else bif (decide (d.Else < 0)) then (some false)
 else bif (decide (d.Else≥(a.Edges.length:Int))) then (some false)
 else (Zm a.Edges d.Else).bind fun i =>
 bif (i.From != d.State) then (some false)
 else (Zm a.Edges d.Else).bind fun j =>
 bif j.Again then (some false)
 else (Te N a b) (Zi (c+1)))
 else G3
def D8 (N:Nat) (a:T5):Option Bool :=
 Te N a N 0
def Ls (N:Nat) (a:T5):Option Bool :=
 (GK N a).bind fun b =>
 bif b then ((BX N a).bind fun c =>
 bif c then ((DP N a).bind fun d =>
 bif d then ((BQ N a).bind fun e =>
 bif e then ((D8 N a).bind fun f =>
 some f)
 else some false)
 else some false)
 else some false)
 else some false
def ZaT:Option Bool :=
 some true
def SU (a:T8):Nat→Int→Option Bool
 | 0,_=>none
 | b+1,c =>
 bif (decide (c < (a.Moves.length:Int))) then ((Zm a.Moves c).bind fun d =>
 bif (decide (d.From < 0)) then (some false)
 else bif (decide (d.From≥a.States)) then (some false)
 else bif (decide (d.To < 0)) then (some false)
 else bif (decide (d.To≥a.States)) then (some false)
 else bif (decide (d.Peer < 0)) then (some false)
 else bif (decide (d.Peer≥6)) then (some false)
 else bif (d.Peer==a.Role) then (some false)
 else bif (decide (d.Label < 0)) then (some false)
 else bif (decide (d.Label≥40)) then (some false)
 else (SU a b) (Zi (c+1)))
 else ZaT
def GH (N:Nat) (a:T8):Option Bool :=
 bif (decide (a.Role < 0)) then (some false)
 else bif (decide (a.Role≥6)) then (some false)
 else bif (decide (a.States < 1)) then (some false)
 else bif (decide (a.States > 200)) then (some false)
 else bif (decide (a.Start < 0)) then (some false)
 else bif (decide (a.Start≥a.States)) then (some false)
 else bif ((a.Finals.length:Int) != a.States) then (some false)
 else bif (decide ((a.Moves.length:Int) > 400)) then (some false)
 else SU a N 0
def Za9:Option Bool :=
 some true
def BY (a:Int) (b:Int→Option Bool):Option Bool :=
 b (Zi (a+1))
def TT (a:T9) (b:Int) (c:Int→Option Bool) (d:T9) (e:Bool):Option Bool :=
 bif e then (some false)
 else bif a.Again then (bif (d.To==a.From) then (bif (!d.Send) then (some false)
 else bif (d.Label != a.Label) then (some false)
 else c (Zi (b+1)))
 else c (Zi (b+1)))
 else c (Zi (b+1))
def WV (a:T8) (b:Int) (c:Int→Option Bool) (d:T9):Nat→Int→Option Bool
 | 0,_=>none
 | e+1,f =>
 bif (decide (f < (a.Moves.length:Int))) then ((Zm a.Moves f).bind fun g =>
 bif (f != b) then (bif (d.From==g.From) then (bif (!(d.Send==g.Send)) then (TT d f (WV a b c d e) g true)
 else bif (d.Peer==g.Peer) then (bif (d.Label==g.Label) then (TT d f (WV a b c d e) g true)
 else TT d f (WV a b c d e) g d.Again)
 else TT d f (WV a b c d e) g d.Again)
 else TT d f (WV a b c d e) g false)
 else TT d f (WV a b c d e) g false)
 else BY b c
def RP (N:Nat) (a:T8) (b:Int) (c:Int→Option Bool) (d:T9) (e:Bool):Option Bool :=
 bif e then (some false)
 else WV a b c d N 0
def XJ (N:Nat) (a:T8):Nat→Int→Option Bool
 | 0,_=>none
 | b+1,c =>
 bif (decide (c < (a.Moves.length:Int))) then ((Zm a.Moves c).bind fun d =>
 bif d.Again then (bif (!d.Send) then (RP N a c (XJ N a b) d true)
 else bif (d.From==a.Start) then (RP N a c (XJ N a b) d true)
 else (Zm a.Finals d.From).bind fun e =>
 RP N a c (XJ N a b) d e)
 else RP N a c (XJ N a b) d false)
 else Za9
def Ba (N:Nat) (a:T8):Option Bool :=
 XJ N a N 0
def ZcW:Option Bool :=
 some true
def UO (a:T8) (b:Int) (c:Int→Option Bool) (d:W5) (e:Bool):Option Bool :=
 bif e then (some false)
 else (Zm a.Moves d.Else).bind fun f =>
 bif (f.From != d.State) then (some false)
 else bif (!f.Send) then (some false)
 else bif f.Again then (some false)
 else c (Zi (b+1))
def WN (a:T8):Nat→Int→Option Bool
 | 0,_=>none
 | b+1,c =>
 bif (decide (c < (a.Timeouts.length:Int))) then ((Zm a.Timeouts c).bind fun d =>
 bif (decide (d.Ticks < 1)) then (UO a c (WN a b) d true)
 else bif (decide (d.Ticks > 1000)) then (UO a c (WN a b) d true)
 else bif (decide (d.Else < 0)) then (UO a c (WN a b) d true)
 else bif (decide (d.Else≥(a.Moves.length:Int))) then (UO a c (WN a b) d true)
 else bif (decide (c > 0)) then ((Zm a.Timeouts (Zi (c-1))).bind fun e =>
 UO a c (WN a b) d (decide (d.State≤e.State)))
 else UO a c (WN a b) d false)
 else ZcW
def GF (N:Nat) (a:T8):Option Bool :=
 WN a N 0
def Zae:Option Bool :=
 some false
def Ul (a:(List Int)) (b:Int):Nat→Int→Option Bool
 | 0,_=>none
 | c+1,d =>
 bif (decide (d < (a.length:Int))) then ((Zm a d).bind fun e =>
 bif (e==b) then (some true)
 else (Ul a b c) (Zi (d+1)))
 else Zae
def GJ (N:Nat) (a:(List Int)) (b:Int):Option Bool :=
 Ul a b N 0
def BR (a:Int) (b:(List Int)) (c:Bool):Option (List Int) :=
 bif (!c) then ((Z4 b ([a]:List Int)).bind fun d =>
 some d)
 else some b
def Ta (a:(List Int)) (b:Int):Nat→(List Int)→Bool→Int→Option (List Int)
 | 0,_,_,_=>none
 | c+1,d,e,f =>
 bif (decide (f < (a.length:Int))) then (bif (!e) then ((Zm a f).bind fun g =>
 bif (decide (g≥b)) then ((Zm a f).bind fun h =>
 bif (decide (h > b)) then ((Z4 d ([b]:List Int)).bind fun i =>
 (Zm a f).bind fun j =>
 (Z4 i ([j]:List Int)).bind fun k =>
 (Ta a b c) k true (Zi (f+1)))
 else (Zm a f).bind fun l =>
 (Z4 d ([l]:List Int)).bind fun m =>
 (Ta a b c) m true (Zi (f+1)))
 else (Zm a f).bind fun o =>
 (Z4 d ([o]:List Int)).bind fun p =>
 (Ta a b c) p e (Zi (f+1)))
 else (Zm a f).bind fun q =>
 (Z4 d ([q]:List Int)).bind fun r =>
 (Ta a b c) r e (Zi (f+1)))
 else BR b d e
def DT (N:Nat) (a:(List Int)) (b:Int):Option (List Int) :=
 Ta a b N ([]:List Int) false 0
def Zb0 (a:(List Int)):Option (List Int) :=
 some a
def ZbF (a:Int) (b:(List Int)→Int→Option (List Int)) (c:(List Int)):Option (List Int) :=
 b c (Zi (a+1))
def Ra (N:Nat) (a:T8) (b:Int) (c:(List Int)→Int→Option (List Int)):Nat→(List Int)→Int→Option (List Int)
 | 0,_,_=>none
 | d+1,e,f =>
 bif (decide (f < (a.Moves.length:Int))) then ((Zm a.Moves f).bind fun g =>
 (GJ N e g.From).bind fun h =>
 bif h then ((Zm a.Moves f).bind fun i =>
 (DT N e i.To).bind fun j =>
 (Ra N a b c d) j (Zi (f+1)))
 else (Ra N a b c d) e (Zi (f+1)))
 else ZbF b c e
def Ug (N:Nat) (a:T8):Nat→(List Int)→Int→Option (List Int)
 | 0,_,_=>none
 | b+1,c,d =>
 bif (decide (d < a.States)) then (Ra N a d (Ug N a b) N c 0)
 else Zb0 c
def z66 (N:Nat) (a:T8):Option (List Int) :=
 Ug N a N ([a.Start]:List Int) 0
def L7 (N:Nat) (a:T8):Option Bool :=
 (GH N a).bind fun b =>
 bif b then ((Ba N a).bind fun c =>
 bif c then ((GF N a).bind fun d =>
 bif d then ((z66 N a).bind fun e =>
 some ((e.length:Int)==a.States))
 else some false)
 else some false)
 else some false
def Zlu:Option Bool :=
 some true
def SL (a:T5) (b:T8):Nat→Int→Option Bool
 | 0,_=>none
 | c+1,d =>
 bif (decide (d < (b.Moves.length:Int))) then ((Zm b.Moves d).bind fun e =>
 bif (decide (e.Peer≥(a.Roles.length:Int))) then (some false)
 else (Zm b.Moves d).bind fun f =>
 bif (decide (f.Label≥(a.Decls.length:Int))) then (some false)
 else (SL a b c) (Zi (d+1)))
 else Zlu
def ZcC (N:Nat) (a:T5) (b:T8):Option Bool :=
 (Ls N a).bind fun c =>
 bif (!c) then (some false)
 else (L7 N b).bind fun d =>
 bif (!d) then (some false)
 else bif (decide (b.Role≥(a.Roles.length:Int))) then (some false)
 else SL a b N 0
def Rv (N:Nat) (a:Zk):Option Int :=
 bif (a.Kind==2) then (some (a.S.size:Int))
 else some a.N
def Sc (N:Nat) (a:Yg) (b:Zk) (c:Bool):Option Bool :=
 bif c then (some false)
 else bif (b.Kind==a.Kind) then ((Rv N b).bind fun d =>
 bif (decide (d≥a.Lo)) then ((Rv N b).bind fun e =>
 some (decide (e≤a.Hi)))
 else some false)
 else some false
def Pw (N:Nat) (a:Yg) (b:Zk):Option Bool :=
 bif (b.Kind==2) then (bif (b.N != 0) then (Sc N a b true)
 else bif (b.Kind==1) then (Sc N a b (!(b.S.toList==(str []).toList)))
 else Sc N a b false)
 else bif (b.Kind==1) then (Sc N a b (!(b.S.toList==(str []).toList)))
 else Sc N a b false
def Qi (N:Nat) (a:Yg) (b:Zk):Nat→Int→Option Bool
 | 0,_=>none
 | c+1,d =>
 bif (decide (d < (b.S.size:Int))) then ((Xq b.S d).bind fun e =>
 bif (decide (e < 32)) then (some false)
 else (Xq b.S d).bind fun f =>
 bif (decide (f > 126)) then (some false)
 else (Qi N a b c) (Zi (d+1)))
 else Pw N a b
def Hr (N:Nat) (a:Yg) (b:Zk):Option Bool :=
 Qi N a b N 0
def ZbU:Option Bool :=
 some true
def S6 (N:Nat) (a:(List T0)) (b:(List Zk)):Nat→Int→Option Bool
 | 0,_=>none
 | c+1,d =>
 bif (decide (d < (b.length:Int))) then ((Zm b d).bind fun e =>
 bif (!((e.Kind==0) && ((e.N==0) && ((e.S.toList==(str []).toList) && true)))) then ((MX N a d).bind fun f =>
 (Zm b d).bind fun g =>
 (Hr N f.Sort' g).bind fun h =>
 bif (!h) then (some false)
 else (S6 N a b c) (Zi (d+1)))
 else (S6 N a b c) (Zi (d+1)))
 else ZbU
def So (N:Nat) (a:(List T0)) (b:(List Zk)):Option Bool :=
 (Q5 N a).bind fun c =>
 bif ((b.length:Int) != c) then (some false)
 else S6 N a b N 0
def ZaF (N:Nat) (a:T5) (b:T8) (c:ZM):Option Bool :=
 (ZcC N a b).bind fun d =>
 bif d then (bif (decide (c.At≥0)) then (bif (decide (c.At < b.States)) then ((So N a.Decls c.Known).bind fun e =>
 some e)
 else some false)
 else some false)
 else some false
def ZpA:Option Int :=
 some (-1)
def Q8 (a:T8) (b:Int) (c:T3):Nat→Int→Option Int
 | 0,_=>none
 | d+1,e =>
 bif (decide (e < (a.Moves.length:Int))) then ((Zm a.Moves e).bind fun f =>
 bif (f.From==b) then (bif (f.Send==c.Send) then (bif (f.Peer==c.Peer) then (bif (f.Label==c.Label) then (some e)
 else (Q8 a b c d) (Zi (e+1)))
 else (Q8 a b c d) (Zi (e+1)))
 else (Q8 a b c d) (Zi (e+1)))
 else (Q8 a b c d) (Zi (e+1)))
 else ZpA
def ZaU (N:Nat) (a:T8) (b:Int) (c:T3):Option Int :=
 Q8 a b c N 0
def Hz (N:Nat) (a:Yg):Option Bool :=
 bif (a.Kind==1) then (bif (decide ((-1000)≤a.Lo)) then (bif (decide (a.Lo≤a.Hi)) then (some (decide (a.Hi≤1000)))
 else some false)
 else some false)
 else bif (a.Kind==2) then (bif (decide (0≤a.Lo)) then (bif (decide (a.Lo≤a.Hi)) then (some (decide (a.Hi≤40)))
 else some false)
 else some false)
 else some false
def ZcS:Option Bool :=
 some true
def Rj (a:ByteArray):Nat→Int→Option Bool
 | 0,_=>none
 | b+1,c =>
 bif (decide (c < (a.size:Int))) then ((Xq a c).bind fun d =>
 bif (decide (d < 32)) then (some false)
 else (Xq a c).bind fun e =>
 bif (decide (e > 126)) then (some false)
 else (Rj a b) (Zi (c+1)))
 else ZcS
def BW (N:Nat) (a:ByteArray):Option Bool :=
 Rj a N 0
def Rh (N:Nat) (a:Zk):Option Bool :=
 bif (a.Kind==1) then (bif (decide (a.N≥(-1000))) then (bif (decide (a.N≤1000)) then (some (a.S.toList==(str []).toList))
 else some false)
 else some false)
 else bif (a.Kind==2) then (bif (a.N==0) then (bif (decide ((a.S.size:Int)≤40)) then ((BW N a.S).bind fun b =>
 some b)
 else some false)
 else some false)
 else some false
def L8 (N:Nat) (a:Zk):Option Int :=
 bif (a.Kind==1) then (some a.N)
 else bif (a.Kind==2) then (some (a.S.size:Int))
 else some 0
def Pz (N:Nat) (a:Yg) (b:Zk):Option Bool :=
 (Hz N a).bind fun c =>
 bif c then ((Rh N b).bind fun d =>
 bif d then (bif (a.Kind==b.Kind) then ((L8 N b).bind fun e =>
 bif (decide (e≥a.Lo)) then ((L8 N b).bind fun f =>
 some (decide (f≤a.Hi)))
 else some false)
 else some false)
 else some false)
 else some false
def ZnP:Option Bool :=
 some true
def GU (N:Nat) (a:(List T4)) (b:(List Zk)):Nat→Int→Option Bool
 | 0,_=>none
 | c+1,d =>
 bif (decide (d < (a.length:Int))) then ((Zm a d).bind fun e =>
 (Zm b d).bind fun f =>
 (Pz N e.Sort' f).bind fun g =>
 bif (!g) then (some false)
 else (GU N a b c) (Zi (d+1)))
 else ZnP
def ZdT (N:Nat) (a:(List T4)) (b:(List Zk)):Option Bool :=
 bif ((a.length:Int) != (b.length:Int)) then (some false)
 else GU N a b N 0
def Zdz (N:Nat) (a:T0) (b:(List Zk)):Option Bool :=
 (ZdT N a.Fields b).bind fun c =>
 some c
def Tu (N:Nat) (a:(List T0)) (b:Int):Option Bool :=
 (L2 N a).bind fun c =>
 bif c then (bif (decide (b≥0)) then (some (decide (b < (a.length:Int))))
 else some false)
 else some false
def PE (a:T0) (b:(List Zk)):Option Bool :=
 some ((b.length:Int)==(a.Fields.length:Int))
def Rf (N:Nat) (a:T0) (b:(List Zk)):Nat→Int→Option Bool
 | 0,_=>none
 | c+1,d =>
 bif (decide (d < (b.length:Int))) then (bif (decide (d < (a.Fields.length:Int))) then ((Zm a.Fields d).bind fun e =>
 (Zm b d).bind fun f =>
 (Hr N e.Sort' f).bind fun g =>
 bif (!g) then (some false)
 else (Rf N a b c) (Zi (d+1)))
 else PE a b)
 else PE a b
def LX (N:Nat) (a:T0) (b:(List Zk)):Option Bool :=
 Rf N a b N 0
def Za6 (a:(List Zk)):Option (List Zk) :=
 some a
def QO (a:T0) (b:(List Zk)):Nat→(List Zk)→Int→Option (List Zk)
 | 0,_,_=>none
 | c+1,d,e =>
 bif (decide (e < (b.length:Int))) then ((Zm b e).bind fun f =>
 (Zm d (Zi (a.First+e))).bind fun g =>
 (QO a b c) (ZW d (Zi (a.First+e)) f) (Zi (e+1)))
 else Za6 d
def PU (N:Nat) (a:T0) (b:(List Zk)) (c:(List Zk)):Option (List Zk) :=
 (Z4 ([]:List Zk) c).bind fun d =>
 QO a b N d 0
def ZcO:Option Bool :=
 some true
def SF (a:T6) (b:(List Zk)):Nat→Int→Option Bool
 | 0,_=>none
 | c+1,d =>
 bif (decide (d < (a.Equals.length:Int))) then ((Zm a.Equals d).bind fun e =>
 (Zm b e.1).bind fun f =>
 (Zm a.Equals d).bind fun g =>
 (Zm b g.2).bind fun h =>
 bif (f.Kind==0) then (some false)
 else bif (h.Kind==0) then (some false)
 else bif (!(f.S.toList==h.S.toList)) then (some false)
 else (SF a b c) (Zi (d+1)))
 else ZcO
def DE (N:Nat) (a:T6) (b:(List Zk)):Option Bool :=
 SF a b N 0
def PS (a:(List Zk)) (b:Int) (c:Int→Option Bool) (d:T1) (e:Int) (f:Int):Option Bool :=
 bif (decide (d.X≥0)) then ((Zm a d.X).bind fun g =>
 bif (g.Kind==0) then (some false)
 else bif (decide (d.Y≥0)) then ((Zm a d.Y).bind fun h =>
 bif (h.Kind==0) then (some false)
 else bif (decide ((Zi (e-f)) > d.C)) then (some false)
 else c (Zi (b+1)))
 else bif (decide ((Zi (e-f)) > d.C)) then (some false)
 else c (Zi (b+1)))
 else bif (decide (d.Y≥0)) then ((Zm a d.Y).bind fun i =>
 bif (i.Kind==0) then (some false)
 else bif (decide ((Zi (e-f)) > d.C)) then (some false)
 else c (Zi (b+1)))
 else bif (decide ((Zi (e-f)) > d.C)) then (some false)
 else c (Zi (b+1))
def Mb (N:Nat) (a:(List Zk)) (b:Int) (c:Int→Option Bool) (d:T1) (e:Int):Option Bool :=
 bif (decide (d.Y≥0)) then ((Zm a d.Y).bind fun f =>
 (Rv N f).bind fun g =>
 PS a b c d e g)
 else PS a b c d e 0
def Vt (N:Nat) (a:T6) (b:(List Zk)):Nat→Int→Option Bool
 | 0,_=>none
 | c+1,d =>
 bif (decide (d < (a.Diffs.length:Int))) then ((Zm a.Diffs d).bind fun e =>
 bif (decide (e.X≥0)) then ((Zm b e.X).bind fun f =>
 (Rv N f).bind fun g =>
 Mb N b d (Vt N a b c) e g)
 else Mb N b d (Vt N a b c) e 0)
 else DE N a b
def MI (N:Nat) (a:T6) (b:(List Zk)):Option Bool :=
 Vt N a b N 0
def TG (N:Nat) (a:(List T0)) (b:Int) (c:(List Zk)) (d:(List Zk)):Option Bool :=
 (Tu N a b).bind fun e =>
 bif (!e) then (some false)
 else (So N a d).bind fun f =>
 bif (!f) then (some false)
 else (Zm a b).bind fun g =>
 (LX N g c).bind fun h =>
 bif (!h) then (some false)
 else (Zm a b).bind fun i =>
 (Zm a b).bind fun j =>
 (PU N j c d).bind fun k =>
 (MI N i.Guard k).bind fun l =>
 some l
def Zad:Option Bool :=
 some true
def VP (a:(List Zk)) (b:(List Zk)):Nat→Int→Option Bool
 | 0,_=>none
 | c+1,d =>
 bif (decide (d < (a.length:Int))) then ((Zm a d).bind fun e =>
 (Zm b d).bind fun f =>
 bif (!((e.Kind==f.Kind) && ((e.N==f.N) && ((e.S.toList==f.S.toList) && true)))) then (some false)
 else (VP a b c) (Zi (d+1)))
 else Zad
def TO (N:Nat) (a:(List Zk)) (b:(List Zk)):Option Bool :=
 bif ((a.length:Int) != (b.length:Int)) then (some false)
 else VP a b N 0
def QP (N:Nat) (a:(List T0)) (b:Int) (c:(List Zk)) (d:(List Zk)):Option ((List Zk) × Int) :=
 (Tu N a b).bind fun e =>
 bif (!e) then (some (([]:List Zk),1))
 else (So N a d).bind fun f =>
 bif (!f) then (some (([]:List Zk),1))
 else (Zm a b).bind fun g =>
 (LX N g c).bind fun h =>
 bif (!h) then (some (([]:List Zk),11))
 else (Zm a b).bind fun i =>
 (PU N i c d).bind fun j =>
 some (j,0)
def RS (N:Nat) (a:T5) (b:T8) (c:ZM) (d:T3) (e:Int) (f:Bool):Option (ZM × Int) :=
 bif f then (some ((⟨0,([]:List Zk),([]:List Zk)⟩:ZM),17))
 else (Zm b.Moves e).bind fun g =>
 (QP N a.Decls d.Label d.Values c.Known).bind fun h =>
 bif d.Send then ((Z4 ([]:List Zk) d.Values).bind fun i =>
 some ((⟨g.To,h.1,i⟩:ZM),0))
 else some ((⟨g.To,h.1,([]:List Zk)⟩:ZM),0)
def Zjc (N:Nat) (a:T5) (b:T8) (c:ZM) (d:T3):Option (ZM × Int) :=
 (ZaF N a b c).bind fun e =>
 bif (!e) then (some ((⟨0,([]:List Zk),([]:List Zk)⟩:ZM),1))
 else (ZaU N b c.At d).bind fun f =>
 bif (d.Role != b.Role) then (some ((⟨0,([]:List Zk),([]:List Zk)⟩:ZM),12))
 else bif (decide (f < 0)) then (some ((⟨0,([]:List Zk),([]:List Zk)⟩:ZM),23))
 else (Zm a.Decls d.Label).bind fun g =>
 (Zdz N g d.Values).bind fun h =>
 bif (!h) then (some ((⟨0,([]:List Zk),([]:List Zk)⟩:ZM),11))
 else (TG N a.Decls d.Label d.Values c.Known).bind fun i =>
 bif (!i) then (RS N a b c d f true)
 else (Zm b.Moves f).bind fun j =>
 bif j.Again then ((TO N d.Values c.Pending).bind fun k =>
 RS N a b c d f (!k))
 else RS N a b c d f false
def G7 (a:Z6):Option Bool :=
 bif (decide ((a.Name.size:Int)≤100)) then (bif (decide ((a.Vars.length:Int)≤20)) then (bif (decide ((a.Handlers.length:Int)≤60)) then (bif (decide ((a.Offers.length:Int)≤60)) then (some (decide ((a.Code.length:Int)≤300)))
 else some false)
 else some false)
 else some false)
 else some false
def Qb (a:Z6):Nat→Int→Option Bool
 | 0,_=>none
 | b+1,c =>
 bif (decide (c < (a.Vars.length:Int))) then ((Zm a.Vars c).bind fun d =>
 bif (decide ((d.Name.size:Int) > 100)) then (some false)
 else (Zm a.Vars c).bind fun e =>
 bif (decide ((e.Init.S.size:Int) > 100)) then (some false)
 else (Qb a b) (Zi (c+1)))
 else G7 a
def DY (N:Nat) (a:Z6):Option Bool :=
 Qb a N 0
def Qo (N:Nat) (a:Z6):Nat→Int→Option Bool
 | 0,_=>none
 | b+1,c =>
 bif (decide (c < (a.Code.length:Int))) then ((Zm a.Code c).bind fun d =>
 bif (decide ((d.S.size:Int) > 100)) then (some false)
 else (Qo N a b) (Zi (c+1)))
 else DY N a
def Ds (N:Nat) (a:Z6):Option Bool :=
 Qo N a N 0
def HT (N:Nat) (a:Z7):Option Bool :=
 (z22 N a.G).bind fun b =>
 bif b then ((z23 N a.M).bind fun c =>
 bif c then ((Ds N a.P).bind fun d =>
 some d)
 else some false)
 else some false
def Za7 (a:(List Tf)):Option Bool :=
 some (decide ((a.length:Int)≤12))
def H9 (a:Int) (b:Int→Option Bool):Option Bool :=
 b (Zi (a+1))
def R4 (a:(List Tf)) (b:Int) (c:Int→Option Bool):Nat→Int→Option Bool
 | 0,_=>none
 | d+1,e =>
 bif (decide (e < b)) then ((Zm a e).bind fun f =>
 (Zm a b).bind fun g =>
 bif (f.Name.toList==g.Name.toList) then (some false)
 else (R4 a b c d) (Zi (e+1)))
 else H9 b c
def V6 (N:Nat) (a:(List Tf)):Nat→Int→Option Bool
 | 0,_=>none
 | b+1,c =>
 bif (decide (c < (a.length:Int))) then ((Zm a c).bind fun d =>
 (PB N d.Name).bind fun e =>
 bif (!e) then (some false)
 else (Zm a c).bind fun f =>
 (Zm a c).bind fun g =>
 (Pz N f.Sort' g.Init).bind fun h =>
 bif (!h) then (some false)
 else R4 a c (V6 N a b) N 0)
 else Za7 a
def D7 (N:Nat) (a:(List Tf)):Option Bool :=
 V6 N a N 0
def HF (N:Nat) (a:Int) (b:Int) (c:Int):Option Bool :=
 bif (decide (a≥0)) then (bif (decide (a < 6)) then (bif (a != c) then (bif (decide (b≥0)) then (some (decide (b < 40)))
 else some false)
 else some false)
 else some false)
 else some false
def LN (a:Int) (b:Bool):Option (Int × Int) :=
 bif b then (some (0,11))
 else bif (a==4) then (some (0,3))
 else bif (a==19) then (some (0,999))
 else bif (a==20) then (some (0,999))
 else bif (a==22) then (some (0,999))
 else bif (a==21) then (some (1,50))
 else some (0,0)
def Gf (N:Nat) (a:Int):Option (Int × Int) :=
 bif (a==1) then (some ((-1000),1000))
 else bif (a==3) then (LN a true)
 else LN a (a==5)
def Mz (N:Nat) (a:ByteArray):Option Zk :=
 some (⟨2,0,a⟩:Zk)
def Gd (N:Nat) (a:Wy):Option Bool :=
 bif (decide (a.Op < 1)) then (some false)
 else bif (decide (a.Op > 24)) then (some false)
 else (Gf N a.Op).bind fun b =>
 bif (decide (a.N < b.1)) then (some false)
 else bif (decide (a.N > b.2)) then (some false)
 else bif (a.Op==2) then ((Mz N a.S).bind fun c =>
 (Rh N c).bind fun d =>
 some d)
 else some (a.S.toList==(str []).toList)
def L5 (N:Nat) (a:Int):Option Bool :=
 bif (a==19) then (some true)
 else bif (a==20) then (some true)
 else some (a==22)
def Zbi:Option Bool :=
 some true
def VU (N:Nat) (a:Z6):Nat→Int→Option Bool
 | 0,_=>none
 | b+1,c =>
 bif (decide (c < (a.Code.length:Int))) then ((Zm a.Code c).bind fun d =>
 (Gd N d).bind fun e =>
 bif (!e) then (some false)
 else (L5 N d.Op).bind fun f =>
 bif f then (bif (decide (d.N≥(a.Code.length:Int))) then (some false)
 else bif (d.Op==3) then (bif (decide (d.N≥(a.Vars.length:Int))) then (some false)
 else (VU N a b) (Zi (c+1)))
 else bif (d.Op==5) then (bif (decide (d.N≥(a.Vars.length:Int))) then (some false)
 else (VU N a b) (Zi (c+1)))
 else (VU N a b) (Zi (c+1)))
 else bif (d.Op==3) then (bif (decide (d.N≥(a.Vars.length:Int))) then (some false)
 else (VU N a b) (Zi (c+1)))
 else bif (d.Op==5) then (bif (decide (d.N≥(a.Vars.length:Int))) then (some false)
 else (VU N a b) (Zi (c+1)))
 else (VU N a b) (Zi (c+1)))
 else Zbi
def Mf (N:Nat) (a:Z6):Option Bool :=
 VU N a N 0
def Ql (N:Nat) (a:Z6):Nat→Int→Option Bool
 | 0,_=>none
 | b+1,c =>
 bif (decide (c < (a.Offers.length:Int))) then ((Zm a.Offers c).bind fun d =>
 (HF N d.Peer d.Label a.Role).bind fun e =>
 bif (!e) then (some false)
 else bif (decide (d.When < (-1))) then (some false)
 else bif (decide (d.When≥(a.Code.length:Int))) then (some false)
 else bif (decide (d.Args < 0)) then (some false)
 else bif (decide (d.Args≥(a.Code.length:Int))) then (some false)
 else (Ql N a b) (Zi (c+1)))
 else Mf N a
def PF (N:Nat) (a:Z6):Option Bool :=
 Ql N a N 0
def BT (a:Int) (b:Int→Option Bool):Option Bool :=
 b (Zi (a+1))
def SD (a:Z6) (b:Int) (c:Int→Option Bool) (d:L9):Nat→Int→Option Bool
 | 0,_=>none
 | e+1,f =>
 bif (decide (f < b)) then ((Zm a.Handlers f).bind fun g =>
 bif (g.Peer==d.Peer) then ((Zm a.Handlers f).bind fun h =>
 bif (h.Label==d.Label) then (some false)
 else (SD a b c d e) (Zi (f+1)))
 else (SD a b c d e) (Zi (f+1)))
 else BT b c
def Vl (N:Nat) (a:Z6):Nat→Int→Option Bool
 | 0,_=>none
 | b+1,c =>
 bif (decide (c < (a.Handlers.length:Int))) then ((Zm a.Handlers c).bind fun d =>
 (HF N d.Peer d.Label a.Role).bind fun e =>
 bif (!e) then (some false)
 else bif (decide (d.Entry < 0)) then (some false)
 else bif (decide (d.Entry≥(a.Code.length:Int))) then (some false)
 else SD a c (Vl N a b) d N 0)
 else PF N a
def Ms (N:Nat) (a:Z6):Option Bool :=
 (PB N a.Name).bind fun b =>
 bif (!b) then (some false)
 else bif (decide (a.Role < 0)) then (some false)
 else bif (decide (a.Role≥6)) then (some false)
 else (D7 N a.Vars).bind fun c =>
 bif (!c) then (some false)
 else bif (decide ((a.Handlers.length:Int) > 40)) then (some false)
 else bif (decide ((a.Offers.length:Int) > 40)) then (some false)
 else bif (decide ((a.Code.length:Int) < 1)) then (some false)
 else bif (decide ((a.Code.length:Int) > 1000)) then (some false)
 else Vl N a N 0
def HL (a:(List Int)):Option (List Int) :=
 some a
def S2 (a:(List T0)) (b:Int):Nat→(List Int)→Int→Option (List Int)
 | 0,_,_=>none
 | c+1,d,e =>
 bif (decide (b < (a.length:Int))) then ((Zm a b).bind fun f =>
 bif (decide (e < (f.Fields.length:Int))) then ((Zm a b).bind fun g =>
 (Zm g.Fields e).bind fun h =>
 (Z4 d ([h.Sort'.Kind]:List Int)).bind fun i =>
 (S2 a b c) i (Zi (e+1)))
 else HL d)
 else HL d
def Hq (N:Nat) (a:(List T0)) (b:Int):Option (List Int) :=
 S2 a b N ([]:List Int) 0
def Zce (a:(List YI)):Option (List YI) :=
 some a
def Pf (N:Nat) (a:(List T0)) (b:Int) (c:(List YI)→Int→Option (List YI)) (d:U2) (e:(List YI)):Option (List YI) :=
 (Hq N a d.Label).bind fun f =>
 (Z4 e ([(⟨d.Args,d.Label,([]:List Int),f⟩:YI)]:List YI)).bind fun g =>
 c g (Zi (b+1))
def Uu (N:Nat) (a:Z6) (b:(List T0)):Nat→(List YI)→Int→Option (List YI)
 | 0,_,_=>none
 | c+1,d,e =>
 bif (decide (e < (a.Offers.length:Int))) then ((Zm a.Offers e).bind fun f =>
 bif (f.When != (-1)) then ((Z4 d ([(⟨f.When,f.Label,([]:List Int),([1]:List Int)⟩:YI)]:List YI)).bind fun g =>
 Pf N b e (Uu N a b c) f g)
 else Pf N b e (Uu N a b c) f d)
 else Zce d
def Gi (N:Nat) (a:Z6) (b:(List T0)) (c:(List YI)):Option (List YI) :=
 Uu N a b N c 0
def QW (N:Nat) (a:Z6) (b:(List T0)):Nat→(List YI)→Int→Option (List YI)
 | 0,_,_=>none
 | c+1,d,e =>
 bif (decide (e < (a.Handlers.length:Int))) then ((Zm a.Handlers e).bind fun f =>
 (Hq N b f.Label).bind fun g =>
 (Z4 d ([(⟨f.Entry,f.Label,g,([]:List Int)⟩:YI)]:List YI)).bind fun h =>
 (QW N a b c) h (Zi (e+1)))
 else Gi N a b d
def z68 (N:Nat) (a:Z6) (b:(List T0)):Option (List YI) :=
 QW N a b N ([]:List YI) 0
def Mg (a:Int) (b:Bool):Option (ByteArray × ByteArray) :=
 bif b then (some ((str [105]),(str [105])))
 else bif (a==17) then (some ((str [116,116]),(str [116])))
 else bif (a==18) then (some ((str [116]),(str [105])))
 else bif (a==20) then (some ((str [105]),(str [])))
 else some ((str []),(str []))
def VZ (a:Int) (b:Bool):Option (ByteArray × ByteArray) :=
 bif b then (some ((str [105,105]),(str [105])))
 else bif (a==11) then (Mg a true)
 else Mg a (a==14)
def Gs (N:Nat) (a:Int):Option (ByteArray × ByteArray) :=
 bif (a==1) then (some ((str []),(str [105])))
 else bif (a==2) then (some ((str []),(str [116])))
 else bif (a==6) then (VZ a true)
 else bif (a==7) then (VZ a true)
 else bif (a==8) then (VZ a true)
 else bif (a==9) then (VZ a true)
 else bif (a==10) then (VZ a true)
 else bif (a==13) then (VZ a true)
 else bif (a==15) then (VZ a true)
 else VZ a (a==16)
def Hb (N:Nat) (a:Int):Option Int :=
 bif (a==105) then (some 1)
 else some 2
def ZcI (a:(List Int)):Option ((List Int) × Bool) :=
 some (a,(decide ((a.length:Int)≤16)))
def Pb (N:Nat) (a:ByteArray × ByteArray):Nat→(List Int)→Int→Option ((List Int) × Bool)
 | 0,_,_=>none
 | b+1,c,d =>
 bif (decide (d < (a.2.size:Int))) then ((Xq a.2 d).bind fun e =>
 (Hb N e).bind fun f =>
 (Z4 c ([f]:List Int)).bind fun g =>
 (Pb N a b) g (Zi (d+1)))
 else ZcI c
def GR (N:Nat) (a:(List Int)) (b:ByteArray × ByteArray):Option ((List Int) × Bool) :=
 (lsl a none (some (Zi ((a.length:Int)-(b.1.size:Int))))).bind fun c =>
 (Z4 ([]:List Int) c).bind fun d =>
 Pb N b N d 0
def RA (N:Nat) (a:(List Int)) (b:ByteArray × ByteArray):Nat→Int→Option ((List Int) × Bool)
 | 0,_=>none
 | c+1,d =>
 bif (decide (d < (b.1.size:Int))) then (bif (decide ((a.length:Int)≤d)) then (some (([]:List Int),false))
 else (Zm a (Zi ((Zi ((a.length:Int)-1))-d))).bind fun e =>
 (Xq b.1 d).bind fun f =>
 (Hb N f).bind fun g =>
 bif (e != g) then (some (([]:List Int),false))
 else (RA N a b c) (Zi (d+1)))
 else GR N a b
def GQ (N:Nat) (a:Z6) (b:Wy) (c:(List Int)) (d:(List Int)):Option ((List Int) × Bool) :=
 bif (b.Op==3) then ((Z4 ([]:List Int) c).bind fun e =>
 (Zm a.Vars b.N).bind fun f =>
 (Z4 e ([f.Sort'.Kind]:List Int)).bind fun g =>
 some (g,(decide ((c.length:Int) < 16))))
 else bif (b.Op==4) then (bif (decide (b.N≥(d.length:Int))) then (some (([]:List Int),false))
 else (Z4 ([]:List Int) c).bind fun h =>
 (Zm d b.N).bind fun i =>
 (Z4 h ([i]:List Int)).bind fun j =>
 some (j,(decide ((c.length:Int) < 16))))
 else bif (b.Op==5) then (bif ((c.length:Int)==0) then (some (([]:List Int),false))
 else (Zm c (Zi ((c.length:Int)-1))).bind fun k =>
 (Zm a.Vars b.N).bind fun l =>
 bif (k != l.Sort'.Kind) then (some (([]:List Int),false))
 else (lsl c none (some (Zi ((c.length:Int)-1)))).bind fun m =>
 some (m,true))
 else bif (b.Op==12) then (bif (decide ((c.length:Int) < 2)) then (some (([]:List Int),false))
 else (Zm c (Zi ((c.length:Int)-1))).bind fun o =>
 (Zm c (Zi ((c.length:Int)-2))).bind fun p =>
 bif (o != p) then (some (([]:List Int),false))
 else (Zm c (Zi ((c.length:Int)-1))).bind fun q =>
 bif (q != 1) then ((Zm c (Zi ((c.length:Int)-1))).bind fun r =>
 bif (r != 2) then (some (([]:List Int),false))
 else (lsl c none (some (Zi ((c.length:Int)-2)))).bind fun s =>
 (Z4 ([]:List Int) s).bind fun t =>
 (Z4 t ([1]:List Int)).bind fun u =>
 some (u,true))
 else (lsl c none (some (Zi ((c.length:Int)-2)))).bind fun v =>
 (Z4 ([]:List Int) v).bind fun w =>
 (Z4 w ([1]:List Int)).bind fun x =>
 some (x,true))
 else (Gs N b.Op).bind fun y =>
 RA N c y N 0
def ZaL:Option Bool :=
 some true
def RC (a:(List Int)) (b:(List Int)):Nat→Int→Option Bool
 | 0,_=>none
 | c+1,d =>
 bif (decide (d < (a.length:Int))) then ((Zm a d).bind fun e =>
 (Zm b d).bind fun f =>
 bif (e != f) then (some false)
 else (RC a b c) (Zi (d+1)))
 else ZaL
def P5 (N:Nat) (a:(List Int)) (b:(List Int)):Option Bool :=
 bif ((a.length:Int) != (b.length:Int)) then (some false)
 else RC a b N 0
def Gb (N:Nat) (a:Z6) (b:Int) (c:(List Int)):Option Bool :=
 (Zm a.Code b).bind fun d =>
 bif (d.Op==21) then (bif (decide ((c.length:Int) < 4)) then (some (decide ((Zi (b+1)) < (a.Code.length:Int))))
 else some false)
 else bif (d.Op==22) then (bif (decide ((c.length:Int) > 0)) then ((Zm c (Zi ((c.length:Int)-1))).bind fun e =>
 bif (d.N==(Zi (e+1))) then (some (decide ((Zi (b+1)) < (a.Code.length:Int))))
 else some false)
 else some false)
 else bif (d.Op==23) then (bif (decide ((c.length:Int) > 0)) then (some (decide ((Zi (b+1)) < (a.Code.length:Int))))
 else some false)
 else bif (d.Op==24) then (some ((c.length:Int)==0))
 else bif (d.Op==19) then (some (decide (d.N > b)))
 else bif (d.Op==20) then (bif (decide (d.N > b)) then (some (decide ((Zi (b+1)) < (a.Code.length:Int))))
 else some false)
 else some (decide ((Zi (b+1)) < (a.Code.length:Int)))
def Ll (N:Nat) (a:(List Yq)) (b:Int) (c:Yq):Option (Int × (List Yq)) :=
 (Zm a b).bind fun d =>
 bif (!d.known') then ((Zm a b).bind fun e =>
 some (0,(ZW a b c)))
 else (Zm a b).bind fun f =>
 (P5 N f.stack' c.stack').bind fun g =>
 bif (!g) then (some (11,a))
 else (Zm a b).bind fun h =>
 (P5 N h.loops' c.loops').bind fun i =>
 bif (!i) then (some (7,a))
 else some (0,a)
def PR (N:Nat) (a:Wy) (b:(List Int) × Bool) (c:(List Int)) (d:(List Yq)) (e:Int):Option (Int × (List Yq)) :=
 (L5 N a.Op).bind fun f =>
 bif f then (bif (e==0) then ((Ll N d a.N (⟨true,b.1,c⟩:Yq)).bind fun g =>
 some (g.1,g.2))
 else some (e,d))
 else some (e,d)
def MF (N:Nat) (a:(List Yq)) (b:Int) (c:Wy) (d:(List Int) × Bool) (e:(List Int)) (f:Bool):Option (Int × (List Yq)) :=
 bif f then ((Ll N a (Zi (b+1)) (⟨true,d.1,e⟩:Yq)).bind fun g =>
 PR N c d e g.2 g.1)
 else PR N c d e a 0
def QH (N:Nat) (a:(List Yq)) (b:Int) (c:Wy) (d:(List Int) × Bool) (e:(List Int)):Option (Int × (List Yq)) :=
 bif (c.Op != 19) then (MF N a b c d e (c.Op != 24))
 else MF N a b c d e false
def S7 (N:Nat) (a:Z6) (b:(List Yq)) (c:Int) (d:Wy) (e:Yq) (f:(List Int) × Bool) (g:Bool):Option (Int × (List Yq)) :=
 bif g then (some (11,b))
 else (Gb N a c e.loops').bind fun h =>
 bif (!h) then (some (7,b))
 else bif (d.Op==21) then ((Z4 ([]:List Int) e.loops').bind fun i =>
 (Z4 i ([c]:List Int)).bind fun j =>
 QH N b c d f j)
 else bif (d.Op==23) then ((lsl e.loops' none (some (Zi ((e.loops'.length:Int)-1)))).bind fun k =>
 QH N b c d f k)
 else QH N b c d f e.loops'
def Bh (N:Nat) (a:Z6) (b:(List Yq)) (c:Int) (d:(List Int)) (e:(List Int)):Option (Int × (List Yq)) :=
 (Zm a.Code c).bind fun f =>
 (Zm b c).bind fun g =>
 (GQ N a f g.stack' d).bind fun h =>
 bif (!h.2) then (S7 N a b c f g h true)
 else bif (f.Op==24) then ((P5 N g.stack' e).bind fun i =>
 S7 N a b c f g h (!i))
 else S7 N a b c f g h false
def Zcb (a:Int):Option (Int × Int × Int) :=
 some (a,0,0)
def DJ (a:Int) (b:Int) (c:(List Yq)→Int→Int→Option (Int × Int × Int)) (d:Int × (List Yq)) (e:Int):Option (Int × Int × Int) :=
 c d.2 (Zi (a+e)) (Zi (b+1))
def RU (a:Z6) (b:Int) (c:Int) (d:(List Yq)→Int→Int→Option (Int × Int × Int)) (e:Int × (List Yq)):Nat→Int→Int→Option (Int × Int × Int)
 | 0,_,_=>none
 | f+1,g,h =>
 (Zm e.2 c).bind fun i =>
 bif (decide (h < (i.loops'.length:Int))) then ((Zm e.2 c).bind fun j =>
 (Zm j.loops' h).bind fun k =>
 (Zm a.Code k).bind fun l =>
 (RU a b c d e f) (Zi (g * l.N)) (Zi (h+1)))
 else DJ b c d e g
def VK (N:Nat) (a:Z6) (b:(List Int)) (c:(List Int)):Nat→(List Yq)→Int→Int→Option (Int × Int × Int)
 | 0,_,_,_=>none
 | d+1,e,f,g =>
 bif (decide (g < (a.Code.length:Int))) then ((Zm e g).bind fun h =>
 bif (!h.known') then ((VK N a b c d) e f (Zi (g+1)))
 else (Bh N a e g b c).bind fun i =>
 bif (i.1 != 0) then (some (0,g,i.1))
 else RU a f g (VK N a b c d) i N 1 0)
 else Zcb f
def GX (N:Nat) (a:Z6) (b:Int) (c:(List Int)) (d:(List Int)):Option (Int × Int × Int) :=
 (Ms N a).bind fun e =>
 bif (!e) then (some (0,0,1))
 else bif (decide (b < 0)) then (some (0,0,1))
 else bif (decide (b≥(a.Code.length:Int))) then (some (0,0,1))
 else (YG (⟨false,([]:List Int),([]:List Int)⟩:Yq) (a.Code.length:Int) (a.Code.length:Int)).bind fun f =>
 (Zm f b).bind fun g =>
 VK N a c d N (ZW f b (⟨true,g.stack',g.loops'⟩:Yq)) 0 b
def ZbD:Option (Int × Int) :=
 some (0,0)
def R5 (N:Nat) (a:Z6) (b:(List T0)) (c:(List YI)):Nat→Int→Option (Int × Int)
 | 0,_=>none
 | d+1,e =>
 bif (decide (e < (c.length:Int))) then ((Zm c e).bind fun f =>
 bif (decide (f.Label≥(b.length:Int))) then ((Zm c e).bind fun g =>
 some (g.At,10))
 else (Zm c e).bind fun h =>
 (Zm c e).bind fun i =>
 (Zm c e).bind fun j =>
 (GX N a h.At i.Params j.Results).bind fun k =>
 bif (k.2.2 != 0) then (some (k.2.1,k.2.2))
 else bif (decide (k.1 > 5000)) then ((Zm c e).bind fun l =>
 some (l.At,6))
 else (R5 N a b c d) (Zi (e+1)))
 else ZbD
def Dw (N:Nat) (a:Z6) (b:(List T0)):Option (Int × Int) :=
 (Ms N a).bind fun c =>
 bif (!c) then (some (0,1))
 else (z68 N a b).bind fun d =>
 R5 N a b d N 0
def Lh (N:Nat) (a:Z7):Option Bool :=
 (Dw N a.P a.G.Decls).bind fun b =>
 some (b.2==0)
def Rk (N:Nat) (a:Z7):Nat→Int→Option Bool
 | 0,_=>none
 | b+1,c =>
 bif (decide (c < (a.M.Moves.length:Int))) then ((Zm a.M.Moves c).bind fun d =>
 bif (decide (d.Peer≥(a.G.Roles.length:Int))) then (some false)
 else bif (decide (d.Label≥(a.G.Decls.length:Int))) then (some false)
 else (Rk N a b) (Zi (c+1)))
 else Lh N a
def GC (N:Nat) (a:Z7):Option Bool :=
 (Ls N a.G).bind fun b =>
 bif (!b) then (some false)
 else (L7 N a.M).bind fun c =>
 bif (!c) then (some false)
 else bif (decide (a.M.Role≥(a.G.Roles.length:Int))) then (some false)
 else bif (a.P.Role != a.M.Role) then (some false)
 else Rk N a N 0
def Zc7 (a:Int):Option Int :=
 some a
def Q3 (a:T5):Nat→Int→Int→Option Int
 | 0,_,_=>none
 | b+1,c,d =>
 bif (decide (d < (a.Decls.length:Int))) then ((Zm a.Decls d).bind fun e =>
 (Q3 a b) (Zi (c+(e.Fields.length:Int))) (Zi (d+1)))
 else Zc7 c
def z70 (N:Nat) (a:T5):Option Int :=
 Q3 a N 0 0
def Zcl (a:Z7) (b:(List Zk)) (c:(List Zk)):Option ZS :=
 some (⟨a.M.Start,b,c,([]:List Zk)⟩:ZS)
def Qu (a:Z7) (b:(List Zk)):Nat→(List Zk)→Int→Option ZS
 | 0,_,_=>none
 | c+1,d,e =>
 bif (decide (e < (a.P.Vars.length:Int))) then ((Zm a.P.Vars e).bind fun f =>
 (Z4 d ([f.Init]:List Zk)).bind fun g =>
 (Qu a b c) g (Zi (e+1)))
 else Zcl a b d
def BO (N:Nat) (a:Z7):Option ZS :=
 (z70 N a.G).bind fun b =>
 (YG (⟨0,0,(str [])⟩:Zk) b b).bind fun c =>
 Qu a c N ([]:List Zk) 0
def RV (N:Nat) (a:Z7) (b:ZS):Option Bool :=
 bif (decide (b.State≥0)) then (bif (decide (b.State < a.M.States)) then ((z70 N a.G).bind fun c =>
 bif ((b.Known.length:Int)==c) then (some ((b.Vars.length:Int)==(a.P.Vars.length:Int)))
 else some false)
 else some false)
 else some false
def ZaI (a:(List Int)):Option (List Int) :=
 some a
def TK (a:Z7) (b:ZS):Nat→(List Int)→Int→Option (List Int)
 | 0,_,_=>none
 | c+1,d,e =>
 bif (decide (e < (a.M.Moves.length:Int))) then ((Zm a.M.Moves e).bind fun f =>
 bif (f.From==b.State) then ((Zm a.M.Moves e).bind fun g =>
 bif g.Send then ((Z4 d ([e]:List Int)).bind fun h =>
 (TK a b c) h (Zi (e+1)))
 else (TK a b c) d (Zi (e+1)))
 else (TK a b c) d (Zi (e+1)))
 else ZaI d
def ZaJ (N:Nat) (a:Z7) (b:ZS):Option (List Int) :=
 TK a b N ([]:List Int) 0
def Zan:Option Bool :=
 some true
def RQ (N:Nat) (a:Z6) (b:(List Zk)):Nat→Int→Option Bool
 | 0,_=>none
 | c+1,d =>
 bif (decide (d < (b.length:Int))) then ((Zm a.Vars d).bind fun e =>
 (Zm b d).bind fun f =>
 (Pz N e.Sort' f).bind fun g =>
 bif (!g) then (some false)
 else (RQ N a b c) (Zi (d+1)))
 else Zan
def ZbH (N:Nat) (a:Z6) (b:(List Zk)):Option Bool :=
 (Ms N a).bind fun c =>
 bif (!c) then (some false)
 else bif ((b.length:Int) != (a.Vars.length:Int)) then (some false)
 else RQ N a b N 0
def Zao (a:ByteArray):Option ByteArray :=
 some a
def Qw (a:Int):Nat→ByteArray→Int→Option ByteArray
 | 0,_,_=>none
 | b+1,c,d =>
 bif (decide (d < a)) then ((U7 c (str [97])).bind fun e =>
 (Qw a b) e (Zi (d+1)))
 else Zao c
def ZaG (N:Nat) (a:Int):Option ByteArray :=
 Qw a N (str []) 0
def ZbI (N:Nat) (a:Yg) (b:Zk):Option (Zk × Int) :=
 (Hz N a).bind fun c =>
 bif (!c) then (some ((⟨0,0,(str [])⟩:Zk),1))
 else (Rh N b).bind fun d =>
 bif (!d) then (some ((⟨0,0,(str [])⟩:Zk),1))
 else bif (a.Kind != b.Kind) then (some ((⟨0,0,(str [])⟩:Zk),11))
 else bif (b.Kind==1) then ((Qd N (Z1 (ZX b.N a.Lo) a.Hi)).bind fun e =>
 some (e,0))
 else bif (decide ((b.S.size:Int) > a.Hi)) then ((ssl b.S none (some a.Hi)).bind fun f =>
 (Mz N f).bind fun g =>
 some (g,0))
 else (ZaG N (Zi (a.Lo-(b.S.size:Int)))).bind fun h =>
 (U7 b.S h).bind fun i =>
 (Mz N i).bind fun j =>
 some (j,0)
def B5 (N:Nat) (a:Yg) (b:Zk):Option Zk :=
 bif (a.Kind==1) then ((Qd N (ZX a.Lo (Z1 b.N a.Hi))).bind fun c =>
 some c)
 else (ZbI N a b).bind fun d =>
 some d.1
def SQ (N:Nat) (a:Yh) (b:Zk):Option Yh :=
 bif ((a.stack'.length:Int)==16) then (some (⟨a.stack',a.vars',a.params',a.loops',true⟩:Yh))
 else (Z4 a.stack' ([b]:List Zk)).bind fun c =>
 some (⟨c,a.vars',a.params',a.loops',a.trap'⟩:Yh)
def Vk (N:Nat) (a:Yh) (b:Int):Option Yh :=
 (Qd N (ZX (-1000000) (Z1 b 1000000))).bind fun c =>
 (SQ N a c).bind fun d =>
 some d
def Se (a:Yh) (b:Int) (c:Bool):Option (Zk × Yh) :=
 bif c then (some ((⟨b,0,(str [])⟩:Zk),(⟨a.stack',a.vars',a.params',a.loops',true⟩:Yh)))
 else (Zm a.stack' (Zi ((a.stack'.length:Int)-1))).bind fun d =>
 (lsl a.stack' none (some (Zi ((a.stack'.length:Int)-1)))).bind fun e =>
 some (d,(⟨e,a.vars',a.params',a.loops',a.trap'⟩:Yh))
def Vn (N:Nat) (a:Yh) (b:Int):Option (Zk × Yh) :=
 bif a.trap' then (Se a b true)
 else bif ((a.stack'.length:Int)==0) then (Se a b true)
 else bif (b != 0) then ((Zm a.stack' (Zi ((a.stack'.length:Int)-1))).bind fun c =>
 Se a b (c.Kind != b))
 else Se a b false
def U4 (N:Nat) (a:Yh) (b:Bool):Option Yh :=
 bif b then ((Vk N a 1).bind fun c =>
 some c)
 else (Vk N a 0).bind fun d =>
 some d
def Dm (N:Nat) (a:Yh) (b:Int):Option Yh :=
 (Vn N a 1).bind fun c =>
 (Vn N c.2 1).bind fun d =>
 bif d.2.trap' then (some d.2)
 else bif (b==6) then ((Vk N d.2 (Zi (d.1.N+c.1.N))).bind fun e =>
 some e)
 else bif (b==7) then ((Vk N d.2 (Zi (d.1.N-c.1.N))).bind fun f =>
 some f)
 else bif (b==8) then ((Vk N d.2 (Zi (d.1.N * c.1.N))).bind fun g =>
 some g)
 else bif (b==13) then ((U4 N d.2 (decide (d.1.N < c.1.N))).bind fun h =>
 some h)
 else bif (b==15) then (bif (d.1.N != 0) then ((U4 N d.2 (c.1.N != 0)).bind fun i =>
 some i)
 else (U4 N d.2 false).bind fun j =>
 some j)
 else bif (b==16) then (bif (d.1.N != 0) then ((U4 N d.2 true).bind fun k =>
 some k)
 else (U4 N d.2 (c.1.N != 0)).bind fun l =>
 some l)
 else bif (c.1.N==0) then ((Vk N d.2 0).bind fun m =>
 some m)
 else bif (b==9) then ((WL .quo .i64 d.1.N c.1.N).bind fun o =>
 (Vk N d.2 o).bind fun p =>
 some p)
 else (WL .rem .i64 d.1.N c.1.N).bind fun q =>
 (Vk N d.2 q).bind fun r =>
 some r
def P6 (N:Nat) (a:Yh) (b:Int) (c:Wy) (d:Bool):Option (Int × Yh) :=
 bif d then (bif ((a.loops'.length:Int)==0) then (some (b,(⟨a.stack',a.vars',a.params',a.loops',true⟩:Yh)))
 else bif (c.Op==23) then ((lsl a.loops' none (some (Zi ((a.loops'.length:Int)-1)))).bind fun e =>
 some ((Zi (b+1)),(⟨a.stack',a.vars',a.params',e,a.trap'⟩:Yh)))
 else (Zm a.loops' (Zi ((a.loops'.length:Int)-1))).bind fun f =>
 (Zm a.loops' (Zi ((a.loops'.length:Int)-1))).bind fun g =>
 (Zm (ZW a.loops' (Zi ((a.loops'.length:Int)-1)) (Zi (f-1))) (Zi ((a.loops'.length:Int)-1))).bind fun h =>
 bif (decide (h > 0)) then (some (c.N,(⟨a.stack',a.vars',a.params',(ZW a.loops' (Zi ((a.loops'.length:Int)-1)) (Zi (f-1))),a.trap'⟩:Yh)))
 else some ((Zi (b+1)),(⟨a.stack',a.vars',a.params',(ZW a.loops' (Zi ((a.loops'.length:Int)-1)) (Zi (f-1))),a.trap'⟩:Yh)))
 else (Dm N a c.Op).bind fun i =>
 some ((Zi (b+1)),i)
def DB (N:Nat) (a:Yh) (b:Z6) (c:Int):Option (Int × Yh) :=
 (Zm b.Code c).bind fun d =>
 bif (d.Op==1) then ((Vk N a d.N).bind fun e =>
 some ((Zi (c+1)),e))
 else bif (d.Op==2) then ((Mz N d.S).bind fun f =>
 (SQ N a f).bind fun g =>
 some ((Zi (c+1)),g))
 else bif (d.Op==3) then ((Zm a.vars' d.N).bind fun h =>
 (SQ N a h).bind fun i =>
 some ((Zi (c+1)),i))
 else bif (d.Op==4) then (bif (decide (d.N≥(a.params'.length:Int))) then (some (c,(⟨a.stack',a.vars',a.params',a.loops',true⟩:Yh)))
 else (Zm a.params' d.N).bind fun j =>
 (SQ N a j).bind fun k =>
 some ((Zi (c+1)),k))
 else bif (d.Op==5) then ((Zm b.Vars d.N).bind fun l =>
 (Vn N a l.Sort'.Kind).bind fun m =>
 bif (!m.2.trap') then ((B5 N l.Sort' m.1).bind fun o =>
 (Zm m.2.vars' d.N).bind fun p =>
 some ((Zi (c+1)),(⟨m.2.stack',(ZW m.2.vars' d.N o),m.2.params',m.2.loops',m.2.trap'⟩:Yh)))
 else some ((Zi (c+1)),m.2))
 else bif (d.Op==11) then ((Vn N a 1).bind fun q =>
 bif (!q.2.trap') then ((Vk N q.2 (Zi (0-q.1.N))).bind fun r =>
 some ((Zi (c+1)),r))
 else some ((Zi (c+1)),q.2))
 else bif (d.Op==14) then ((Vn N a 1).bind fun s =>
 bif (!s.2.trap') then ((U4 N s.2 (s.1.N==0)).bind fun t =>
 some ((Zi (c+1)),t))
 else some ((Zi (c+1)),s.2))
 else bif (d.Op==12) then ((Vn N a 0).bind fun u =>
 (Vn N u.2 u.1.Kind).bind fun v =>
 bif (!v.2.trap') then ((U4 N v.2 ((v.1.Kind==u.1.Kind) && ((v.1.N==u.1.N) && ((v.1.S.toList==u.1.S.toList) && true)))).bind fun w =>
 some ((Zi (c+1)),w))
 else some ((Zi (c+1)),v.2))
 else bif (d.Op==17) then ((Vn N a 2).bind fun x =>
 (Vn N x.2 2).bind fun y =>
 (U7 y.1.S x.1.S).bind fun z =>
 bif (!y.2.trap') then ((ssl z none (some (Z1 (z.size:Int) 40))).bind fun A =>
 (Mz N A).bind fun B =>
 (SQ N y.2 B).bind fun C =>
 some ((Zi (c+1)),C))
 else some ((Zi (c+1)),y.2))
 else bif (d.Op==18) then ((Vn N a 2).bind fun D =>
 bif (!D.2.trap') then ((Vk N D.2 (D.1.S.size:Int)).bind fun E =>
 some ((Zi (c+1)),E))
 else some ((Zi (c+1)),D.2))
 else bif (d.Op==19) then (some (d.N,a))
 else bif (d.Op==20) then ((Vn N a 1).bind fun F =>
 bif (!F.2.trap') then (bif (F.1.N==0) then (some (d.N,F.2))
 else some ((Zi (c+1)),F.2))
 else some ((Zi (c+1)),F.2))
 else bif (d.Op==21) then (bif ((a.loops'.length:Int)==4) then (some (c,(⟨a.stack',a.vars',a.params',a.loops',true⟩:Yh)))
 else (Z4 a.loops' ([d.N]:List Int)).bind fun G =>
 some ((Zi (c+1)),(⟨a.stack',a.vars',a.params',G,a.trap'⟩:Yh)))
 else bif (d.Op==22) then (P6 N a c d true)
 else P6 N a c d (d.Op==23)
def Dt (a:(List T1)):Option ((List T1) × Int) :=
 some (a,0)
def Rq (a:T0):Nat→(List T1)→Int→Option ((List T1) × Int)
 | 0,_,_=>none
 | b+1,c,d =>
 bif (decide (d < (a.Guard.Equals.length:Int))) then ((Zm a.Guard.Equals d).bind fun e =>
 (Zm a.Guard.Equals d).bind fun f =>
 (Z4 c ([(⟨e.1,f.2,0⟩:T1),(⟨f.2,e.1,0⟩:T1)]:List T1)).bind fun g =>
 (Rq a b) g (Zi (d+1)))
 else Dt c
def MQ (N:Nat) (a:T0) (b:(List T1)):Option ((List T1) × Int) :=
 (Z4 b a.Guard.Diffs).bind fun c =>
 Rq a N c 0
def Ri (N:Nat) (a:T0):Nat→(List T1)→Int→Option ((List T1) × Int)
 | 0,_,_=>none
 | b+1,c,d =>
 bif (decide (d < (a.Fields.length:Int))) then ((Zm a.Fields d).bind fun e =>
 (Zm a.Fields d).bind fun f =>
 (Z4 c ([(⟨(Zi (a.First+d)),(-1),e.Sort'.Hi⟩:T1),(⟨(-1),(Zi (a.First+d)),(Zi (0-f.Sort'.Lo))⟩:T1)]:List T1)).bind fun g =>
 (Ri N a b) g (Zi (d+1)))
 else MQ N a c
def Zdi (N:Nat) (a:(List T0)) (b:Int):Option ((List T1) × Int) :=
 (Tu N a b).bind fun c =>
 bif (!c) then (some (([]:List T1),1))
 else (Zm a b).bind fun d =>
 Ri N d N ([]:List T1) 0
def Sm (N:Nat) (a:T0) (b:Int):Option Bool :=
 bif (decide (b≥a.First)) then (some (decide (b < (Zi (a.First+(a.Fields.length:Int))))))
 else some false
def HE (N:Nat) (a:T0) (b:(List Zk)) (c:Int):Option Bool :=
 bif (decide (c≥0)) then ((Sm N a c).bind fun d =>
 bif (!d) then ((Zm b c).bind fun e =>
 some (e.Kind==0))
 else some false)
 else some false
def Zcp (a:(List ByteArray)) (b:(List Bool)):Option ((List ByteArray) × (List Bool) × Bool) :=
 some (a,b,true)
def Zdd (a:Int) (b:(List ByteArray)→(List Bool)→Int→Option ((List ByteArray) × (List Bool) × Bool)) (c:(List ByteArray)) (d:(List Bool)):Option ((List ByteArray) × (List Bool) × Bool) :=
 b c d (Zi (a+1))
def DZ (a:Int) (b:(List ByteArray)→(List Bool)→Int→Option ((List ByteArray) × (List Bool) × Bool)) (c:(List ByteArray)) (d:(List Bool)):Option ((List ByteArray) × (List Bool) × Bool) :=
 b c d (Zi (a+1))
def Tm (a:T0) (b:(List ByteArray)) (c:(List Bool)) (d:Int) (e:(List ByteArray)→(List Bool)→Int→Option ((List ByteArray) × (List Bool) × Bool)) (f:Int) (g:ByteArray) (h:Bool) (i:Bool):Option ((List ByteArray) × (List Bool) × Bool) :=
 bif i then (some (([]:List ByteArray),([]:List Bool),false))
 else bif h then ((Zm b (Zi (f-a.First))).bind fun j =>
 (Zm c (Zi (f-a.First))).bind fun k =>
 e (ZW b (Zi (f-a.First)) g) (ZW c (Zi (f-a.First)) true) (Zi (d+1)))
 else e b c (Zi (d+1))
def S8 (a:T0) (b:(List ByteArray)) (c:(List Bool)) (d:Int) (e:(List ByteArray)→(List Bool)→Int→Option ((List ByteArray) × (List Bool) × Bool)) (f:Int) (g:ByteArray) (h:Bool):Option ((List ByteArray) × (List Bool) × Bool) :=
 bif h then ((Zm c (Zi (f-a.First))).bind fun i =>
 bif i then ((Zm b (Zi (f-a.First))).bind fun j =>
 Tm a b c d e f g h (!(j.toList==g.toList)))
 else Tm a b c d e f g h false)
 else Tm a b c d e f g h false
def TL (N:Nat) (a:T0) (b:(List Zk)) (c:(List ByteArray)) (d:(List Bool)) (e:Int) (f:(List ByteArray)→(List Bool)→Int→Option ((List ByteArray) × (List Bool) × Bool)) (g:Int) (h:Int):Option ((List ByteArray) × (List Bool) × Bool) :=
 (Sm N a g).bind fun i =>
 bif (!i) then (f c d (Zi (e+1)))
 else (Sm N a h).bind fun j =>
 bif j then ((Zm c (Zi (h-a.First))).bind fun k =>
 (Zm d (Zi (h-a.First))).bind fun l =>
 S8 a c d e f g k l)
 else (Zm b h).bind fun m =>
 S8 a c d e f g m.S true
def Wo (N:Nat) (a:T0) (b:(List Zk)) (c:Int) (d:(List ByteArray)→(List Bool)→Int→Option ((List ByteArray) × (List Bool) × Bool)):Nat→(List ByteArray)→(List Bool)→Int→Option ((List ByteArray) × (List Bool) × Bool)
 | 0,_,_,_=>none
 | e+1,f,g,h =>
 bif (decide (h < 2)) then ((Zm a.Guard.Equals c).bind fun i =>
 bif (h==0) then ((Zm a.Guard.Equals c).bind fun j =>
 bif ((Zi (1-h))==0) then (TL N a b f g h (Wo N a b c d e) i.1 j.1)
 else bif ((Zi (1-h))==1) then (TL N a b f g h (Wo N a b c d e) i.1 j.2)
 else none)
 else bif (h==1) then ((Zm a.Guard.Equals c).bind fun k =>
 bif ((Zi (1-h))==0) then (TL N a b f g h (Wo N a b c d e) i.2 k.1)
 else bif ((Zi (1-h))==1) then (TL N a b f g h (Wo N a b c d e) i.2 k.2)
 else none)
 else none)
 else DZ c d f g
def We (N:Nat) (a:T0) (b:(List Zk)) (c:Int) (d:(List ByteArray)→(List Bool)→Int→Option ((List ByteArray) × (List Bool) × Bool)):Nat→(List ByteArray)→(List Bool)→Int→Option ((List ByteArray) × (List Bool) × Bool)
 | 0,_,_,_=>none
 | e+1,f,g,h =>
 bif (decide (h < (a.Guard.Equals.length:Int))) then (Wo N a b h (We N a b c d e) N f g 0)
 else Zdd c d f g
def XH (N:Nat) (a:T0) (b:(List Zk)):Nat→(List ByteArray)→(List Bool)→Int→Option ((List ByteArray) × (List Bool) × Bool)
 | 0,_,_,_=>none
 | c+1,d,e,f =>
 bif (decide (f≤(a.Fields.length:Int))) then (We N a b f (XH N a b c) N d e 0)
 else Zcp d e
def HA (N:Nat) (a:T0) (b:(List Zk)):Option ((List ByteArray) × (List Bool) × Bool) :=
 (YG (str []) (a.Fields.length:Int) (a.Fields.length:Int)).bind fun c =>
 (YG false (a.Fields.length:Int) (a.Fields.length:Int)).bind fun d =>
 XH N a b N c d 0
def HJ (N:Nat) (a:Int) (b:Int):Option Int :=
 bif (a==b) then (some 0)
 else bif (a==0) then (some 10000)
 else bif (b==0) then (some 10000)
 else some 20000
def HW (a:Int) (b:(List Int)):Option (ZU × Int) :=
 some ((⟨a,b⟩:ZU),0)
def L6 (a:Int) (b:(List Int)→Int→Option (ZU × Int)) (c:(List Int)):Option (ZU × Int) :=
 b c (Zi (a+1))
def Q4 (N:Nat) (a:Int) (b:Int) (c:(List Int)→Int→Option (ZU × Int)):Nat→(List Int)→Int→Option (ZU × Int)
 | 0,_,_=>none
 | d+1,e,f =>
 bif (decide (f≤a)) then ((HJ N b f).bind fun g =>
 (Z4 e ([g]:List Int)).bind fun h =>
 (Q4 N a b c d) h (Zi (f+1)))
 else L6 b c e
def Vu (N:Nat) (a:Int):Nat→(List Int)→Int→Option (ZU × Int)
 | 0,_,_=>none
 | b+1,c,d =>
 bif (decide (d≤a)) then (Q4 N a d (Vu N a b) N c 0)
 else HW a c
def DG (N:Nat) (a:Int):Option (ZU × Int) :=
 bif (decide (a < 0)) then (some ((⟨0,([]:List Int)⟩:ZU),2))
 else bif (decide (a > 24)) then (some ((⟨0,([]:List Int)⟩:ZU),2))
 else Vu N a N ([]:List Int) 0
def Zba:Option Bool :=
 some true
def Sy (a:ZU):Nat→Int→Option Bool
 | 0,_=>none
 | b+1,c =>
 bif (decide (c < (a.B.length:Int))) then ((Zm a.B c).bind fun d =>
 bif (decide (d < (-20001))) then (some false)
 else (Zm a.B c).bind fun e =>
 bif (decide (e > 20000)) then (some false)
 else (Sy a b) (Zi (c+1)))
 else Zba
def Lp (N:Nat) (a:ZU):Option Bool :=
 bif (decide (a.N < 0)) then (some false)
 else bif (decide (a.N > 24)) then (some false)
 else bif ((a.B.length:Int) != (Zi ((Zi (a.N+1)) * (Zi (a.N+1))))) then (some false)
 else Sy a N 0
def Gt (N:Nat) (a:ZU) (b:Int):Option Bool :=
 bif (decide (b≥(-1))) then (some (decide (b < a.N)))
 else some false
def W7 (N:Nat) (a:ZU) (b:T1):Option (ZU × Int) :=
 (Lp N a).bind fun c =>
 bif (!c) then (some ((⟨0,([]:List Int)⟩:ZU),1))
 else (Gt N a b.X).bind fun d =>
 bif (!d) then (some ((⟨0,([]:List Int)⟩:ZU),2))
 else (Gt N a b.Y).bind fun e =>
 bif (!e) then (some ((⟨0,([]:List Int)⟩:ZU),2))
 else (Z4 ([]:List Int) a.B).bind fun f =>
 (Zm f (Zi ((Zi ((Zi ((Zi (b.X+1)) * (Zi (a.N+1))))+b.Y))+1))).bind fun g =>
 (Zm f (Zi ((Zi ((Zi ((Zi (b.X+1)) * (Zi (a.N+1))))+b.Y))+1))).bind fun h =>
 some ((⟨a.N,(ZW f (Zi ((Zi ((Zi ((Zi (b.X+1)) * (Zi (a.N+1))))+b.Y))+1)) (Z1 g (ZX b.C (-20001))))⟩:ZU),0)
def ZaS (a:ZU) (b:(List Int)):Option (ZU × Bool) :=
 some ((⟨a.N,b⟩:ZU),true)
def SN (a:ZU) (b:(List Int)):Nat→Int→Option (ZU × Bool)
 | 0,_=>none
 | c+1,d =>
 bif (decide (d < (Zi (a.N+1)))) then ((Zm b (Zi ((Zi (d * (Zi (a.N+1))))+d))).bind fun e =>
 bif (decide (e < 0)) then (some ((⟨0,([]:List Int)⟩:ZU),false))
 else (SN a b c) (Zi (d+1)))
 else ZaS a b
def PQ (N:Nat) (a:ZU) (b:(List Int)):Option (ZU × Bool) :=
 SN a b N 0
def HI (a:Int) (b:(List Int)→Int→Option (ZU × Bool)) (c:(List Int)):Option (ZU × Bool) :=
 b c (Zi (a+1))
def DM (a:Int) (b:(List Int)→Int→Option (ZU × Bool)) (c:(List Int)):Option (ZU × Bool) :=
 b c (Zi (a+1))
def RT (a:ZU) (b:Int) (c:Int) (d:(List Int)→Int→Option (ZU × Bool)):Nat→(List Int)→Int→Option (ZU × Bool)
 | 0,_,_=>none
 | e+1,f,g =>
 bif (decide (g < (Zi (a.N+1)))) then ((Zm f (Zi ((Zi (c * (Zi (a.N+1))))+g))).bind fun h =>
 (Zm f (Zi ((Zi (c * (Zi (a.N+1))))+b))).bind fun i =>
 (Zm f (Zi ((Zi (b * (Zi (a.N+1))))+g))).bind fun j =>
 (Zm f (Zi ((Zi (c * (Zi (a.N+1))))+g))).bind fun k =>
 (RT a b c d e) (ZW f (Zi ((Zi (c * (Zi (a.N+1))))+g)) (Z1 h (ZX (-20001) (Zi (i+j))))) (Zi (g+1)))
 else DM c d f
def Vm (N:Nat) (a:ZU) (b:Int) (c:(List Int)→Int→Option (ZU × Bool)):Nat→(List Int)→Int→Option (ZU × Bool)
 | 0,_,_=>none
 | d+1,e,f =>
 bif (decide (f < (Zi (a.N+1)))) then (RT a b f (Vm N a b c d) N e 0)
 else HI b c e
def WW (N:Nat) (a:ZU):Nat→(List Int)→Int→Option (ZU × Bool)
 | 0,_,_=>none
 | b+1,c,d =>
 bif (decide (d < (Zi (a.N+1)))) then (Vm N a d (WW N a b) N c 0)
 else PQ N a c
def GM (N:Nat) (a:ZU) (b:(List Int)):Option (ZU × Bool) :=
 WW N a N b 0
def Lx (a:Int) (b:(List Int)→Int→Option (ZU × Bool)) (c:(List Int)):Option (ZU × Bool) :=
 b c (Zi (a+1))
def QT (N:Nat) (a:ZU) (b:Int) (c:(List Int)→Int→Option (ZU × Bool)):Nat→(List Int)→Int→Option (ZU × Bool)
 | 0,_,_=>none
 | d+1,e,f =>
 bif (decide (f < (Zi (a.N+1)))) then ((Zm e (Zi ((Zi (b * (Zi (a.N+1))))+f))).bind fun g =>
 (HJ N b f).bind fun h =>
 (Zm e (Zi ((Zi (b * (Zi (a.N+1))))+f))).bind fun i =>
 (QT N a b c d) (ZW e (Zi ((Zi (b * (Zi (a.N+1))))+f)) (Z1 g h)) (Zi (f+1)))
 else Lx b c e
def VO (N:Nat) (a:ZU):Nat→(List Int)→Int→Option (ZU × Bool)
 | 0,_,_=>none
 | b+1,c,d =>
 bif (decide (d < (Zi (a.N+1)))) then (QT N a d (VO N a b) N c 0)
 else GM N a c
def Rx (N:Nat) (a:ZU):Option (ZU × Bool) :=
 (Lp N a).bind fun b =>
 bif (!b) then (some ((⟨0,([]:List Int)⟩:ZU),false))
 else (Z4 ([]:List Int) a.B).bind fun c =>
 VO N a N c 0
def Zdg (a:(List Int)):Option ((List Int) × Bool) :=
 some (a,true)
def QM (N:Nat) (a:ZU):Nat→Int→(List Int)→(List Int)→Int→Option ((List Int) × Bool)
 | 0,_,_,_,_=>none
 | b+1,c,d,e,f =>
 bif (decide (f < a.N)) then ((Zm d (Zi (f+1))).bind fun g =>
 (Z4 e ([(Zi (0-g))]:List Int)).bind fun h =>
 (W7 N (⟨c,d⟩:ZU) (⟨f,(-1),(Zi (0-g))⟩:T1)).bind fun i =>
 (Rx N i.1).bind fun j =>
 (QM N a b) j.1.N j.1.B h (Zi (f+1)))
 else Zdg e
def Lg (N:Nat) (a:ZU):Option ((List Int) × Bool) :=
 (Rx N a).bind fun b =>
 bif (!b.2) then (some (([]:List Int),false))
 else QM N a N b.1.N b.1.B ([]:List Int) 0
def Zby (a:ByteArray):Option ByteArray :=
 some a
def Q7 (a:Int):Nat→ByteArray→Int→Option ByteArray
 | 0,_,_=>none
 | b+1,c,d =>
 bif (decide (d < a)) then ((U7 c (str [97])).bind fun e =>
 (Q7 a b) e (Zi (d+1)))
 else Zby c
def Zbx (N:Nat) (a:Int):Option ByteArray :=
 Q7 a N (str []) 0
def PO (N:Nat) (a:(List Zk)) (b:T0) (c:(List Zk)):Option ((List Zk) × Bool) :=
 (PU N b c a).bind fun d =>
 (MI N b.Guard d).bind fun e =>
 bif (!e) then (some (([]:List Zk),false))
 else some (c,true)
def U1 (N:Nat) (a:(List Zk)) (b:T0) (c:(List ByteArray) × (List Bool) × Bool) (d:(List Int) × Bool):Nat→(List Zk)→Int→Option ((List Zk) × Bool)
 | 0,_,_=>none
 | e+1,f,g =>
 bif (decide (g < (b.Fields.length:Int))) then ((Zm b.Fields g).bind fun h =>
 bif (h.Sort'.Kind==1) then ((Zm d.1 (Zi (b.First+g))).bind fun i =>
 (Z4 f ([(⟨h.Sort'.Kind,i,(str [])⟩:Zk)]:List Zk)).bind fun j =>
 (U1 N a b c d e) j (Zi (g+1)))
 else (Zm c.2.1 g).bind fun k =>
 bif k then ((Zm c.1 g).bind fun l =>
 (Z4 f ([(⟨h.Sort'.Kind,0,l⟩:Zk)]:List Zk)).bind fun m =>
 (U1 N a b c d e) m (Zi (g+1)))
 else (Zm d.1 (Zi (b.First+g))).bind fun o =>
 (Zbx N o).bind fun p =>
 (Z4 f ([(⟨h.Sort'.Kind,0,p⟩:Zk)]:List Zk)).bind fun q =>
 (U1 N a b c d e) q (Zi (g+1)))
 else PO N a b f
def SP (N:Nat) (a:(List Zk)) (b:T0) (c:(List ByteArray) × (List Bool) × Bool) (d:Int) (e:(List Int)):Option ((List Zk) × Bool) :=
 (Lg N (⟨d,e⟩:ZU)).bind fun f =>
 bif (!f.2) then (some (([]:List Zk),false))
 else U1 N a b c f N ([]:List Zk) 0
def D9 (N:Nat) (a:Int) (b:(List Int)) (c:Int) (d:Int→(List Int)→Int→Option ((List Zk) × Bool)) (e:Int) (f:Bool):Option ((List Zk) × Bool) :=
 bif f then ((W7 N (⟨a,b⟩:ZU) (⟨c,(-1),e⟩:T1)).bind fun g =>
 (W7 N g.1 (⟨(-1),c,(Zi (0-e))⟩:T1)).bind fun h =>
 d h.1.N h.1.B (Zi (c+1)))
 else d a b (Zi (c+1))
def Ps (N:Nat) (a:Int) (b:(List Int)) (c:Int) (d:Int→(List Int)→Int→Option ((List Zk) × Bool)) (e:Int) (f:Bool):Option ((List Zk) × Bool) :=
 bif f then ((W7 N (⟨a,b⟩:ZU) (⟨c,(-1),e⟩:T1)).bind fun g =>
 (W7 N g.1 (⟨(-1),c,(Zi (0-e))⟩:T1)).bind fun h =>
 d h.1.N h.1.B (Zi (c+1)))
 else d a b (Zi (c+1))
def Xs (N:Nat) (a:(List Zk)) (b:T0) (c:(List ByteArray) × (List Bool) × Bool):Nat→Int→(List Int)→Int→Option ((List Zk) × Bool)
 | 0,_,_,_=>none
 | d+1,e,f,g =>
 bif (decide (g < (a.length:Int))) then ((Zm a g).bind fun h =>
 (Rv N h).bind fun i =>
 (Sm N b g).bind fun j =>
 bif (!j) then ((Zm a g).bind fun k =>
 (Sm N b g).bind fun l =>
 bif l then ((Zm c.2.1 (Zi (g-b.First))).bind fun m =>
 bif m then ((Zm c.1 (Zi (g-b.First))).bind fun o =>
 D9 N e f g (Xs N a b c d) (o.size:Int) true)
 else D9 N e f g (Xs N a b c d) i (k.Kind != 0))
 else bif (k.Kind != 0) then ((W7 N (⟨e,f⟩:ZU) (⟨g,(-1),i⟩:T1)).bind fun p =>
 (W7 N p.1 (⟨(-1),g,(Zi (0-i))⟩:T1)).bind fun q =>
 (Xs N a b c d) q.1.N q.1.B (Zi (g+1)))
 else (Xs N a b c d) e f (Zi (g+1)))
 else (Sm N b g).bind fun r =>
 bif r then ((Zm c.2.1 (Zi (g-b.First))).bind fun s =>
 bif s then ((Zm c.1 (Zi (g-b.First))).bind fun t =>
 Ps N e f g (Xs N a b c d) (t.size:Int) true)
 else Ps N e f g (Xs N a b c d) i false)
 else (Xs N a b c d) e f (Zi (g+1)))
 else SP N a b c e f
def Pl (N:Nat) (a:(List Zk)) (b:T0) (c:(List ByteArray) × (List Bool) × Bool) (d:Int) (e:(List Int)):Option ((List Zk) × Bool) :=
 Xs N a b c N d e 0
def Sq (N:Nat) (a:(List Zk)) (b:T0) (c:(List T1) × Int) (d:(List ByteArray) × (List Bool) × Bool):Nat→Int→(List Int)→Int→Option ((List Zk) × Bool)
 | 0,_,_,_=>none
 | e+1,f,g,h =>
 bif (decide (h < (c.1.length:Int))) then ((Zm c.1 h).bind fun i =>
 (W7 N (⟨f,g⟩:ZU) i).bind fun j =>
 (Sq N a b c d e) j.1.N j.1.B (Zi (h+1)))
 else Pl N a b d f g
def Pi (N:Nat) (a:(List Zk)) (b:T0) (c:(List T1) × Int):Option ((List Zk) × Bool) :=
 (HA N b a).bind fun d =>
 bif (!d.2.2) then (some (([]:List Zk),false))
 else (DG N (a.length:Int)).bind fun e =>
 Sq N a b c d N e.1.N e.1.B 0
def Tj (N:Nat) (a:(List Zk)) (b:T0) (c:(List T1) × Int):Nat→Int→Option ((List Zk) × Bool)
 | 0,_=>none
 | d+1,e =>
 bif (decide (e < (c.1.length:Int))) then ((Zm c.1 e).bind fun f =>
 (HE N b a f.X).bind fun g =>
 bif g then (some (([]:List Zk),false))
 else (Zm c.1 e).bind fun h =>
 (HE N b a h.Y).bind fun i =>
 bif i then (some (([]:List Zk),false))
 else (Tj N a b c d) (Zi (e+1)))
 else Pi N a b c
def VM (N:Nat) (a:(List T0)) (b:Int) (c:(List Zk)):Option ((List Zk) × Bool) :=
 (Tu N a b).bind fun d =>
 bif (!d) then (some (([]:List Zk),false))
 else (So N a c).bind fun e =>
 bif (!e) then (some (([]:List Zk),false))
 else (Zm a b).bind fun f =>
 (Zdi N a b).bind fun g =>
 Tj N c f g N 0
def LV (N:Nat) (a:Z7) (b:ZS) (c:XA) (d:(List Int)):Option (Int × Int × (List Zk) × Bool) :=
 bif ((d.length:Int)==0) then (some (0,0,([]:List Zk),false))
 else (RV N a b).bind fun e =>
 bif (!e) then (some (0,0,([]:List Zk),false))
 else (WL .rem .i64 (Zi (c.Pick)) (d.length:Int)).bind fun f =>
 (Zm d f).bind fun g =>
 (Zm a.M.Moves g).bind fun h =>
 (TG N a.G.Decls h.Label c.Values b.Known).bind fun i =>
 bif i then (some (h.Peer,h.Label,c.Values,true))
 else (VM N a.G.Decls h.Label b.Known).bind fun j =>
 some (h.Peer,h.Label,j.1,j.2)
def Sf (N:Nat) (a:Z7) (b:ZS) (c:XA):Nat→(List Int)→Int→Option (Int × Int × (List Zk) × Bool)
 | 0,_,_=>none
 | d+1,e,f =>
 bif (decide (f < (a.M.Moves.length:Int))) then ((Zm a.M.Moves f).bind fun g =>
 bif (g.From==b.State) then ((Zm a.M.Moves f).bind fun h =>
 bif (!h.Send) then ((Z4 e ([f]:List Int)).bind fun i =>
 (Sf N a b c d) i (Zi (f+1)))
 else (Sf N a b c d) e (Zi (f+1)))
 else (Sf N a b c d) e (Zi (f+1)))
 else LV N a b c e
def G9 (N:Nat) (a:Z7) (b:ZS) (c:XA):Option (Int × Int × (List Zk) × Bool) :=
 Sf N a b c N ([]:List Int) 0
def Zds:Option Int :=
 some (-1)
def TE (a:T8) (b:Int) (c:Bool) (d:Int) (e:Int):Nat→Int→Option Int
 | 0,_=>none
 | f+1,g =>
 bif (decide (g < (a.Moves.length:Int))) then ((Zm a.Moves g).bind fun h =>
 bif (h.From==b) then (bif (h.Send==c) then (bif (h.Peer==d) then (bif (h.Label==e) then (some g)
 else (TE a b c d e f) (Zi (g+1)))
 else (TE a b c d e f) (Zi (g+1)))
 else (TE a b c d e f) (Zi (g+1)))
 else (TE a b c d e f) (Zi (g+1)))
 else Zds
def z73 (N:Nat) (a:T8) (b:Int) (c:Bool) (d:Int) (e:Int):Option Int :=
 TE a b c d e N 0
def Q2 (N:Nat) (a:Z6) (b:Int):Nat→(List Zk)→(List Zk)→(List Zk)→(List Int)→Bool→Int→Int→Option (X8 × Int)
 | 0,_,_,_,_,_,_,_=>none
 | c+1,d,e,f,g,h,i,j =>
 bif h then (some ((⟨([]:List Zk),([]:List Zk),0⟩:X8),25))
 else bif (decide (i≥(a.Code.length:Int))) then (some ((⟨([]:List Zk),([]:List Zk),0⟩:X8),25))
 else bif (decide (j≥b)) then (some ((⟨([]:List Zk),([]:List Zk),0⟩:X8),26))
 else (Zm a.Code i).bind fun k =>
 bif (k.Op==24) then (some ((⟨d,e,(Zi (j+1))⟩:X8),0))
 else (DB N (⟨d,e,f,g,h⟩:Yh) a i).bind fun l =>
 (Q2 N a b c) l.2.stack' l.2.vars' l.2.params' l.2.loops' l.2.trap' l.1 (Zi (j+1))
def Gj (N:Nat) (a:Z6) (b:Int) (c:(List Zk)) (d:(List Zk)) (e:Int):Option (X8 × Int) :=
 (Z4 ([]:List Zk) c).bind fun f =>
 Q2 N a e N ([]:List Zk) f d ([]:List Int) false b 0
def Qv (N:Nat) (a:Z6) (b:Int) (c:(List Zk)) (d:(List Zk)) (e:Int):Nat→Int→Option (X8 × Int)
 | 0,_=>none
 | f+1,g =>
 bif (decide (g < (d.length:Int))) then ((Zm d g).bind fun h =>
 (Rh N h).bind fun i =>
 bif (!i) then (some ((⟨([]:List Zk),([]:List Zk),0⟩:X8),1))
 else (Qv N a b c d e f) (Zi (g+1)))
 else Gj N a b c d e
def QA (N:Nat) (a:Z6) (b:Int) (c:(List Zk)) (d:(List Zk)) (e:Int):Option (X8 × Int) :=
 (ZbH N a c).bind fun f =>
 bif (!f) then (some ((⟨([]:List Zk),([]:List Zk),0⟩:X8),1))
 else bif (decide (b < 0)) then (some ((⟨([]:List Zk),([]:List Zk),0⟩:X8),1))
 else bif (decide (b≥(a.Code.length:Int))) then (some ((⟨([]:List Zk),([]:List Zk),0⟩:X8),1))
 else bif (decide ((d.length:Int) > 4)) then (some ((⟨([]:List Zk),([]:List Zk),0⟩:X8),1))
 else Qv N a b c d e N 0
def Hc (a:T9) (b:(List Zk) × Int) (c:(List Zk)):Option (ZS × Int) :=
 some ((⟨a.To,b.1,c,([]:List Zk)⟩:ZS),0)
def SK (N:Nat) (a:Z7) (b:ZS) (c:Int) (d:Int) (e:(List Zk)) (f:T9) (g:(List Zk)) (h:(List Zk) × Int):Nat→Int→Option (ZS × Int)
 | 0,_=>none
 | i+1,j =>
 bif (decide (j < (a.P.Handlers.length:Int))) then ((Zm a.P.Handlers j).bind fun k =>
 bif (k.Peer != c) then ((SK N a b c d e f g h i) (Zi (j+1)))
 else bif (k.Label != d) then ((SK N a b c d e f g h i) (Zi (j+1)))
 else (QA N a.P k.Entry b.Vars e 5000).bind fun l =>
 bif (l.2 != 0) then (some ((⟨0,([]:List Zk),([]:List Zk),([]:List Zk)⟩:ZS),25))
 else Hc f h l.1.Vars)
 else Hc f h g
def Lc (N:Nat) (a:Z7) (b:ZS) (c:Int) (d:Int) (e:(List Zk)):Option (ZS × Int) :=
 (RV N a b).bind fun f =>
 bif (!f) then (some ((⟨0,([]:List Zk),([]:List Zk),([]:List Zk)⟩:ZS),1))
 else (z73 N a.M b.State false c d).bind fun g =>
 bif (decide (g < 0)) then (some ((⟨0,([]:List Zk),([]:List Zk),([]:List Zk)⟩:ZS),23))
 else (TG N a.G.Decls d e b.Known).bind fun h =>
 bif (!h) then (some ((⟨0,([]:List Zk),([]:List Zk),([]:List Zk)⟩:ZS),23))
 else (Zm a.M.Moves g).bind fun i =>
 (Z4 ([]:List Zk) b.Vars).bind fun j =>
 (QP N a.G.Decls d e b.Known).bind fun k =>
 SK N a b c d e i j k N 0
def Ml (N:Nat) (a:Z7) (b:ZS) (c:U2):Option ((List Zk) × Bool) :=
 (QA N a.P c.Args b.Vars ([]:List Zk) 5000).bind fun d =>
 bif (d.2 != 0) then (some (([]:List Zk),false))
 else (TG N a.G.Decls c.Label d.1.Stack b.Known).bind fun e =>
 bif (!e) then (some (([]:List Zk),false))
 else some (d.1.Stack,true)
def Dz (N:Nat) (a:Z7) (b:ZS) (c:U2):Option ((List Zk) × Bool) :=
 bif (c.When != (-1)) then ((QA N a.P c.When b.Vars ([]:List Zk) 5000).bind fun d =>
 bif (d.2 != 0) then (some (([]:List Zk),false))
 else bif ((d.1.Stack.length:Int) != 1) then (some (([]:List Zk),false))
 else (Zm d.1.Stack 0).bind fun e =>
 bif (e.Kind != 1) then (some (([]:List Zk),false))
 else (Zm d.1.Stack 0).bind fun f =>
 bif (f.N==0) then (some (([]:List Zk),false))
 else Ml N a b c)
 else Ml N a b c
def ZcG:Option (Int × (List Zk)) :=
 some ((-1),([]:List Zk))
def Qt (N:Nat) (a:Z7) (b:ZS) (c:(List Int)):Nat→Int→Option (Int × (List Zk))
 | 0,_=>none
 | d+1,e =>
 bif (decide (e < (c.length:Int))) then ((Zm c e).bind fun f =>
 (Zm a.M.Moves f).bind fun g =>
 (VM N a.G.Decls g.Label b.Known).bind fun h =>
 bif h.2 then ((Zm c e).bind fun i =>
 some (i,h.1))
 else (Qt N a b c d) (Zi (e+1)))
 else ZcG
def ZbL (N:Nat) (a:Z7) (b:ZS) (c:(List Int)):Option (Int × (List Zk)) :=
 Qt N a b c N 0
def G5:Option (Int × (List Zk)) :=
 some ((-1),([]:List Zk))
def SA (N:Nat) (a:Z7) (b:ZS) (c:Int) (d:(List Int)) (e:W5):Nat→Int→Option (Int × (List Zk))
 | 0,_=>none
 | f+1,g =>
 bif (decide (g < (d.length:Int))) then (bif (decide (c≥e.Ticks)) then ((Zm d g).bind fun h =>
 bif (h != e.Else) then ((SA N a b c d e f) (Zi (g+1)))
 else (Zm d g).bind fun i =>
 (Zm a.M.Moves i).bind fun j =>
 (VM N a.G.Decls j.Label b.Known).bind fun k =>
 bif k.2 then ((Zm d g).bind fun l =>
 some (l,k.1))
 else (SA N a b c d e f) (Zi (g+1)))
 else G5)
 else G5
def Qm (N:Nat) (a:Z7) (b:ZS) (c:Int) (d:(List Int)):Nat→Int→Option (Int × (List Zk))
 | 0,_=>none
 | e+1,f =>
 bif (decide (f < (a.M.Timeouts.length:Int))) then ((Zm a.M.Timeouts f).bind fun g =>
 bif (g.State != b.State) then ((Qm N a b c d e) (Zi (f+1)))
 else SA N a b c d g N 0)
 else ZbL N a b d
def Zc2 (N:Nat) (a:Z7) (b:ZS) (c:Int) (d:(List Int)):Option (Int × (List Zk)) :=
 Qm N a b c d N 0
def HU (a:Int) (b:Int→Option (Int × (List Zk))):Option (Int × (List Zk)) :=
 b (Zi (a+1))
def TU (N:Nat) (a:Z7) (b:ZS) (c:(List Int)) (d:Int) (e:Int→Option (Int × (List Zk))) (f:U2):Nat→Int→Option (Int × (List Zk))
 | 0,_=>none
 | g+1,h =>
 bif (decide (h < (c.length:Int))) then ((Zm c h).bind fun i =>
 (Zm a.M.Moves i).bind fun j =>
 bif (j.Peer != f.Peer) then ((TU N a b c d e f g) (Zi (h+1)))
 else bif (j.Label != f.Label) then ((TU N a b c d e f g) (Zi (h+1)))
 else (Dz N a b f).bind fun k =>
 bif k.2 then ((Zm c h).bind fun l =>
 some (l,k.1))
 else (TU N a b c d e f g) (Zi (h+1)))
 else HU d e
def Ue (N:Nat) (a:Z7) (b:ZS) (c:Int) (d:(List Int)):Nat→Int→Option (Int × (List Zk))
 | 0,_=>none
 | e+1,f =>
 bif (decide (f < (a.P.Offers.length:Int))) then ((Zm a.P.Offers f).bind fun g =>
 TU N a b d f (Ue N a b c d e) g N 0)
 else Zc2 N a b c d
def B9 (N:Nat) (a:Z7) (b:ZS) (c:Int) (d:(List Int)):Option (Int × (List Zk)) :=
 Ue N a b c d N 0
def Qf (N:Nat) (a:Z7) (b:ZS) (c:Int) (d:(List Int)):Nat→Int→Option (Int × (List Zk))
 | 0,_=>none
 | e+1,f =>
 bif (decide (f < (d.length:Int))) then ((Zm d f).bind fun g =>
 (Zm a.M.Moves g).bind fun h =>
 bif h.Again then ((TG N a.G.Decls h.Label b.Pending b.Known).bind fun i =>
 bif i then ((Zm d f).bind fun j =>
 some (j,b.Pending))
 else some ((-1),([]:List Zk)))
 else (Qf N a b c d e) (Zi (f+1)))
 else B9 N a b c d
def Dq (N:Nat) (a:Z7) (b:ZS) (c:Int):Option (Int × (List Zk)) :=
 (ZaJ N a b).bind fun d =>
 Qf N a b c d N 0
def LM (N:Nat) (a:Z7) (b:ZS) (c:Int):Option (ZS × T3 × Bool) :=
 (RV N a b).bind fun d =>
 bif (!d) then (some ((⟨0,([]:List Zk),([]:List Zk),([]:List Zk)⟩:ZS),(⟨0,false,0,0,([]:List Zk)⟩:T3),false))
 else (Dq N a b c).bind fun e =>
 bif (decide (e.1 < 0)) then (some (b,(⟨0,false,0,0,([]:List Zk)⟩:T3),false))
 else (Zm a.M.Moves e.1).bind fun f =>
 (Z4 ([]:List Zk) b.Vars).bind fun g =>
 (Z4 ([]:List Zk) e.2).bind fun h =>
 (QP N a.G.Decls f.Label e.2 b.Known).bind fun i =>
 (Z4 ([]:List Zk) e.2).bind fun j =>
 some ((⟨f.To,i.1,g,h⟩:ZS),(⟨a.M.Role,true,f.Peer,f.Label,j⟩:T3),true)
def Za8 (a:Int) (b:(List Zk)) (c:(List Zk)) (d:(List Zk)) (e:(List T3)):Option (ZS × (List T3)) :=
 some ((⟨a,b,c,d⟩:ZS),e)
def Uc (N:Nat) (a:Z7) (b:(List XA)):Nat→Int→(List Zk)→(List Zk)→(List Zk)→(List T3)→Int→Option (ZS × (List T3))
 | 0,_,_,_,_,_,_=>none
 | c+1,d,e,f,g,h,i =>
 bif (decide (i < (b.length:Int))) then ((Zm b i).bind fun j =>
 bif j.Send then ((Zm b i).bind fun k =>
 (LM N a (⟨d,e,f,g⟩:ZS) k.Waited).bind fun l =>
 bif l.2.2 then ((Z4 h ([l.2.1]:List T3)).bind fun m =>
 (Uc N a b c) l.1.State l.1.Known l.1.Vars l.1.Pending m (Zi (i+1)))
 else (Uc N a b c) d e f g h (Zi (i+1)))
 else (Zm b i).bind fun o =>
 (G9 N a (⟨d,e,f,g⟩:ZS) o).bind fun p =>
 bif (!p.2.2.2) then ((Uc N a b c) d e f g h (Zi (i+1)))
 else (Lc N a (⟨d,e,f,g⟩:ZS) p.1 p.2.1 p.2.2.1).bind fun q =>
 bif (q.2==0) then ((Z4 h ([(⟨a.M.Role,false,p.1,p.2.1,p.2.2.1⟩:T3)]:List T3)).bind fun r =>
 (Uc N a b c) q.1.State q.1.Known q.1.Vars q.1.Pending r (Zi (i+1)))
 else (Uc N a b c) d e f g h (Zi (i+1)))
 else Za8 d e f g h
def z13 (N:Nat) (a:Z7) (b:(List XA)):Option (ZS × (List T3)) :=
 (BO N a).bind fun c =>
 Uc N a b N c.State c.Known c.Vars c.Pending ([]:List T3) 0
def z16 (N:Nat) (a:Z7) (b:ZS):Option Bool :=
 (RV N a b).bind fun c =>
 bif c then (bif (decide (b.State < (a.M.Finals.length:Int))) then ((Zm a.M.Finals b.State).bind fun d =>
 some d)
 else some false)
 else some false
def M3 (N:Nat) (a:Z7) (b:(List XA)):Option Bool :=
 (z13 N a b).bind fun c =>
 (z7 N a.G a.M c.2).bind fun d =>
 bif (d.2.2==0) then (bif (d.2.1==(c.2.length:Int)) then (bif (d.1.At==c.1.State) then ((TO N d.1.Known c.1.Known).bind fun e =>
 bif e then ((Bf N a.G a.M d.1).bind fun f =>
 (z16 N a c.1).bind fun g =>
 some (f==g))
 else some false)
 else some false)
 else some false)
 else some false
def RD (N:Nat) (a:Z7) (b:(List XA)):Nat→Int→Option Bool
 | 0,_=>none
 | c+1,d =>
 bif (decide (d < (b.length:Int))) then ((Zm b d).bind fun e =>
 (z12 N e.Values).bind fun f =>
 bif (!f) then (some true)
 else (RD N a b c) (Zi (d+1)))
 else M3 N a b
def SX (N:Nat) (a:Z7) (b:(List XA)):Option Bool :=
 (z5 N).bind fun c =>
 bif (!c) then (some false)
 else (HT N a).bind fun d =>
 bif (!d) then (some true)
 else bif (decide ((b.length:Int) > 30)) then (some true)
 else (GC N a).bind fun e =>
 bif (!e) then (some true)
 else RD N a b N 0
end Gx
end
