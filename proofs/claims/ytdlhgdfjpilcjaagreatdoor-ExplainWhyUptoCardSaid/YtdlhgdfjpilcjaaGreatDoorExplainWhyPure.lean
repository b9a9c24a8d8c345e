/- What each function of the statement computes, as plain definitions. -/
import Derived.Test.YtdlhgdfjpilcjaaGreatDoorExplainWhyCore4
set_option linter.all false
section
open Go Go.Kx
namespace Gx
def Vm:Nat→Nat→List UInt8
 | 0,_=>[]
 | f+1,u=>bif Nat.blt u 10 then [UInt8.ofNat (48+u)] else Vm f (u / 10)++[UInt8.ofNat (48+u % 10)]
def XE (n:Int):ByteArray:=⟨(bif decide (n < 0) then 45::Vm 25 n.natAbs else Vm 25 n.toNat).toArray⟩
def Xr (sep:List UInt8):List (List UInt8)→List UInt8
 | []=>[]
 | x::r=>x++(r.map (sep++·)).flatten
def QZ (b:UInt8):List UInt8:=if b=34∨b=92 then [92,b] else [b]
def TV (l:List UInt8):List UInt8:=(l.map QZ).flatten
structure Yb where
  Kind:Int
  Lo:Int
  Hi:Int
structure T4 where
  Name:ByteArray
  Sort':Yb
structure T1 where
  X:Int
  Y:Int
  C:Int
structure T6 where
  Diffs:(List T1)
  Equals:(List (Int × Int))
structure T0 where
  Name:ByteArray
  Fields:(List T4)
  First:Int
  Guard:T6
structure T7 where
  From:Int
  To:Int
  Label:Int
structure T2 where
  From:Int
  Act:T7
  To:Int
  Again:Bool
structure Yj where
  State:Int
  Ticks:Int
  Else:Int
structure T5 where
  Name:ByteArray
  Roles:(List ByteArray)
  Decls:(List T0)
  States:Int
  Start:Int
  End:Int
  Edges:(List T2)
  Timeouts:(List Yj)
structure T9 where
  From:Int
  Send:Bool
  Peer:Int
  Label:Int
  To:Int
  Again:Bool
structure T8 where
  Role:Int
  States:Int
  Start:Int
  Finals:(List Bool)
  Moves:(List T9)
  Timeouts:(List Yj)
structure Zm where
  Kind:Int
  N:Int
  S:ByteArray
structure ZJ where
  At:Int
  Known:(List Zm)
  Pending:(List Zm)
structure Yz where
  Machine:T8
  out':(List (List Int))
structure TQ where
  send':Bool
  peer':Int
  label':Int
structure T3 where
  Role:Int
  Send:Bool
  Peer:Int
  Label:Int
  Values:(List Zm)
structure Xu where
  At:Int
  Kind:Int
  Part:Int
  Role:Int
structure ZY where
  N:Int
  B:(List Int)
def PN (N:Nat) (a:Int):Option Bool :=
 bif (decide (97≤a)) then (bif (decide (a≤122)) then (some true)
 else bif (decide (65≤a)) then (some (decide (a≤90)))
 else some false)
 else bif (decide (65≤a)) then (some (decide (a≤90)))
 else some false
def BS (N:Nat) (a:Int):Option Bool :=
 bif (decide (48≤a)) then (some (decide (a≤57)))
 else some false
def Gl (N:Nat) (a:Int):Option Bool :=
 (PN N a).bind fun b =>
 bif b then (some true)
 else (BS N a).bind fun c =>
 bif c then (some true)
 else some (a==95)
def L5:Option Bool :=
 some true
def Uu (N:Nat) (a:ByteArray):Nat→Int→Option Bool
 | 0,_=>none
 | b+1,c =>
 bif (decide (c < (a.size:Int))) then ((YR a c).bind fun d =>
 (Gl N d).bind fun e =>
 bif (!e) then (some false)
 else (Uu N a b) (Zi (c+1)))
 else L5
def Dj (N:Nat) (a:ByteArray):Option Bool :=
 bif (a.toList==(str []).toList) then (some false)
 else bif (decide ((a.size:Int) > 16)) then (some false)
 else (YR a 0).bind fun b =>
 (PN N b).bind fun c =>
 bif (!c) then (some false)
 else Uu N a N 0
def DW:Option Int :=
 some (-1)
def S5 (a:(List ByteArray)) (b:ByteArray):Nat→Int→Option Int
 | 0,_=>none
 | c+1,d =>
 bif (decide (d < (a.length:Int))) then ((idx a d).bind fun e =>
 bif (b.toList==e.toList) then (some d)
 else (S5 a b c) (Zi (d+1)))
 else DW
def HP (N:Nat) (a:(List ByteArray)) (b:ByteArray):Option Int :=
 S5 a b N 0
def MY (N:Nat) (a:(List ByteArray)) (b:ByteArray):Option Bool :=
 (HP N a b).bind fun c =>
 some (decide (c≥0))
def z146 (N:Nat) (a:ByteArray):Option Bool :=
 (Dj N a).bind fun b =>
 bif b then ((MY N ([(str [97,103,97,105,110]),(str [97,110,100]),(str [97,115]),(str [97,116]),(str [99,97,108,108]),(str [99,104,111,105,99,101]),(str [101,108,115,101]),(str [102,114,111,109]),(str [105,102]),(str [105,110,116]),(str [108,101,110]),(str [108,111,111,112]),(str [109,101,115,115,97,103,101]),(str [111,102]),(str [111,102,102,101,114]),(str [111,110]),(str [111,114]),(str [112,97,114]),(str [112,108,97,121,115]),(str [112,114,111,116,111,99,111,108]),(str [115,101,114,118,105,99,101]),(str [116,101,120,116]),(str [116,105,109,101,115]),(str [116,111]),(str [118,97,114]),(str [119,104,101,114,101]),(str [119,104,105,108,101]),(str [119,105,116,104,105,110])]:List ByteArray) a).bind fun c =>
 some (!c))
 else some false
def DE:Option Bool :=
 some true
def SX (N:Nat) (a:T5):Nat→Int→Option Bool
 | 0,_=>none
 | b+1,c =>
 bif (decide (c < (a.Roles.length:Int))) then ((idx a.Roles c).bind fun d =>
 (z146 N d).bind fun e =>
 bif (!e) then (some false)
 else (lsl a.Roles none (some c)).bind fun f =>
 (MY N f d).bind fun g =>
 bif g then (some false)
 else (SX N a b) (Zi (c+1)))
 else DE
def DT (N:Nat) (a:T5):Option Bool :=
 (z146 N a.Name).bind fun b =>
 bif (!b) then (some false)
 else bif (decide ((a.Roles.length:Int) < 1)) then (some false)
 else bif (decide ((a.Roles.length:Int) > 6)) then (some false)
 else SX N a N 0
def H5:Option Bool :=
 some true
def Qs (a:T5):Nat→Int→Option Bool
 | 0,_=>none
 | b+1,c =>
 bif (decide (c < (a.Edges.length:Int))) then ((idx a.Edges c).bind fun d =>
 bif (decide ((YI (YI (YI (YI d.From d.To) d.Act.From) d.Act.To) d.Act.Label) < 0)) then (some false)
 else bif (decide ((Wk d.From d.To)≥a.States)) then (some false)
 else bif (decide ((Wk d.Act.From d.Act.To)≥(a.Roles.length:Int))) then (some false)
 else bif (d.Act.From==d.Act.To) then (some false)
 else bif (decide (d.Act.Label≥(a.Decls.length:Int))) then (some false)
 else (Qs a b) (Zi (c+1)))
 else H5
def G8 (N:Nat) (a:T5):Option Bool :=
 bif (decide (a.States < 1)) then (some false)
 else bif (decide (a.States > 200)) then (some false)
 else bif (decide ((YI a.Start a.End) < 0)) then (some false)
 else bif (decide ((Wk a.Start a.End)≥a.States)) then (some false)
 else bif (decide ((a.Edges.length:Int) > 400)) then (some false)
 else Qs a N 0
def LK (a:(List T4)):Option (List T4) :=
 some a
def R6 (a:(List T0)):Nat→(List T4)→Int→Option (List T4)
 | 0,_,_=>none
 | b+1,c,d =>
 bif (decide (d < (a.length:Int))) then ((idx a d).bind fun e =>
 (Z7 c e.Fields).bind fun f =>
 (R6 a b) f (Zi (d+1)))
 else LK c
def Lw (N:Nat) (a:(List T0)):Option (List T4) :=
 R6 a N ([]:List T4) 0
def Bf (a:Int) (b:Nat):Option Int :=
 some a
def DG (a:ByteArray):Nat→Int→Nat→Option Int
 | 0,_,_=>none
 | b+1,c,d =>
 bif decide (d < a.size) then ((DG a b) (Zi (c+1)) (d+(Utf8.decode a d).2))
 else Bf c d
def Zbw (N:Nat) (a:ByteArray):Option Int :=
 DG a N 0 (0:Nat)
def ZcF (N:Nat) (a:ByteArray):Option (Int × Int) :=
 bif (decide ((a.size:Int) < 1)) then (some (65533,0))
 else (YR a 0).bind fun b =>
 Q5 0
def ZcM (N:Nat) (a:ByteArray):Option (Int × Int) :=
 bif (!(a.toList==(str []).toList)) then ((YR a 0).bind fun b =>
 bif (decide (b < 128)) then ((YR a 0).bind fun c =>
 some ((wk .i32 (c)),1))
 else (ZcF N a).bind fun d =>
 some (d.1,d.2))
 else (ZcF N a).bind fun e =>
 some (e.1,e.2)
def Bs (a:Int) (b:ByteArray) (c:(List ByteArray)):Option (List ByteArray) :=
 bif (decide (a > 0)) then ((idx c (Zi (a-1))).bind fun d =>
 some (ZW c (Zi (a-1)) b))
 else some c
def L8 (N:Nat) (a:Int):Nat→ByteArray→(List ByteArray)→Int→Option (List ByteArray)
 | 0,_,_,_=>none
 | b+1,c,d,e =>
 bif (decide (e < (Zi (a-1)))) then ((ZcM N c).bind fun f =>
 (ssl c none (some f.2)).bind fun g =>
 (idx d e).bind fun h =>
 (ssl c (some f.2) none).bind fun i =>
 (L8 N a b) i (ZW d e g) (Zi (e+1)))
 else Bs a c d
def HQ (N:Nat) (a:ByteArray) (b:Int):Option (List ByteArray) :=
 (YG (str []) b b).bind fun c =>
 L8 N b N a c 0
def Gw (N:Nat) (a:ByteArray) (b:Int) (c:Int) (d:Bool):Option (List ByteArray) :=
 bif d then (HQ N a c)
 else HQ N a b
def ZeN (N:Nat) (a:ByteArray) (b:Int):Option (List ByteArray) :=
 (Zbw N a).bind fun c =>
 bif (decide (b < 0)) then (Gw N a b c true)
 else Gw N a b c (decide (b > c))
def ZcB (N:Nat) (a:ByteArray) (b:Int):Option Int :=
 some (Zdg a b)
def Zco (N:Nat) (a:ByteArray) (b:ByteArray):Option Int :=
 bif ((b.size:Int)==0) then (some 0)
 else bif (b.toList==a.toList) then (some 0)
 else bif ((b.size:Int)==1) then ((YR b 0).bind fun c =>
 (ZcB N a c).bind fun d =>
 some d)
 else bif (decide ((b.size:Int)≥(a.size:Int))) then (some (-1))
 else Q5 0
def Ml (N:Nat) (a:ByteArray) (b:ByteArray):Option Int :=
 (Zco N a b).bind fun c =>
 some c
def LG (N:Nat) (a:ByteArray):Nat→ByteArray→Int→Option Int
 | 0,_,_=>none
 | b+1,c,d =>
 (Ml N c a).bind fun e =>
 bif (e==(-1)) then (some d)
 else (ssl c (some (Zi (e+(a.size:Int)))) none).bind fun f =>
 (LG N a b) f (Zi (d+1))
def LQ (N:Nat) (a:ByteArray) (b:ByteArray):Option Int :=
 bif ((b.size:Int)==0) then ((Zbw N a).bind fun c =>
 some (Zi (c+1)))
 else bif ((b.size:Int)==1) then ((YR b 0).bind fun d =>
 some (Zaw a d))
 else LG N b N a 0
def Qu (a:ByteArray) (b:(List ByteArray)) (c:Int):Option (List ByteArray) :=
 (idx b c).bind fun d =>
 (lsl (ZW b c a) none (some (Zi (c+1)))).bind fun e =>
 some e
def Sb (N:Nat) (a:ByteArray) (b:ByteArray) (c:Int) (d:Int):Nat→ByteArray→(List ByteArray)→Int→Option (List ByteArray)
 | 0,_,_,_=>none
 | e+1,f,g,h =>
 bif (decide (h < (Zi ((YI d (Zi ((a.size:Int)+1)))-1)))) then ((Ml N f b).bind fun i =>
 bif (decide (i < 0)) then (Qu f g h)
 else (ssl f none (some (Zi (i+c)))).bind fun j =>
 (idx g h).bind fun k =>
 (ssl f (some (Zi (i+(b.size:Int)))) none).bind fun l =>
 (Sb N a b c d e) l (ZW g h j) (Zi (h+1)))
 else Qu f g h
def MH (N:Nat) (a:ByteArray) (b:ByteArray) (c:Int) (d:Int):Option (List ByteArray) :=
 (YG (str []) (YI d (Zi ((a.size:Int)+1))) (YI d (Zi ((a.size:Int)+1)))).bind fun e =>
 Sb N a b c d N a e 0
def Zb9 (N:Nat) (a:ByteArray) (b:ByteArray) (c:Int) (d:Int):Option (List ByteArray) :=
 bif (d==0) then (some ([]:List ByteArray))
 else bif (b.toList==(str []).toList) then ((ZeN N a d).bind fun e =>
 some e)
 else bif (decide (d < 0)) then ((LQ N a b).bind fun f =>
 MH N a b c (Zi (f+1)))
 else MH N a b c d
def H6 (N:Nat) (a:ByteArray) (b:ByteArray):Option (List ByteArray) :=
 (Zb9 N a b 0 (-1)).bind fun c =>
 some c
def ZaW (N:Nat) (a:ByteArray):Option Bool :=
 (z146 N a).bind fun b =>
 some (!b)
def DQ:Option Int :=
 some (-1)
def Qj (N:Nat) (a:(List ByteArray)):Nat→Int→Option Int
 | 0,_=>none
 | b+1,c =>
 bif (decide (c < (a.length:Int))) then ((idx a c).bind fun d =>
 (ZaW N d).bind fun e =>
 bif e then (some c)
 else (Qj N a b) (Zi (c+1)))
 else DQ
def Za3 (N:Nat) (a:(List ByteArray)):Option Int :=
 Qj N a N 0
def Zcc (N:Nat) (a:(List ByteArray)):Option Bool :=
 (Za3 N a).bind fun b =>
 some (decide (b≥0))
def H9 (N:Nat) (a:ByteArray):Option Bool :=
 bif (decide ((a.size:Int)≤50)) then ((H6 N a (str [46])).bind fun b =>
 (Zcc N b).bind fun c =>
 some (!c))
 else some false
def BO (N:Nat) (a:T0) (b:T0):Option Bool :=
 some (a.Name.toList==b.Name.toList)
def Hc:Option Int :=
 some (-1)
def SR (N:Nat) (a:(List T0)) (b:T0):Nat→Int→Option Int
 | 0,_=>none
 | c+1,d =>
 bif (decide (d < (a.length:Int))) then ((idx a d).bind fun e =>
 (BO N e b).bind fun f =>
 bif f then (some d)
 else (SR N a b c) (Zi (d+1)))
 else Hc
def ZbT (N:Nat) (a:(List T0)) (b:T0):Option Int :=
 SR N a b N 0
def Gu (N:Nat) (a:(List T0)) (b:T0):Option Bool :=
 (ZbT N a b).bind fun c =>
 some (decide (c≥0))
def DK (N:Nat) (a:Yb):Option Bool :=
 bif (a.Kind==1) then (bif (decide (a.Lo≥(-1000))) then (bif (decide (a.Lo≤a.Hi)) then (some (decide (a.Hi≤1000)))
 else some false)
 else some false)
 else bif (a.Kind==2) then (bif (decide (a.Lo≥0)) then (bif (decide (a.Lo≤a.Hi)) then (some (decide (a.Hi≤40)))
 else some false)
 else some false)
 else some false
def ZbR (N:Nat) (a:T4) (b:T4):Option Bool :=
 some (a.Name.toList==b.Name.toList)
def DO:Option Int :=
 some (-1)
def Qt (N:Nat) (a:(List T4)) (b:T4):Nat→Int→Option Int
 | 0,_=>none
 | c+1,d =>
 bif (decide (d < (a.length:Int))) then ((idx a d).bind fun e =>
 (ZbR N e b).bind fun f =>
 bif f then (some d)
 else (Qt N a b c) (Zi (d+1)))
 else DO
def ZbY (N:Nat) (a:(List T4)) (b:T4):Option Int :=
 Qt N a b N 0
def H7 (N:Nat) (a:(List T4)) (b:T4):Option Bool :=
 (ZbY N a b).bind fun c =>
 some (decide (c≥0))
def DC:Option Bool :=
 some true
def P2 (a:Int) (b:Int→Option Bool):Option Bool :=
 b (Zi (a+1))
def QI (a:(List T4)) (b:Int) (c:Int→Option Bool) (d:(Int × Int)):Nat→Int→Option Bool
 | 0,_=>none
 | e+1,f =>
 bif (decide (f < 2)) then ((idx ([d.1,d.2]:List Int) f).bind fun g =>
 bif (decide (g < 0)) then (some false)
 else bif (decide (g≥(a.length:Int))) then (some false)
 else (idx a g).bind fun h =>
 bif (h.Sort'.Kind != 2) then (some false)
 else (QI a b c d e) (Zi (f+1)))
 else P2 b c
def Vj (N:Nat) (a:T6) (b:(List T4)):Nat→Int→Option Bool
 | 0,_=>none
 | c+1,d =>
 bif (decide (d < (a.Equals.length:Int))) then ((idx a.Equals d).bind fun e =>
 QI b d (Vj N a b c) e N 0)
 else DC
def Mo (N:Nat) (a:T6) (b:(List T4)):Option Bool :=
 Vj N a b N 0
def SO (N:Nat) (a:T6) (b:(List T4)):Nat→Int→Option Bool
 | 0,_=>none
 | c+1,d =>
 bif (decide (d < (a.Diffs.length:Int))) then ((idx a.Diffs d).bind fun e =>
 bif (decide ((YI e.X e.Y) < (-1))) then (some false)
 else bif (decide ((Wk e.X e.Y)≥(b.length:Int))) then (some false)
 else bif (decide (e.C < (-20000))) then (some false)
 else bif (decide (e.C > 20000)) then (some false)
 else (SO N a b c) (Zi (d+1)))
 else Mo N a b
def Gj (N:Nat) (a:T6) (b:(List T4)):Option Bool :=
 bif (decide ((a.Diffs.length:Int) > 20)) then (some false)
 else bif (decide ((a.Equals.length:Int) > 20)) then (some false)
 else SO N a b N 0
def HS:Option Bool :=
 some true
def MV (N:Nat) (a:(List T4)) (b:Int) (c:Int) (d:Int→Int→Option Bool) (e:T0):Option Bool :=
 (Gj N e.Guard a).bind fun f =>
 bif (!f) then (some false)
 else d (Zi (b+(e.Fields.length:Int))) (Zi (c+1))
def Qc (N:Nat) (a:(List T4)) (b:Int) (c:Int) (d:Int→Int→Option Bool) (e:T0):Nat→Int→Option Bool
 | 0,_=>none
 | f+1,g =>
 bif (decide (g < (e.Fields.length:Int))) then ((idx e.Fields g).bind fun h =>
 (z146 N h.Name).bind fun i =>
 bif (!i) then (some false)
 else (DK N h.Sort').bind fun j =>
 bif (!j) then (some false)
 else (lsl e.Fields none (some g)).bind fun k =>
 (H7 N k h).bind fun l =>
 bif l then (some false)
 else (Qc N a b c d e f) (Zi (g+1)))
 else MV N a b c d e
def Wi (N:Nat) (a:(List T0)) (b:(List T4)):Nat→Int→Int→Option Bool
 | 0,_,_=>none
 | c+1,d,e =>
 bif (decide (e < (a.length:Int))) then ((idx a e).bind fun f =>
 (H9 N f.Name).bind fun g =>
 bif (!g) then (some false)
 else bif (decide ((f.Fields.length:Int) > 4)) then (some false)
 else bif (f.First != d) then (some false)
 else (lsl a none (some e)).bind fun h =>
 (Gu N h f).bind fun i =>
 bif i then (some false)
 else Qc N b d e (Wi N a b c) f N 0)
 else HS
def Mf (N:Nat) (a:(List T0)):Option Bool :=
 bif (decide ((a.length:Int) > 40)) then (some false)
 else (Lw N a).bind fun b =>
 bif (decide ((b.length:Int) > 24)) then (some false)
 else Wi N a b N 0 0
def DJ (a:(List T1)):Option (List T1) :=
 some a
def S7 (a:T0):Nat→(List T1)→Int→Option (List T1)
 | 0,_,_=>none
 | b+1,c,d =>
 bif (decide (d < (a.Guard.Equals.length:Int))) then ((idx a.Guard.Equals d).bind fun e =>
 (Z7 c ([(⟨e.1,e.2,0⟩:T1),(⟨e.2,e.1,0⟩:T1)]:List T1)).bind fun f =>
 (S7 a b) f (Zi (d+1)))
 else DJ c
def GR (N:Nat) (a:T0) (b:(List T1)):Option (List T1) :=
 (Z7 b a.Guard.Diffs).bind fun c =>
 S7 a N c 0
def S4 (N:Nat) (a:T0):Nat→(List T1)→Int→Option (List T1)
 | 0,_,_=>none
 | b+1,c,d =>
 bif (decide (d < (a.Fields.length:Int))) then ((idx a.Fields d).bind fun e =>
 (Z7 c ([(⟨(Zi (a.First+d)),(-1),e.Sort'.Hi⟩:T1),(⟨(-1),(Zi (a.First+d)),(Zi (0-e.Sort'.Lo))⟩:T1)]:List T1)).bind fun f =>
 (S4 N a b) f (Zi (d+1)))
 else GR N a c
def z72 (N:Nat) (a:T0):Option (List T1) :=
 S4 N a N ([]:List T1) 0
def z37 (N:Nat) (a:(List T0)) (b:Int):Option ((List T1) × Int) :=
 bif (decide (b < 0)) then (some (([]:List T1),1))
 else bif (decide (b≥(a.length:Int))) then (some (([]:List T1),1))
 else (Mf N a).bind fun c =>
 bif (!c) then (some (([]:List T1),1))
 else (idx a b).bind fun d =>
 (z72 N d).bind fun e =>
 some (e,0)
def GB (N:Nat) (a:(List T0)):Option Bool :=
 bif ((a.length:Int)==0) then (some true)
 else (z37 N a 0).bind fun b =>
 some (b.2==0)
def Gc:Option Bool :=
 some true
def MG (a:Int) (b:Int→Option Bool):Option Bool :=
 b (Zi (a+1))
def Sk (a:T2) (b:Int) (c:Int→Option Bool) (d:T2) (e:Bool):Option Bool :=
 bif e then (some false)
 else bif a.Again then (bif (d.To==a.From) then (bif (a.Act.From != d.Act.From) then (some false)
 else bif (a.Act.Label != d.Act.Label) then (some false)
 else c (Zi (b+1)))
 else c (Zi (b+1)))
 else c (Zi (b+1))
def Vh (a:T5) (b:Int) (c:Int→Option Bool) (d:T2):Nat→Int→Option Bool
 | 0,_=>none
 | e+1,f =>
 bif (decide (f < (a.Edges.length:Int))) then ((idx a.Edges f).bind fun g =>
 bif (b != f) then (bif (d.From==g.From) then (bif ((d.Act.From==g.Act.From) && ((d.Act.To==g.Act.To) && ((d.Act.Label==g.Act.Label) && true))) then (Sk d f (Vh a b c d e) g true)
 else bif (d.Act.From != g.Act.From) then (Sk d f (Vh a b c d e) g true)
 else Sk d f (Vh a b c d e) g d.Again)
 else Sk d f (Vh a b c d e) g false)
 else Sk d f (Vh a b c d e) g false)
 else MG b c
def Q2 (N:Nat) (a:T5) (b:Int) (c:Int→Option Bool) (d:T2) (e:Bool):Option Bool :=
 bif e then (some false)
 else Vh a b c d N 0
def X2 (N:Nat) (a:T5):Nat→Int→Option Bool
 | 0,_=>none
 | b+1,c =>
 bif (decide (c < (a.Edges.length:Int))) then ((idx a.Edges c).bind fun d =>
 bif (d.From==a.End) then (Q2 N a c (X2 N a b) d true)
 else bif d.Again then (Q2 N a c (X2 N a b) d (d.From==a.Start))
 else Q2 N a c (X2 N a b) d false)
 else Gc
def DY (N:Nat) (a:T5):Option Bool :=
 X2 N a N 0
def Hy:Option Bool :=
 some true
def Ul (a:T5):Nat→Int→Int→Option Bool
 | 0,_,_=>none
 | b+1,c,d =>
 bif (decide (d < (a.Timeouts.length:Int))) then ((idx a.Timeouts d).bind fun e =>
 bif (decide (e.State≤c)) then (some false)
 else bif (decide (e.Ticks < 1)) then (some false)
 else bif (decide (e.Ticks > 1000)) then (some false)
 else bif (decide (e.Else < 0)) then (some false)
 else bif (decide (e.Else≥(a.Edges.length:Int))) then (some false)
 else (idx a.Edges e.Else).bind fun f =>
 bif (f.From != e.State) then (some false)
 else (idx a.Edges e.Else).bind fun g =>
 bif g.Again then (some false)
 else (Ul a b) e.State (Zi (d+1)))
 else Hy
def z212 (N:Nat) (a:T5):Option Bool :=
 Ul a N (-1) 0
def ZeZ (N:Nat) (a:Int) (b:Int):Option (Int × Int) :=
 (Vz .and .u64 a 4294967295).bind fun c =>
 (Vz .shr .u64 a 32).bind fun d =>
 (Vz .and .u64 b 4294967295).bind fun e =>
 (Vz .shr .u64 b 32).bind fun f =>
 (Vz .shr .u64 (wk .u64 (c * e)) 32).bind fun g =>
 (Vz .and .u64 (wk .u64 ((wk .u64 (d * e))+g)) 4294967295).bind fun h =>
 (Vz .shr .u64 (wk .u64 ((wk .u64 (d * e))+g)) 32).bind fun i =>
 (Vz .shr .u64 (wk .u64 (h+(wk .u64 (c * f)))) 32).bind fun j =>
 some ((wk .u64 ((wk .u64 ((wk .u64 (d * f))+i))+j)),(wk .u64 (a * b)))
def Dd (N:Nat) (a:Int) (b:Int):Option (Int × Int) :=
 (ZeZ N a b).bind fun c =>
 some (c.1,c.2)
def Dr (a:(List Int)):Option (List Int) :=
 some a
def Ri:Nat→(List Int)→Int→Option (List Int)
 | 0,_,_=>none
 | a+1,b,c =>
 bif (decide (c < (b.length:Int))) then ((lsl b (some c) none).bind fun d =>
 (lsl b none (some c)).bind fun e =>
 (Wy b (some c) none e).bind fun f =>
 (Ri a) f.1 (Zi (c+f.2)))
 else Dr b
def PT (N:Nat) (a:(List Int)) (b:Int × Int) (c:Bool):Option (List Int) :=
 bif c then (Q5 0)
 else (YG 0 (Zi (b.2)) (Zi (b.2))).bind fun d =>
 (Wy d none none a).bind fun e =>
 Ri N e.1 e.2
def LZ (N:Nat) (a:(List Int)) (b:Int):Option (List Int) :=
 bif (decide (b < 0)) then (Q5 0)
 else (Dd N (wk .u64 ((a.length:Int))) (wk .u64 (b))).bind fun c =>
 bif (decide (c.1 > 0)) then (PT N a c true)
 else PT N a c (decide (c.2 > 9223372036854775807))
def Za5 (a:(List Int)):Option (List Int) :=
 some a
def Me (a:(List Int)→(List Int)→Option (List Int)) (b:(List Int)) (c:(List Int)):Option (List Int) :=
 (lsl c (some 1) none).bind fun d =>
 a b d
def Pa (a:(List Int)) (b:(List Int)) (c:Int) (d:(List Int)→(List Int)→Int→Option (List Int)) (e:Int) (f:Int):Option (List Int) :=
 (idx b 0).bind fun g =>
 bif (e==g) then ((idx a f).bind fun h =>
 bif (decide (h < 0)) then ((idx a e).bind fun i =>
 (idx a f).bind fun j =>
 (Z7 b ([f]:List Int)).bind fun k =>
 d (ZW a f (Zi (i+1))) k (Zi (c+1)))
 else d a b (Zi (c+1)))
 else d a b (Zi (c+1))
def VQ (a:T5) (b:Bool) (c:(List Int)→(List Int)→Option (List Int)):Nat→(List Int)→(List Int)→Int→Option (List Int)
 | 0,_,_,_=>none
 | d+1,e,f,g =>
 bif (decide (g < (a.Edges.length:Int))) then ((idx a.Edges g).bind fun h =>
 bif b then (Pa e f g (VQ a b c d) h.To h.From)
 else Pa e f g (VQ a b c d) h.From h.To)
 else Me c e f
def Vg (N:Nat) (a:T5) (b:Bool):Nat→(List Int)→(List Int)→Option (List Int)
 | 0,_,_=>none
 | c+1,d,e =>
 bif (decide ((e.length:Int) > 0)) then (VQ a b (Vg N a b c) N d e 0)
 else Za5 d
def P0 (N:Nat) (a:T5) (b:Int) (c:Bool):Option (List Int) :=
 (LZ N ([(-1)]:List Int) a.States).bind fun d =>
 (idx d b).bind fun e =>
 Vg N a c N (ZW d b 0) ([b]:List Int)
def HH:Option Int :=
 some (-1)
def S3 (a:(List Int)) (b:Int):Nat→Int→Option Int
 | 0,_=>none
 | c+1,d =>
 bif (decide (d < (a.length:Int))) then ((idx a d).bind fun e =>
 bif (b==e) then (some d)
 else (S3 a b c) (Zi (d+1)))
 else HH
def ZaY (N:Nat) (a:(List Int)) (b:Int):Option Int :=
 S3 a b N 0
def z213 (N:Nat) (a:(List Int)) (b:Int):Option Bool :=
 (ZaY N a b).bind fun c =>
 some (decide (c≥0))
def Pk (N:Nat) (a:T5):Option Bool :=
 (DT N a).bind fun b =>
 bif b then ((G8 N a).bind fun c =>
 bif c then ((GB N a.Decls).bind fun d =>
 bif d then ((DY N a).bind fun e =>
 bif e then ((z212 N a).bind fun f =>
 bif f then ((P0 N a a.Start false).bind fun g =>
 (z213 N g (-1)).bind fun h =>
 bif (!h) then ((P0 N a a.End true).bind fun i =>
 (z213 N i (-1)).bind fun j =>
 some (!j))
 else some false)
 else some false)
 else some false)
 else some false)
 else some false)
 else some false
def Pv (N:Nat) (a:T8) (b:Int):Option Bool :=
 bif (decide (b≥0)) then (some (decide (b < a.States)))
 else some false
def Bw:Option Bool :=
 some true
def TL (N:Nat) (a:T8):Nat→Int→Option Bool
 | 0,_=>none
 | b+1,c =>
 bif (decide (c < (a.Moves.length:Int))) then ((idx a.Moves c).bind fun d =>
 (Pv N a d.From).bind fun e =>
 bif (!e) then (some false)
 else (Pv N a d.To).bind fun f =>
 bif (!f) then (some false)
 else bif (decide (d.Peer < 0)) then (some false)
 else bif (decide (d.Peer≥6)) then (some false)
 else bif (d.Peer==a.Role) then (some false)
 else bif (decide (d.Label < 0)) then (some false)
 else bif (decide (d.Label≥40)) then (some false)
 else (TL N a b) (Zi (c+1)))
 else Bw
def LY (N:Nat) (a:T8):Option Bool :=
 bif (decide (a.Role < 0)) then (some false)
 else bif (decide (a.Role≥6)) then (some false)
 else bif (decide (a.States < 1)) then (some false)
 else bif (decide (a.States > 200)) then (some false)
 else (Pv N a a.Start).bind fun b =>
 bif (!b) then (some false)
 else bif ((a.Finals.length:Int) != a.States) then (some false)
 else bif (decide ((a.Moves.length:Int) > 400)) then (some false)
 else TL N a N 0
def Sn (N:Nat) (a:T9):Option TQ :=
 some (⟨a.Send,a.Peer,a.Label⟩:TQ)
def HX (N:Nat) (a:Int):Option Bool :=
 some (a != a)
def z232 (N:Nat) (a:Int) (b:Int):Option Int :=
 (HX N a).bind fun c =>
 (HX N b).bind fun d =>
 bif c then (bif d then (some 0)
 else some (-1))
 else bif d then (some 1)
 else bif (decide (a < b)) then (some (-1))
 else bif (decide (a > b)) then (some 1)
 else some 0
def Zaq:Option Int :=
 some 0
def Ws (a:(List Int)):Nat→Int→Option Int
 | 0,_=>none
 | b+1,c =>
 bif (decide (c < (a.length:Int))) then ((idx a c).bind fun d =>
 bif (d != 0) then (some d)
 else (Ws a b) (Zi (c+1)))
 else Zaq
def Tn (N:Nat) (a:(List Int)):Option Int :=
 Ws a N 0
def L6 (N:Nat) (a:TQ) (b:TQ):Option Int :=
 bif (!(a.send'==b.send')) then (bif a.send' then (some (-1))
 else some 1)
 else (z232 N a.peer' b.peer').bind fun c =>
 (z232 N a.label' b.label').bind fun d =>
 (Tn N ([c,d]:List Int)).bind fun e =>
 some e
def Pd (N:Nat) (a:Int) (b:Int) (c:T8):Option Int :=
 (idx c.Moves a).bind fun d =>
 (Sn N d).bind fun e =>
 (idx c.Moves b).bind fun f =>
 (Sn N f).bind fun g =>
 (L6 N e g).bind fun h =>
 some h
def XC (N:Nat) (a:T8) (i k:Int):Int:=(Pd N i k a).getD 0
def DB (N:Nat) (c:T8) (xs:List Int):Bool:=(xs.all fun i=>xs.all fun k=>(Pd N i k c).isSome) && (Ht (fun a b=>decide (XC N c a b < 0)) xs && decide (xs.length < 4611686018427387904))
def TE (N:Nat) (a:T8):Nat→List (List Int)→Int→Option Yz
 | 0,_,_=>none
 | n+1,xss,j=>bif decide (j < (xss.length:Int)) then (idx xss j).bind fun xs =>
   bif DB N a xs then TE N a n (xss.set j.toNat (XL (XC N a) xs)) (Zi (j+1)) else none
   else some ⟨a,xss⟩
def Qh (N:Nat) (a:T8):Nat→List (List Int)→Int→Option Yz
 | 0,_,_=>none
 | n+1,xss,i=>bif decide (i < (a.Moves.length:Int)) then (idx a.Moves i).bind fun x=>(idx xss x.From).bind fun xs=>(Z7 xs [i]).bind fun ys =>
   Qh N a n (xss.set x.From.toNat ys) (Zi (i+1))
   else TE N a N xss 0
def GQ (N:Nat) (a:T8):Option Yz:=(YG () a.States a.States).bind fun us=>bif us.isEmpty then none else Qh N a N (List.replicate us.length []) 0
def BV:Option Bool :=
 some true
def Rz (a:Int) (b:Int→Option Bool):Option Bool :=
 b (Zi (a+1))
def UJ (N:Nat) (a:Yz) (b:Int) (c:Int→Option Bool) (d:(List Int)):Nat→Int→Option Bool
 | 0,_=>none
 | e+1,f =>
 bif (decide (f < (d.length:Int))) then ((idx d (Zi (f-1))).bind fun g =>
 (idx a.Machine.Moves g).bind fun h =>
 (idx d f).bind fun i =>
 (idx a.Machine.Moves i).bind fun j =>
 (Sn N h).bind fun k =>
 (Sn N j).bind fun l =>
 bif ((k.send'==l.send') && ((k.peer'==l.peer') && ((k.label'==l.label') && true))) then (some false)
 else bif (!(h.Send==j.Send)) then (some false)
 else (UJ N a b c d e) (Zi (f+1)))
 else Rz b c
def XP (N:Nat) (a:Yz):Nat→Int→Option Bool
 | 0,_=>none
 | b+1,c =>
 bif (decide (c < (a.out'.length:Int))) then ((idx a.out' c).bind fun d =>
 UJ N a c (XP N a b) d N 1)
 else BV
def LD (N:Nat) (a:Yz):Option Bool :=
 XP N a N 0
def BI (a:Yz) (b:(List Int)):Option Bool :=
 some ((b.length:Int)==a.Machine.States)
def Bm (a:Int) (b:(List Bool)→(List Int)→Int→Option Bool) (c:(List Bool)) (d:(List Int)):Option Bool :=
 b c d (Zi (a+1))
def VY (a:Yz) (b:Int) (c:(List Bool)→(List Int)→Int→Option Bool) (d:(List Int)):Nat→(List Bool)→(List Int)→Int→Option Bool
 | 0,_,_,_=>none
 | e+1,f,g,h =>
 bif (decide (h < (d.length:Int))) then ((idx d h).bind fun i =>
 (idx a.Machine.Moves i).bind fun j =>
 (idx f j.To).bind fun k =>
 bif (!k) then ((idx f j.To).bind fun l =>
 (Z7 g ([j.To]:List Int)).bind fun m =>
 (VY a b c d e) (ZW f j.To true) m (Zi (h+1)))
 else (VY a b c d e) f g (Zi (h+1)))
 else Bm b c f g
def Wq (N:Nat) (a:Yz):Nat→(List Bool)→(List Int)→Int→Option Bool
 | 0,_,_,_=>none
 | b+1,c,d,e =>
 bif (decide (e < (d.length:Int))) then ((idx d e).bind fun f =>
 (idx a.out' f).bind fun g =>
 VY a e (Wq N a b) g N c d 0)
 else BI a d
def QU (N:Nat) (a:Yz):Option Bool :=
 (YG false a.Machine.States a.Machine.States).bind fun b =>
 (idx b a.Machine.Start).bind fun c =>
 Wq N a N (ZW b a.Machine.Start true) ([a.Machine.Start]:List Int) 0
def Zav:Option Bool :=
 some true
def Px (a:Int) (b:Int→Option Bool):Option Bool :=
 b (Zi (a+1))
def V7 (a:Yz) (b:Int) (c:Int→Option Bool) (d:T9):Nat→Int→Option Bool
 | 0,_=>none
 | e+1,f =>
 bif (decide (f < (a.Machine.Moves.length:Int))) then ((idx a.Machine.Moves f).bind fun g =>
 bif (g.To==d.From) then (bif (!g.Send) then (some false)
 else bif (g.Label != d.Label) then (some false)
 else (V7 a b c d e) (Zi (f+1)))
 else (V7 a b c d e) (Zi (f+1)))
 else Px b c
def XZ (N:Nat) (a:Yz):Nat→Int→Option Bool
 | 0,_=>none
 | b+1,c =>
 bif (decide (c < (a.Machine.Moves.length:Int))) then ((idx a.Machine.Moves c).bind fun d =>
 bif (!d.Again) then ((XZ N a b) (Zi (c+1)))
 else bif (!d.Send) then (some false)
 else (idx a.out' d.From).bind fun e =>
 bif ((e.length:Int) != 1) then (some false)
 else bif (d.From==a.Machine.Start) then (some false)
 else (idx a.Machine.Finals d.From).bind fun f =>
 bif f then (some false)
 else V7 a c (XZ N a b) d N 0)
 else Zav
def Mu (N:Nat) (a:Yz):Option Bool :=
 XZ N a N 0
def ZaC:Option Bool :=
 some true
def Xh (a:Yz) (b:Int) (c:Int→Option Bool) (d:Yj) (e:Bool):Option Bool :=
 bif e then (some false)
 else (idx a.Machine.Moves d.Else).bind fun f =>
 bif (f.From != d.State) then (some false)
 else bif (!f.Send) then (some false)
 else bif f.Again then (some false)
 else c (Zi (b+1))
def YF (a:Yz):Nat→Int→Option Bool
 | 0,_=>none
 | b+1,c =>
 bif (decide (c < (a.Machine.Timeouts.length:Int))) then ((idx a.Machine.Timeouts c).bind fun d =>
 bif (decide (c > 0)) then ((idx a.Machine.Timeouts (Zi (c-1))).bind fun e =>
 bif (decide (e.State≥d.State)) then (Xh a c (YF a b) d true)
 else bif (decide (d.Ticks < 1)) then (Xh a c (YF a b) d true)
 else bif (decide (d.Ticks > 1000)) then (Xh a c (YF a b) d true)
 else bif (decide (d.Else < 0)) then (Xh a c (YF a b) d true)
 else Xh a c (YF a b) d (decide (d.Else≥(a.Machine.Moves.length:Int))))
 else bif (decide (d.Ticks < 1)) then (Xh a c (YF a b) d true)
 else bif (decide (d.Ticks > 1000)) then (Xh a c (YF a b) d true)
 else bif (decide (d.Else < 0)) then (Xh a c (YF a b) d true)
 else Xh a c (YF a b) d (decide (d.Else≥(a.Machine.Moves.length:Int))))
 else ZaC
def Mb (N:Nat) (a:Yz):Option Bool :=
 YF a N 0
def Tt (N:Nat) (a:T8):Option ((Option Yz) × Bool) :=
 (LY N a).bind fun b =>
 bif (!b) then (some (none,false))
 else (GQ N a).bind fun c =>
 (LD N c).bind fun d =>
 bif d then ((QU N c).bind fun e =>
 bif e then ((Mu N c).bind fun f =>
 bif f then ((Mb N c).bind fun g =>
 some ((some c),g))
 else some ((some c),false))
 else some ((some c),false))
 else some ((some c),false)
def Tm (N:Nat) (a:T8):Option Bool :=
 (Tt N a).bind fun b =>
 Pq b.1 (some b.2) fun q2 =>
 some b.2
def Pj (N:Nat) (a:T9) (b:T5):Option Bool :=
 bif (decide (a.Peer≥(b.Roles.length:Int))) then (some true)
 else some (decide (a.Label≥(b.Decls.length:Int)))
def ZaR:Option Int :=
 some (-1)
def UI (N:Nat) (a:(List T9)) (b:T5):Nat→Int→Option Int
 | 0,_=>none
 | c+1,d =>
 bif (decide (d < (a.length:Int))) then ((idx a d).bind fun e =>
 (Pj N e b).bind fun f =>
 bif f then (some d)
 else (UI N a b c) (Zi (d+1)))
 else ZaR
def Hr (N:Nat) (a:(List T9)) (b:T5):Option Int :=
 UI N a b N 0
def HE (N:Nat) (a:(List T9)) (b:T5):Option Bool :=
 (Hr N a b).bind fun c =>
 some (decide (c≥0))
def Vb (N:Nat) (a:T5) (b:T8):Option Bool :=
 (Pk N a).bind fun c =>
 bif c then ((Tm N b).bind fun d =>
 bif d then (bif (decide (b.Role < (a.Roles.length:Int))) then ((HE N b.Moves a).bind fun e =>
 some (!e))
 else some false)
 else some false)
 else some false
def Dk (a:(List T4)):Option (List T4) :=
 some a
def RC (a:T5):Nat→(List T4)→Int→Option (List T4)
 | 0,_,_=>none
 | b+1,c,d =>
 bif (decide (d < (a.Decls.length:Int))) then ((idx a.Decls d).bind fun e =>
 (Z7 c e.Fields).bind fun f =>
 (RC a b) f (Zi (d+1)))
 else Dk c
def Hv (N:Nat) (a:T5):Option (List T4) :=
 RC a N ([]:List T4) 0
def z24 (N:Nat) (a:T5) (b:T8):Option ZJ :=
 (Vb N a b).bind fun c =>
 bif (!c) then (some (⟨0,([]:List Zm),([]:List Zm)⟩:ZJ))
 else (Hv N a).bind fun d =>
 (YG (⟨0,0,(str [])⟩:Zm) (d.length:Int) (d.length:Int)).bind fun e =>
 some (⟨b.Start,e,([]:List Zm)⟩:ZJ)
def My (N:Nat) (a:Zm):Option Int :=
 bif (a.Kind==1) then (some a.N)
 else bif (a.Kind==2) then (some (a.S.size:Int))
 else some 0
def Mw (a:Yb) (b:Int) (c:Int):Option Bool :=
 bif (decide (b≤a.Lo)) then (bif (decide (a.Lo≤a.Hi)) then (some (decide (a.Hi≤c)))
 else some false)
 else some false
def LW (N:Nat) (a:Yb):Option Bool :=
 bif (a.Kind==1) then (Mw a (-1000) 1000)
 else bif (a.Kind==2) then (Mw a 0 40)
 else some false
def By (N:Nat) (a:Int):Option Bool :=
 bif (decide (a < 32)) then (some true)
 else some (decide (a > 126))
def Zbs (a:Nat):Option Int :=
 some (-1)
def RM (N:Nat) (a:ByteArray) (b:Bool):Nat→Nat→Option Int
 | 0,_=>none
 | c+1,d =>
 bif decide (d < a.size) then ((By N ((Utf8.decode a d).1:Int)).bind fun e =>
 bif (e==b) then (some ((d:Nat):Int))
 else (RM N a b c) (d+(Utf8.decode a d).2))
 else Zbs d
def Zcx (N:Nat) (a:ByteArray) (b:Bool):Option Int :=
 RM N a b N (0:Nat)
def ZcA (N:Nat) (a:ByteArray):Option Int :=
 (Zcx N a true).bind fun b =>
 some b
def G9 (N:Nat) (a:ByteArray):Option Bool :=
 (ZcA N a).bind fun b =>
 some (decide (b≥0))
def ZcD (N:Nat) (a:ByteArray):Option Bool :=
 (G9 N a).bind fun b =>
 some (!b)
def Mp (N:Nat) (a:Zm):Option Bool :=
 bif (a.Kind==1) then (bif (decide (a.N≥(-1000))) then (bif (decide (a.N≤1000)) then (some (a.S.toList==(str []).toList))
 else some false)
 else some false)
 else bif (a.Kind==2) then (bif (a.N==0) then (bif (decide ((a.S.size:Int)≤40)) then ((ZcD N a.S).bind fun b =>
 some b)
 else some false)
 else some false)
 else some false
def Q6 (N:Nat) (a:Yb) (b:Zm):Option Bool :=
 (My N b).bind fun c =>
 (LW N a).bind fun d =>
 bif d then ((Mp N b).bind fun e =>
 bif e then (bif (a.Kind==b.Kind) then (bif (decide (c≥a.Lo)) then (some (decide (c≤a.Hi)))
 else some false)
 else some false)
 else some false)
 else some false
def z89 (N:Nat) (a:T4) (b:Zm):Option Bool :=
 bif ((b.Kind==0) && ((b.N==0) && ((b.S.toList==(str []).toList) && true))) then (some true)
 else (Q6 N a.Sort' b).bind fun c =>
 some c
def Bd:Option Bool :=
 some true
def SU (N:Nat) (a:(List T4)) (b:(List Zm)):Nat→Int→Option Bool
 | 0,_=>none
 | c+1,d =>
 bif (decide (d < (a.length:Int))) then ((idx a d).bind fun e =>
 (idx b d).bind fun f =>
 (z89 N e f).bind fun g =>
 bif (!g) then (some false)
 else (SU N a b c) (Zi (d+1)))
 else Bd
def Hd (N:Nat) (a:(List T4)) (b:(List Zm)):Option Bool :=
 bif ((a.length:Int) != (b.length:Int)) then (some false)
 else SU N a b N 0
def z46 (N:Nat) (a:T5) (b:T8) (c:ZJ):Option Bool :=
 (Vb N a b).bind fun d =>
 bif d then (bif (decide (c.At≥0)) then (bif (decide (c.At < b.States)) then ((Hv N a).bind fun e =>
 (Hd N e c.Known).bind fun f =>
 some f)
 else some false)
 else some false)
 else some false
def QH (N:Nat) (a:T5) (b:T8):Option Bool :=
 (z24 N a b).bind fun c =>
 (z46 N a b c).bind fun d =>
 some d
def z53 (N:Nat) (a:T8) (b:Int):Option (List Int) :=
 (Tt N a).bind fun c =>
 Pq c.1 (bif (!c.2) then (some ([]:List Int))
 else bif (decide (b < 0)) then (some ([]:List Int))
 else bif (decide (b≥a.States)) then (some ([]:List Int))
 else Q5 0) fun q2 =>
 bif (!c.2) then (some ([]:List Int))
 else bif (decide (b < 0)) then (some ([]:List Int))
 else bif (decide (b≥a.States)) then (some ([]:List Int))
 else (idx q2.out' b).bind fun d =>
 some d
def Wg (N:Nat) (a:Int):Option ByteArray:=bif (decide ((-9223372036854775808)≤a) && decide (a≤9223372036854775807)) then some (XE a) else none
def QQ (N:Nat) (a:T4) (b:ByteArray):Option ByteArray :=
 (Zv a.Name (str [58,32])).bind fun c =>
 (Zv c b).bind fun d =>
 (Zv d (str [32])).bind fun e =>
 (Wg N a.Sort'.Lo).bind fun f =>
 (Zv e f).bind fun g =>
 (Zv g (str [32,46,46,32])).bind fun h =>
 (Wg N a.Sort'.Hi).bind fun i =>
 (Zv h i).bind fun j =>
 some j
def DU (N:Nat) (a:T4):Option ByteArray :=
 bif (a.Sort'.Kind==2) then (QQ N a (str [116,101,120,116]))
 else QQ N a (str [105,110,116])
def ZbH:Option (T0 × T4 × Bool) :=
 some ((⟨(str []),([]:List T4),0,(⟨([]:List T1),([]:List (Int × Int))⟩:T6)⟩:T0),(⟨(str []),(⟨0,0,0⟩:Yb)⟩:T4),false)
def Si (a:(List T0)):Nat→Int→Int→Option (T0 × T4 × Bool)
 | 0,_,_=>none
 | b+1,c,d =>
 bif (decide (d < (a.length:Int))) then ((idx a d).bind fun e =>
 bif (decide (c≥0)) then (bif (decide (c < (e.Fields.length:Int))) then ((idx e.Fields c).bind fun f =>
 some (e,f,true))
 else (Si a b) (Zi (c-(e.Fields.length:Int))) (Zi (d+1)))
 else (Si a b) (Zi (c-(e.Fields.length:Int))) (Zi (d+1)))
 else ZbH
def Dy (N:Nat) (a:(List T0)) (b:Int):Option (T0 × T4 × Bool) :=
 Si a N b 0
def TK (N:Nat) (a:(List T0)) (b:Int):Option ByteArray :=
 (Dy N a b).bind fun c =>
 (Zv c.1.Name (str [46])).bind fun d =>
 (Zv d c.2.1.Name).bind fun e =>
 some e
def TM (N:Nat) (a:(List T0)) (b:Int):Option ByteArray :=
 (Dy N a b).bind fun c =>
 bif (c.2.1.Sort'.Kind==2) then ((TK N a b).bind fun d =>
 (Zv (str [108,101,110,40]) d).bind fun e =>
 (Zv e (str [41])).bind fun f =>
 some f)
 else (TK N a b).bind fun g =>
 some g
def Ql (N:Nat) (a:(List T0)) (b:T1) (c:Bool):Option ByteArray :=
 bif c then ((Wg N b.C).bind fun d =>
 (Zv (str [48,32,60,61,32]) d).bind fun e =>
 some e)
 else bif (decide (b.Y < 0)) then ((TM N a b.X).bind fun f =>
 (Zv f (str [32,60,61,32])).bind fun g =>
 (Wg N b.C).bind fun h =>
 (Zv g h).bind fun i =>
 some i)
 else bif (decide (b.X < 0)) then ((TM N a b.Y).bind fun j =>
 (Zv j (str [32,62,61,32])).bind fun k =>
 (Wg N (Zi (0-b.C))).bind fun l =>
 (Zv k l).bind fun m =>
 some m)
 else (TM N a b.X).bind fun o =>
 (Zv o (str [32,60,61,32])).bind fun p =>
 (TM N a b.Y).bind fun q =>
 (Zv p q).bind fun r =>
 bif (decide (b.C > 0)) then ((Zv r (str [32,43,32])).bind fun s =>
 (Wg N b.C).bind fun t =>
 (Zv s t).bind fun u =>
 some u)
 else bif (decide (b.C < 0)) then ((Zv r (str [32,45,32])).bind fun v =>
 (Wg N (Zi (0-b.C))).bind fun w =>
 (Zv v w).bind fun x =>
 some x)
 else some r
def GN (N:Nat) (a:(List T0)) (b:T1):Option ByteArray :=
 bif (decide (b.X < 0)) then (Ql N a b (decide (b.Y < 0)))
 else Ql N a b false
def z39 (N:Nat) (a:(List T0)) (b:Int) (c:Int):Option ByteArray :=
 (z37 N a b).bind fun d =>
 bif (d.2 != 0) then (some (str []))
 else bif (decide (c < 0)) then (some (str []))
 else (idx a b).bind fun e =>
 bif (decide (c < (e.Guard.Diffs.length:Int))) then ((idx e.Guard.Diffs c).bind fun f =>
 (GN N a f).bind fun g =>
 some g)
 else bif (decide ((Zi (c-(e.Guard.Diffs.length:Int))) < (e.Guard.Equals.length:Int))) then ((idx e.Guard.Equals (Zi (c-(e.Guard.Diffs.length:Int)))).bind fun h =>
 (TK N a h.1).bind fun i =>
 (Zv i (str [32,61,61,32])).bind fun j =>
 (idx e.Guard.Equals (Zi (c-(e.Guard.Diffs.length:Int)))).bind fun k =>
 (TK N a k.2).bind fun l =>
 (Zv j l).bind fun m =>
 some m)
 else some (str [])
def TW (N:Nat) (a:List ByteArray) (b:ByteArray):Option ByteArray:=bif (decide (a.length≤140737488355328) && decide ((Xr b.data.toList (a.map (·.data.toList))).length≤140737488355328)) then some ⟨(Xr b.data.toList (a.map (·.data.toList))).toArray⟩ else none
def Q1 (N:Nat) (a:T0) (b:(List ByteArray)) (c:(List ByteArray)):Option ByteArray :=
 (Zv a.Name (str [40])).bind fun d =>
 (TW N b (str [44,32])).bind fun e =>
 (Zv d e).bind fun f =>
 (Zv f (str [41])).bind fun g =>
 bif (decide ((c.length:Int) > 0)) then ((TW N c (str [32,97,110,100,32])).bind fun h =>
 (Zv (str [32,119,104,101,114,101,32]) h).bind fun i =>
 (Zv g i).bind fun j =>
 some j)
 else some g
def Qr (N:Nat) (a:(List T0)) (b:Int) (c:T0) (d:(List ByteArray)):Nat→(List ByteArray)→Int→Option ByteArray
 | 0,_,_=>none
 | e+1,f,g =>
 bif (decide (g < (Zi ((c.Guard.Diffs.length:Int)+(c.Guard.Equals.length:Int))))) then ((z39 N a b g).bind fun h =>
 (Z7 f ([h]:List ByteArray)).bind fun i =>
 (Qr N a b c d e) i (Zi (g+1)))
 else Q1 N c d f
def PO (N:Nat) (a:(List T0)) (b:Int) (c:T0) (d:(List ByteArray)):Option ByteArray :=
 Qr N a b c d N ([]:List ByteArray) 0
def RU (N:Nat) (a:(List T0)) (b:Int) (c:T0):Nat→(List ByteArray)→Int→Option ByteArray
 | 0,_,_=>none
 | d+1,e,f =>
 bif (decide (f < (c.Fields.length:Int))) then ((idx c.Fields f).bind fun g =>
 (DU N g).bind fun h =>
 (Z7 e ([h]:List ByteArray)).bind fun i =>
 (RU N a b c d) i (Zi (f+1)))
 else PO N a b c e
def M9 (N:Nat) (a:(List T0)) (b:Int):Option ByteArray :=
 (z37 N a b).bind fun c =>
 bif (c.2 != 0) then (some (str []))
 else (idx a b).bind fun d =>
 RU N a b d N ([]:List ByteArray) 0
def ZaQ (N:Nat) (a:Yj) (b:Int):Option Bool :=
 some (a.State==b)
def B6:Option Int :=
 some (-1)
def Rn (N:Nat) (a:(List Yj)) (b:Int):Nat→Int→Option Int
 | 0,_=>none
 | c+1,d =>
 bif (decide (d < (a.length:Int))) then ((idx a d).bind fun e =>
 (ZaQ N e b).bind fun f =>
 bif f then (some d)
 else (Rn N a b c) (Zi (d+1)))
 else B6
def BN (N:Nat) (a:(List Yj)) (b:Int):Option Int :=
 Rn N a b N 0
def DR (N:Nat) (a:T8) (b:Int):Option (Yj × Bool) :=
 (Tm N a).bind fun c =>
 bif (!c) then (some ((⟨0,0,0⟩:Yj),false))
 else (BN N a.Timeouts b).bind fun d =>
 bif (decide (d < 0)) then (some ((⟨0,0,0⟩:Yj),false))
 else (idx a.Timeouts d).bind fun e =>
 some (e,true)
def RX (N:Nat) (a:T5) (b:T8) (c:Int) (d:(List ByteArray)):Option (List ByteArray) :=
 (DR N b c).bind fun e =>
 bif e.2 then ((idx b.Moves e.1.Else).bind fun f =>
 (Wg N e.1.Ticks).bind fun g =>
 (Zv (str [119,105,116,104,105,110,32]) g).bind fun h =>
 (Zv h (str [32,116,105,99,107,115,44,32,111,116,104,101,114,119,105,115,101,32])).bind fun i =>
 (idx a.Decls f.Label).bind fun j =>
 (Zv i j.Name).bind fun k =>
 (Zv k (str [32,116,111,32])).bind fun l =>
 (idx a.Roles f.Peer).bind fun m =>
 (Zv l m).bind fun o =>
 (Z7 d ([o]:List ByteArray)).bind fun p =>
 (idx b.Finals c).bind fun q =>
 bif q then ((Z7 p ([(str [116,104,101,32,101,110,100])]:List ByteArray)).bind fun r =>
 some r)
 else some p)
 else (idx b.Finals c).bind fun s =>
 bif s then ((Z7 d ([(str [116,104,101,32,101,110,100])]:List ByteArray)).bind fun t =>
 some t)
 else some d
def UE (N:Nat) (a:T5) (b:T8) (c:Int) (d:(List Int)):Nat→(List ByteArray)→Int→Option (List ByteArray)
 | 0,_,_=>none
 | e+1,f,g =>
 bif (decide (g < (d.length:Int))) then ((idx d g).bind fun h =>
 (idx b.Moves h).bind fun i =>
 (idx a.Roles i.Peer).bind fun j =>
 bif i.Again then ((idx a.Decls i.Label).bind fun k =>
 (Zv (str [115,101,110,100,32]) k.Name).bind fun l =>
 (Zv l (str [32,97,103,97,105,110,32,116,111,32])).bind fun m =>
 (Zv m j).bind fun o =>
 (Z7 f ([o]:List ByteArray)).bind fun p =>
 (UE N a b c d e) p (Zi (g+1)))
 else bif i.Send then ((M9 N a.Decls i.Label).bind fun q =>
 (Zv (str [115,101,110,100,32]) q).bind fun r =>
 (Zv r (str [32,116,111,32])).bind fun s =>
 (Zv s j).bind fun t =>
 (Z7 f ([t]:List ByteArray)).bind fun u =>
 (UE N a b c d e) u (Zi (g+1)))
 else (M9 N a.Decls i.Label).bind fun v =>
 (Zv (str [114,101,99,101,105,118,101,32]) v).bind fun w =>
 (Zv w (str [32,102,114,111,109,32])).bind fun x =>
 (Zv x j).bind fun y =>
 (Z7 f ([y]:List ByteArray)).bind fun z =>
 (UE N a b c d e) z (Zi (g+1)))
 else RX N a b c f
def z31 (N:Nat) (a:T5) (b:T8) (c:Int):Option (List ByteArray) :=
 (z53 N b c).bind fun d =>
 UE N a b c d N ([]:List ByteArray) 0
def UL (N:Nat) (a:T5) (b:T8) (c:Int):Option ((List ByteArray) × Int) :=
 (QH N a b).bind fun d =>
 bif (!d) then (some (([]:List ByteArray),1))
 else bif (decide (c < 0)) then (some (([]:List ByteArray),1))
 else bif (decide (c≥b.States)) then (some (([]:List ByteArray),1))
 else (z31 N a b c).bind fun e =>
 some (e,0)
def PF (N:Nat) (a:T9) (b:ZJ) (c:T3):Option Bool :=
 bif (a.From==b.At) then (bif (a.Send==c.Send) then (bif (a.Peer==c.Peer) then (some (a.Label==c.Label))
 else some false)
 else some false)
 else some false
def BL:Option Int :=
 some (-1)
def UR (N:Nat) (a:(List T9)) (b:ZJ) (c:T3):Nat→Int→Option Int
 | 0,_=>none
 | d+1,e =>
 bif (decide (e < (a.length:Int))) then ((idx a e).bind fun f =>
 (PF N f b c).bind fun g =>
 bif g then (some e)
 else (UR N a b c d) (Zi (e+1)))
 else BL
def P8 (N:Nat) (a:(List T9)) (b:ZJ) (c:T3):Option Int :=
 UR N a b c N 0
def BT (N:Nat) (a:T4) (b:Zm):Option Bool :=
 (Q6 N a.Sort' b).bind fun c =>
 some c
def Zbq:Option Bool :=
 some true
def R8 (N:Nat) (a:(List T4)) (b:(List Zm)):Nat→Int→Option Bool
 | 0,_=>none
 | c+1,d =>
 bif (decide (d < (a.length:Int))) then ((idx a d).bind fun e =>
 (idx b d).bind fun f =>
 (BT N e f).bind fun g =>
 bif (!g) then (some false)
 else (R8 N a b c) (Zi (d+1)))
 else Zbq
def ZbL (N:Nat) (a:(List T4)) (b:(List Zm)):Option Bool :=
 bif ((a.length:Int) != (b.length:Int)) then (some false)
 else R8 N a b N 0
def MN (N:Nat) (a:(List T4)) (b:(List Zm)):Option Bool :=
 (ZbL N a b).bind fun c =>
 some c
def TS (N:Nat) (a:Zm):Option Int :=
 bif (a.Kind==2) then (some (a.S.size:Int))
 else some a.N
def BD (N:Nat) (a:Int):Option Bool :=
 bif (decide (a < 32)) then (some true)
 else some (decide (a > 126))
def BX (a:Nat):Option Int :=
 some (-1)
def Ra (N:Nat) (a:ByteArray) (b:Bool):Nat→Nat→Option Int
 | 0,_=>none
 | c+1,d =>
 bif decide (d < a.size) then ((BD N ((Utf8.decode a d).1:Int)).bind fun e =>
 bif (e==b) then (some ((d:Nat):Int))
 else (Ra N a b c) (d+(Utf8.decode a d).2))
 else BX d
def BE (N:Nat) (a:ByteArray) (b:Bool):Option Int :=
 Ra N a b N (0:Nat)
def Zbt (N:Nat) (a:ByteArray):Option Int :=
 (BE N a true).bind fun b =>
 some b
def GL (N:Nat) (a:ByteArray):Option Bool :=
 (Zbt N a).bind fun b =>
 some (decide (b≥0))
def Lh (N:Nat) (a:Yb) (b:Zm):Option Bool :=
 bif (b.Kind != a.Kind) then (some false)
 else (TS N b).bind fun c =>
 bif (decide (c < a.Lo)) then (some false)
 else (TS N b).bind fun d =>
 bif (decide (d > a.Hi)) then (some false)
 else bif (b.Kind==1) then (some (b.S.toList==(str []).toList))
 else bif (b.N==0) then ((GL N b.S).bind fun e =>
 some (!e))
 else some false
def Za6:Option Bool :=
 some true
def Tl (N:Nat) (a:(List Zm)) (b:(List T4)):Nat→Int→Option Bool
 | 0,_=>none
 | c+1,d =>
 bif (decide (d < (a.length:Int))) then ((idx a d).bind fun e =>
 bif (!((e.Kind==0) && ((e.N==0) && ((e.S.toList==(str []).toList) && true)))) then ((idx b d).bind fun f =>
 (Lh N f.Sort' e).bind fun g =>
 bif (!g) then (some false)
 else (Tl N a b c) (Zi (d+1)))
 else (Tl N a b c) (Zi (d+1)))
 else Za6
def QP (N:Nat) (a:(List T0)) (b:Int) (c:(List Zm)):Option Bool :=
 bif (decide (b < 0)) then (some false)
 else bif (decide (b≥(a.length:Int))) then (some false)
 else (Mf N a).bind fun d =>
 bif (!d) then (some false)
 else (Lw N a).bind fun e =>
 bif ((e.length:Int) != (c.length:Int)) then (some false)
 else Tl N c e N 0
def Zba:Option Bool :=
 some true
def RG (N:Nat) (a:(List T4)) (b:(List Zm)):Nat→Int→Option Bool
 | 0,_=>none
 | c+1,d =>
 bif (decide (d < (a.length:Int))) then ((idx a d).bind fun e =>
 (idx b d).bind fun f =>
 (Lh N e.Sort' f).bind fun g =>
 bif (!g) then (some false)
 else (RG N a b c) (Zi (d+1)))
 else Zba
def Qv (N:Nat) (a:(List T4)) (b:(List Zm)):Option Bool :=
 bif ((a.length:Int) != (b.length:Int)) then (some false)
 else RG N a b N 0
def z55 (N:Nat) (a:(List Zm)):Option (List Zm) :=
 (Z7 ([]:List Zm) a).bind fun b =>
 some b
def SY (N:Nat) (a:T0) (b:(List Zm)) (c:(List Zm)):Option (List Zm) :=
 (z55 N c).bind fun d =>
 (lsl d (some a.First) none).bind fun e =>
 (Wy d (some a.First) none b).bind fun f =>
 some f.1
def Zbv:Option Bool :=
 some true
def Sj (a:T6) (b:(List Zm)):Nat→Int→Option Bool
 | 0,_=>none
 | c+1,d =>
 bif (decide (d < (a.Equals.length:Int))) then ((idx a.Equals d).bind fun e =>
 (idx b e.1).bind fun f =>
 bif (f.Kind==0) then (some false)
 else (idx b e.2).bind fun g =>
 bif (g.Kind==0) then (some false)
 else (idx b e.1).bind fun h =>
 (idx b e.2).bind fun i =>
 bif (!(h.S.toList==i.S.toList)) then (some false)
 else (Sj a b c) (Zi (d+1)))
 else Zbv
def H1 (N:Nat) (a:T6) (b:(List Zm)):Option Bool :=
 Sj a b N 0
def G1 (a:Int) (b:Int→Option Bool) (c:T1) (d:Int) (e:Int):Option Bool :=
 bif (decide ((Zi (d-e)) > c.C)) then (some false)
 else b (Zi (a+1))
def VL (N:Nat) (a:(List Zm)) (b:Int) (c:Int→Option Bool) (d:T1):Nat→Int→Int→Int→Option Bool
 | 0,_,_,_=>none
 | e+1,f,g,h =>
 bif (decide (h < 2)) then ((idx ([d.X,d.Y]:List Int) h).bind fun i =>
 bif (decide (i < 0)) then ((VL N a b c d e) f g (Zi (h+1)))
 else (idx a i).bind fun j =>
 bif (j.Kind==0) then (some false)
 else (idx a i).bind fun k =>
 (TS N k).bind fun l =>
 bif (h==0) then ((VL N a b c d e) l g (Zi (h+1)))
 else bif (h==1) then ((VL N a b c d e) f l (Zi (h+1)))
 else none)
 else G1 b c d f g
def VI (N:Nat) (a:T6) (b:(List Zm)):Nat→Int→Option Bool
 | 0,_=>none
 | c+1,d =>
 bif (decide (d < (a.Diffs.length:Int))) then ((idx a.Diffs d).bind fun e =>
 VL N b d (VI N a b c) e N 0 0 0)
 else H1 N a b
def Lv (N:Nat) (a:T6) (b:(List Zm)):Option Bool :=
 VI N a b N 0
def MC (N:Nat) (a:(List T0)) (b:Int) (c:(List Zm)) (d:(List Zm)):Option Bool :=
 (QP N a b d).bind fun e =>
 bif (!e) then (some false)
 else (idx a b).bind fun f =>
 (Qv N f.Fields c).bind fun g =>
 bif (!g) then (some false)
 else (idx a b).bind fun h =>
 (SY N h c d).bind fun i =>
 (Lv N h.Guard i).bind fun j =>
 some j
def Lu (N:Nat) (a:ByteArray):Option Bool :=
 some (!(a.toList==a.toList))
def z233 (N:Nat) (a:ByteArray) (b:ByteArray):Option Int :=
 (Lu N a).bind fun c =>
 (Lu N b).bind fun d =>
 bif c then (bif d then (some 0)
 else some (-1))
 else bif d then (some 1)
 else bif (Op.bytesLess a.toList b.toList) then (some (-1))
 else bif (!((Op.bytesLess a.toList b.toList) || (a.toList==b.toList))) then (some 1)
 else some 0
def z173 (N:Nat) (a:Zm) (b:Zm):Option Int :=
 (z232 N a.Kind b.Kind).bind fun c =>
 (z232 N a.N b.N).bind fun d =>
 (z232 N (a.S.size:Int) (b.S.size:Int)).bind fun e =>
 (z233 N a.S b.S).bind fun f =>
 (Tn N ([c,d,e,f]:List Int)).bind fun g =>
 some g
def W4 (N:Nat) (a:Zm) (b:Zm):Option Bool :=
 (z173 N a b).bind fun c =>
 some (c==0)
def Zb0:Option Bool :=
 some true
def UY (N:Nat) (a:(List Zm)) (b:(List Zm)):Nat→Int→Option Bool
 | 0,_=>none
 | c+1,d =>
 bif (decide (d < (a.length:Int))) then ((idx a d).bind fun e =>
 (idx b d).bind fun f =>
 (W4 N e f).bind fun g =>
 bif (!g) then (some false)
 else (UY N a b c) (Zi (d+1)))
 else Zb0
def GZ (N:Nat) (a:(List Zm)) (b:(List Zm)):Option Bool :=
 bif ((a.length:Int) != (b.length:Int)) then (some false)
 else UY N a b N 0
def RI (N:Nat) (a:(List Zm)) (b:(List Zm)):Option Bool :=
 (GZ N a b).bind fun c =>
 some c
def TP (N:Nat) (a:(List T0)) (b:Int) (c:(List Zm)) (d:(List Zm)):Option ((List Zm) × Int) :=
 (QP N a b d).bind fun e =>
 bif (!e) then (some (([]:List Zm),1))
 else (idx a b).bind fun f =>
 (Qv N f.Fields c).bind fun g =>
 bif (!g) then (some (([]:List Zm),11))
 else (idx a b).bind fun h =>
 (SY N h c d).bind fun i =>
 some (i,0)
def TF (N:Nat) (a:T5) (b:T8) (c:ZJ) (d:T3) (e:Int) (f:Bool):Option (ZJ × Int) :=
 bif f then (some ((⟨0,([]:List Zm),([]:List Zm)⟩:ZJ),17))
 else (idx b.Moves e).bind fun g =>
 (TP N a.Decls d.Label d.Values c.Known).bind fun h =>
 bif d.Send then ((z55 N d.Values).bind fun i =>
 some ((⟨g.To,h.1,i⟩:ZJ),0))
 else some ((⟨g.To,h.1,([]:List Zm)⟩:ZJ),0)
def TB (N:Nat) (a:T5) (b:T8) (c:ZJ) (d:T3):Option (ZJ × Int) :=
 (P8 N b.Moves c d).bind fun e =>
 bif (d.Role != b.Role) then (some ((⟨0,([]:List Zm),([]:List Zm)⟩:ZJ),12))
 else bif (decide (e < 0)) then (some ((⟨0,([]:List Zm),([]:List Zm)⟩:ZJ),23))
 else (idx a.Decls d.Label).bind fun f =>
 (MN N f.Fields d.Values).bind fun g =>
 bif (!g) then (some ((⟨0,([]:List Zm),([]:List Zm)⟩:ZJ),11))
 else (MC N a.Decls d.Label d.Values c.Known).bind fun h =>
 bif (!h) then (TF N a b c d e true)
 else (idx b.Moves e).bind fun i =>
 bif i.Again then ((RI N d.Values c.Pending).bind fun j =>
 TF N a b c d e (!j))
 else TF N a b c d e false
def Zad (a:(List T3)) (b:Int) (c:(List Zm)) (d:(List Zm)):Option (ZJ × Int × Int) :=
 some ((⟨b,c,d⟩:ZJ),(a.length:Int),0)
def Rx (N:Nat) (a:T5) (b:T8) (c:(List T3)):Nat→Int→(List Zm)→(List Zm)→Int→Option (ZJ × Int × Int)
 | 0,_,_,_,_=>none
 | d+1,e,f,g,h =>
 bif (decide (h < (c.length:Int))) then ((idx c h).bind fun i =>
 (TB N a b (⟨e,f,g⟩:ZJ) i).bind fun j =>
 bif (j.2 != 0) then (some ((⟨e,f,g⟩:ZJ),h,j.2))
 else (Rx N a b c d) j.1.At j.1.Known j.1.Pending (Zi (h+1)))
 else Zad c e f g
def X6 (N:Nat) (a:T5) (b:T8) (c:(List T3)):Option (ZJ × Int × Int) :=
 (z24 N a b).bind fun d =>
 (z46 N a b d).bind fun e =>
 bif (!e) then (some ((⟨0,([]:List Zm),([]:List Zm)⟩:ZJ),0,1))
 else Rx N a b c N d.At d.Known d.Pending 0
def Mg (N:Nat) (a:(List T3)):Option (List T3) :=
 (Z7 ([]:List T3) a).bind fun b =>
 some b
def Dg (N:Nat) (a:(List T0)) (b:Int) (c:(List Zm)) (d:(List Zm)):Option (List Zm) :=
 (Z7 ([]:List Zm) d).bind fun e =>
 (idx a b).bind fun f =>
 (lsl e (some f.First) none).bind fun g =>
 (Wy e (some f.First) none c).bind fun h =>
 some h.1
def Mv (N:Nat) (a:(List Zm)) (b:Int):Option (Int × Bool) :=
 bif (decide (b < 0)) then (some (0,true))
 else (idx a b).bind fun c =>
 (My N c).bind fun d =>
 (idx a b).bind fun e =>
 some (d,(e.Kind != 0))
def BQ:Option (Int × Bool) :=
 some (0,false)
def Sz (a:T6) (b:(List Zm)):Nat→Int→Option (Int × Bool)
 | 0,_=>none
 | c+1,d =>
 bif (decide (d < (a.Equals.length:Int))) then ((idx a.Equals d).bind fun e =>
 (idx b e.1).bind fun f =>
 (idx b e.2).bind fun g =>
 bif (f.Kind==0) then (some ((Zi ((a.Diffs.length:Int)+d)),true))
 else bif (g.Kind==0) then (some ((Zi ((a.Diffs.length:Int)+d)),true))
 else bif (!(f.S.toList==g.S.toList)) then (some ((Zi ((a.Diffs.length:Int)+d)),true))
 else (Sz a b c) (Zi (d+1)))
 else BQ
def Zam (N:Nat) (a:T6) (b:(List Zm)):Option (Int × Bool) :=
 Sz a b N 0
def Qn (N:Nat) (a:T6) (b:(List Zm)):Nat→Int→Option (Int × Bool)
 | 0,_=>none
 | c+1,d =>
 bif (decide (d < (a.Diffs.length:Int))) then ((idx a.Diffs d).bind fun e =>
 (Mv N b e.X).bind fun f =>
 (Mv N b e.Y).bind fun g =>
 bif (!f.2) then (some (d,true))
 else bif (!g.2) then (some (d,true))
 else bif (decide ((Zi (f.1-g.1)) > e.C)) then (some (d,true))
 else (Qn N a b c) (Zi (d+1)))
 else Zam N a b
def Ms (N:Nat) (a:T6) (b:(List Zm)):Option (Int × Bool) :=
 Qn N a b N 0
def BC (a:(List Zm)):Option Int :=
 some (a.length:Int)
def Qq (N:Nat) (a:(List Zm)) (b:(List Zm)):Nat→Int→Option Int
 | 0,_=>none
 | c+1,d =>
 bif (decide (d < (a.length:Int))) then (bif (decide (d≥(b.length:Int))) then (some d)
 else (idx a d).bind fun e =>
 (idx b d).bind fun f =>
 (z173 N e f).bind fun g =>
 bif (g != 0) then (some d)
 else (Qq N a b c) (Zi (d+1)))
 else BC a
def Do (N:Nat) (a:(List Zm)) (b:(List Zm)):Option Int :=
 Qq N a b N 0
def Q3 (N:Nat) (a:T5) (b:ZJ) (c:T3) (d:T0):Option (Int × Int) :=
 (Dg N a.Decls c.Label c.Values b.Known).bind fun e =>
 (Ms N d.Guard e).bind fun f =>
 bif f.2 then (some (5,f.1))
 else (Do N c.Values b.Pending).bind fun g =>
 some (6,g)
def UN (N:Nat) (a:T5) (b:ZJ) (c:T3) (d:T0):Nat→Int→Option (Int × Int)
 | 0,_=>none
 | e+1,f =>
 bif (decide (f < (d.Fields.length:Int))) then ((idx d.Fields f).bind fun g =>
 (idx c.Values f).bind fun h =>
 (Q6 N g.Sort' h).bind fun i =>
 bif (!i) then (some (4,f))
 else (UN N a b c d e) (Zi (f+1)))
 else Q3 N a b c d
def Lc (N:Nat) (a:T5) (b:ZJ) (c:T3) (d:Int):Option (Int × Int) :=
 bif (d==12) then (some (1,0))
 else bif (d==23) then (some (2,0))
 else (idx a.Decls c.Label).bind fun e =>
 bif ((c.Values.length:Int) != (e.Fields.length:Int)) then (some (3,0))
 else UN N a b c e N 0
def Ly (N:Nat) (a:T5) (b:T8) (c:(List T3)) (d:ZJ × Int × Int) (e:Bool):Option (Xu × Bool × Int) :=
 bif e then (some ((⟨0,0,0,0⟩:Xu),false,d.2.2))
 else (idx c d.2.1).bind fun f =>
 (Lc N a d.1 f d.2.2).bind fun g =>
 bif (g.1==1) then (some ((⟨d.2.1,g.1,g.2,f.Role⟩:Xu),true,0))
 else bif f.Send then (some ((⟨d.2.1,g.1,g.2,b.Role⟩:Xu),true,0))
 else some ((⟨d.2.1,g.1,g.2,f.Peer⟩:Xu),true,0)
def R7 (N:Nat) (a:T5) (b:T8) (c:(List T3)):Option (Xu × Bool × Int) :=
 (X6 N a b c).bind fun d =>
 bif (d.2.2==0) then (Ly N a b c d true)
 else Ly N a b c d (d.2.2==1)
def Tx (N:Nat) (a:(List ByteArray)) (b:Int):Option ByteArray :=
 bif (decide (b < 0)) then (some (str [63]))
 else bif (decide (b≥(a.length:Int))) then (some (str [63]))
 else (idx a b).bind fun c =>
 some c
def Di (a:(List ByteArray)):Option (List ByteArray) :=
 some a
def RT (a:(List T0)):Nat→(List ByteArray)→Int→Option (List ByteArray)
 | 0,_,_=>none
 | b+1,c,d =>
 bif (decide (d < (a.length:Int))) then ((idx a d).bind fun e =>
 (Z7 c ([e.Name]:List ByteArray)).bind fun f =>
 (RT a b) f (Zi (d+1)))
 else Di c
def BG (N:Nat) (a:(List T0)):Option (List ByteArray) :=
 RT a N ([]:List ByteArray) 0
def BJ (N:Nat) (a:ByteArray):Option ByteArray :=
 some ByteArray.empty
def Dx (N:Nat) (a:Int) (b:ByteArray):Option (Unit × ByteArray) :=
 (BJ N ByteArray.empty).bind fun c =>
 (Pz c ([a]:List Int)).bind fun d =>
 some ((),d)
def ZbZ (N:Nat) (a:ByteArray):Option Unit :=
 some ()
def U7 (N:Nat) (a:Int) (b:ByteArray):Option (Unit × ByteArray) :=
 (ZbZ N b).bind fun c =>
 (Pz b ([a]:List Int)).bind fun d =>
 some ((),d)
def Zcy (N:Nat) (a:ByteArray):Option ByteArray :=
 (PM a).bind fun b =>
 (PM a).bind fun c =>
 some a
def HB (N:Nat) (a:ByteArray):Option ByteArray :=
 (U7 N 34 a).bind fun b =>
 (Zcy N b.2).bind fun c =>
 some c
def Ts (N:Nat) (a:Zm):Nat→ByteArray→Int→Option ByteArray
 | 0,_,_=>none
 | b+1,c,d =>
 bif (decide (d < (a.S.size:Int))) then ((YR a.S d).bind fun e =>
 bif (e==34) then ((U7 N 92 c).bind fun f =>
 (YR a.S d).bind fun g =>
 (U7 N g f.2).bind fun h =>
 (Ts N a b) h.2 (Zi (d+1)))
 else (YR a.S d).bind fun i =>
 bif (i==92) then ((U7 N 92 c).bind fun j =>
 (YR a.S d).bind fun k =>
 (U7 N k j.2).bind fun l =>
 (Ts N a b) l.2 (Zi (d+1)))
 else (YR a.S d).bind fun m =>
 (U7 N m c).bind fun o =>
 (Ts N a b) o.2 (Zi (d+1)))
 else HB N c
def Mt (N:Nat) (a:Zm):Option ByteArray :=
 (Mp N a).bind fun b =>
 bif (!b) then (some (str [63]))
 else bif (a.Kind==1) then ((Wg N a.N).bind fun c =>
 some c)
 else (Dx N 34 ByteArray.empty).bind fun d =>
 Ts N a N d.2 0
def Mk (N:Nat) (a:(List ByteArray)):Option ByteArray :=
 (TW N a (str [44,32])).bind fun b =>
 (Zv (str [40]) b).bind fun c =>
 (Zv c (str [41])).bind fun d =>
 some d
def Qi (N:Nat) (a:(List Zm)):Nat→(List ByteArray)→Int→Option ByteArray
 | 0,_,_=>none
 | b+1,c,d =>
 bif (decide (d < (a.length:Int))) then ((idx a d).bind fun e =>
 (Mt N e).bind fun f =>
 (Z7 c ([f]:List ByteArray)).bind fun g =>
 (Qi N a b) g (Zi (d+1)))
 else Mk N c
def HG (N:Nat) (a:(List Zm)):Option ByteArray :=
 Qi N a N ([]:List ByteArray) 0
def QM (N:Nat) (a:T5) (b:T3) (c:ByteArray) (d:ByteArray):Option ByteArray :=
 (Tx N a.Roles b.Role).bind fun e =>
 (Zv e c).bind fun f =>
 (BG N a.Decls).bind fun g =>
 (Tx N g b.Label).bind fun h =>
 (Zv f h).bind fun i =>
 (HG N b.Values).bind fun j =>
 (Zv i j).bind fun k =>
 (Zv k d).bind fun l =>
 (Tx N a.Roles b.Peer).bind fun m =>
 (Zv l m).bind fun o =>
 some o
def LN (N:Nat) (a:T5) (b:T3):Option ByteArray :=
 bif b.Send then (QM N a b (str [32,115,101,110,100,115,32]) (str [32,116,111,32]))
 else QM N a b (str [32,103,101,116,115,32]) (str [32,102,114,111,109,32])
def z50 (N:Nat) (a:T5) (b:T8) (c:Xu) (d:T3):Option ByteArray :=
 bif (c.Kind==1) then ((Tx N a.Roles b.Role).bind fun e =>
 (Zv (str [105,115,32,110,111,116,32,97,110,32,101,118,101,110,116,32,111,102,32]) e).bind fun f =>
 some f)
 else bif (c.Kind==2) then (some (str [105,115,32,110,111,116,32,112,101,114,109,105,116,116,101,100,32,104,101,114,101]))
 else bif (c.Kind==3) then ((Wg N (d.Values.length:Int)).bind fun g =>
 (Zv (str [104,97,115,32]) g).bind fun h =>
 (Zv h (str [32,118,97,108,117,101,115,32,105,110,115,116,101,97,100,32,111,102,32])).bind fun i =>
 (idx a.Decls d.Label).bind fun j =>
 (Wg N (j.Fields.length:Int)).bind fun k =>
 (Zv i k).bind fun l =>
 some l)
 else bif (c.Kind==4) then ((idx a.Decls d.Label).bind fun m =>
 (idx m.Fields c.Part).bind fun o =>
 (idx d.Values c.Part).bind fun p =>
 (Mt N p).bind fun q =>
 (Zv (str [104,97,115,32,116,104,101,32,118,97,108,117,101,32]) q).bind fun r =>
 (Zv r (str [32,102,111,114,32])).bind fun s =>
 (Zv s o.Name).bind fun t =>
 (Zv t (str [44,32,119,104,105,99,104,32,105,115,32,110,111,116,32,102,114,111,109,32])).bind fun u =>
 (Wg N o.Sort'.Lo).bind fun v =>
 (Zv u v).bind fun w =>
 (Zv w (str [32,116,111,32])).bind fun x =>
 (Wg N o.Sort'.Hi).bind fun y =>
 (Zv x y).bind fun z =>
 some z)
 else bif (c.Kind==5) then ((z39 N a.Decls d.Label c.Part).bind fun A =>
 (Zv (str [100,111,101,115,32,110,111,116,32,107,101,101,112,32,116,104,101,32,103,117,97,114,100,32]) A).bind fun B =>
 some B)
 else some (str [100,111,101,115,32,110,111,116,32,104,97,118,101,32,116,104,101,32,115,97,109,101,32,118,97,108,117,101,115,32,97,115,32,116,104,101,32,109,101,115,115,97,103,101,32,97,104,101,97,100])
def Qg (N:Nat) (a:T5) (b:T8) (c:(List T3)):Option (ByteArray × Int) :=
 (R7 N a b c).bind fun d =>
 bif (d.2.2 != 0) then (some ((str []),d.2.2))
 else bif (!d.2.1) then (some ((str []),d.2.2))
 else (idx c d.1.At).bind fun e =>
 (LN N a e).bind fun f =>
 (Zv f (str [32])).bind fun g =>
 (z50 N a b d.1 e).bind fun h =>
 (Zv g h).bind fun i =>
 some (i,0)
def UA (N:Nat) (a:T5) (b:T8) (c:(List T3)) (d:T3):Option (ByteArray × Int) :=
 (X6 N a b c).bind fun e =>
 bif (e.2.2==1) then (some ((str []),1))
 else bif (e.2.2 != 0) then (some ((str []),7))
 else (Mg N c).bind fun f =>
 (Z7 f ([d]:List T3)).bind fun g =>
 (Qg N a b g).bind fun h =>
 bif (h.2 != 0) then (some ((str []),h.2))
 else bif (h.1.toList==(str []).toList) then (some ((str []),h.2))
 else (z31 N a b e.1.At).bind fun i =>
 (TW N i (str [59,32])).bind fun j =>
 bif (j.toList==(str []).toList) then ((Zv h.1 (str [59,32,112,101,114,109,105,116,116,101,100,58,32])).bind fun k =>
 (Zv k (str [110,111,116,104,105,110,103])).bind fun l =>
 some (l,0))
 else (Zv h.1 (str [59,32,112,101,114,109,105,116,116,101,100,58,32])).bind fun m =>
 (Zv m j).bind fun o =>
 some (o,0)
def ZbP (N:Nat) (a:Int) (b:Int):Option Int :=
 bif (a==b) then (some 0)
 else bif (a==0) then (some 10000)
 else bif (b==0) then (some 10000)
 else some 20000
def BP (a:Int) (b:(List Int)):Option ZY :=
 some (⟨a,b⟩:ZY)
def BW (a:Int) (b:(List Int)→Int→Option ZY) (c:(List Int)):Option ZY :=
 b c (Zi (a+1))
def Dc (N:Nat) (a:Int) (b:Int) (c:(List Int)→Int→Option ZY):Nat→(List Int)→Int→Option ZY
 | 0,_,_=>none
 | d+1,e,f =>
 bif (decide (f < (Zi (a+1)))) then ((ZbP N b f).bind fun g =>
 (idx e (Zi ((Zi (b * (Zi (a+1))))+f))).bind fun h =>
 (Dc N a b c d) (ZW e (Zi ((Zi (b * (Zi (a+1))))+f)) g) (Zi (f+1)))
 else BW b c e
def Sd (N:Nat) (a:Int):Nat→(List Int)→Int→Option ZY
 | 0,_,_=>none
 | b+1,c,d =>
 bif (decide (d < (Zi (a+1)))) then (Dc N a d (Sd N a b) N c 0)
 else BP a c
def Zdw (N:Nat) (a:Int):Option ZY :=
 (YG 0 (Zi ((Zi (a+1)) * (Zi (a+1)))) (Zi ((Zi (a+1)) * (Zi (a+1))))).bind fun b =>
 Sd N a N b 0
def z109 (N:Nat) (a:Int):Option (ZY × Int) :=
 bif (decide (a < 0)) then (some ((⟨0,([]:List Int)⟩:ZY),2))
 else bif (decide (a > 24)) then (some ((⟨0,([]:List Int)⟩:ZY),2))
 else (Zdw N a).bind fun b =>
 some (b,0)
def ZbG (a:Int):Option Int :=
 some a
def HC (a:(List Int)):Nat→Int→Int→Option Int
 | 0,_,_=>none
 | b+1,c,d =>
 bif (decide (d < (a.length:Int))) then ((idx a d).bind fun e =>
 (HC a b) (YI c e) (Zi (d+1)))
 else ZbG c
def Zc1 (N:Nat) (a:(List Int)):Option Int :=
 bif (decide ((a.length:Int) < 1)) then (Q5 0)
 else (idx a 0).bind fun b =>
 HC a N b 1
def Zah (a:Int):Option Int :=
 some a
def DM (a:(List Int)):Nat→Int→Int→Option Int
 | 0,_,_=>none
 | b+1,c,d =>
 bif (decide (d < (a.length:Int))) then ((idx a d).bind fun e =>
 (DM a b) (Wk c e) (Zi (d+1)))
 else Zah c
def ZdH (N:Nat) (a:(List Int)):Option Int :=
 bif (decide ((a.length:Int) < 1)) then (Q5 0)
 else (idx a 0).bind fun b =>
 DM a N b 1
def Zbn (N:Nat) (a:ZY):Option Bool :=
 bif (decide (a.N≥0)) then (bif (decide (a.N≤24)) then (bif ((a.B.length:Int)==(Zi ((Zi (a.N+1)) * (Zi (a.N+1))))) then ((Zc1 N a.B).bind fun b =>
 bif (decide (b≥(-20001))) then ((ZdH N a.B).bind fun c =>
 some (decide (c≤20000)))
 else some false)
 else some false)
 else some false)
 else some false
def Zbj (N:Nat) (a:ZY) (b:Int):Option Bool :=
 bif (decide (b≥(-1))) then (some (decide (b < a.N)))
 else some false
def Za4 (N:Nat) (a:(List Int)):Option (List Int) :=
 (Z7 ([]:List Int) a).bind fun b =>
 some b
def Zdn (N:Nat) (a:ZY) (b:T1):Option (ZY × Int) :=
 (Zbn N a).bind fun c =>
 bif (!c) then (some ((⟨0,([]:List Int)⟩:ZY),1))
 else (Zbj N a b.X).bind fun d =>
 bif (!d) then (some ((⟨0,([]:List Int)⟩:ZY),2))
 else (Zbj N a b.Y).bind fun e =>
 bif (!e) then (some ((⟨0,([]:List Int)⟩:ZY),2))
 else (Za4 N a.B).bind fun f =>
 (idx f (Zi ((Zi ((Zi ((Zi (b.X+1)) * (Zi (a.N+1))))+b.Y))+1))).bind fun g =>
 (idx f (Zi ((Zi ((Zi ((Zi (b.X+1)) * (Zi (a.N+1))))+b.Y))+1))).bind fun h =>
 some ((⟨a.N,(ZW f (Zi ((Zi ((Zi ((Zi (b.X+1)) * (Zi (a.N+1))))+b.Y))+1)) (YI g (Wk b.C (-20001))))⟩:ZY),0)
def Zbo (a:ZY) (b:(List Int)):Option (ZY × Bool) :=
 some ((⟨a.N,b⟩:ZY),true)
def Zce (a:Int) (b:(List Int)→Int→Option (ZY × Bool)) (c:(List Int)):Option (ZY × Bool) :=
 b c (Zi (a+1))
def DP (a:ZY) (b:Int) (c:(List Int)→Int→Option (ZY × Bool)) (d:(List Int)):Nat→Int→Option (ZY × Bool)
 | 0,_=>none
 | e+1,f =>
 bif (decide (f < (Zi (a.N+1)))) then ((idx d (Zi ((Zi (f * (Zi (a.N+1))))+f))).bind fun g =>
 bif (decide (g < 0)) then (some ((⟨0,([]:List Int)⟩:ZY),false))
 else (DP a b c d e) (Zi (f+1)))
 else Zce b c d
def Zb8 (N:Nat) (a:ZY) (b:Int) (c:(List Int)→Int→Option (ZY × Bool)) (d:(List Int)):Option (ZY × Bool) :=
 DP a b c d N 0
def Zcb (a:Int) (b:(List Int)→Int→Option (ZY × Bool)) (c:(List Int)):Option (ZY × Bool) :=
 b c (Zi (a+1))
def DV (a:ZY) (b:Int) (c:Int) (d:(List Int)→Int→Option (ZY × Bool)):Nat→(List Int)→Int→Option (ZY × Bool)
 | 0,_,_=>none
 | e+1,f,g =>
 bif (decide (g < (Zi (a.N+1)))) then ((idx f (Zi ((Zi (c * (Zi (a.N+1))))+g))).bind fun h =>
 (idx f (Zi ((Zi (c * (Zi (a.N+1))))+b))).bind fun i =>
 (idx f (Zi ((Zi (b * (Zi (a.N+1))))+g))).bind fun j =>
 (idx f (Zi ((Zi (c * (Zi (a.N+1))))+g))).bind fun k =>
 (DV a b c d e) (ZW f (Zi ((Zi (c * (Zi (a.N+1))))+g)) (YI h (Zi (i+j)))) (Zi (g+1)))
 else Zcb c d f
def TY (N:Nat) (a:ZY) (b:Int) (c:(List Int)→Int→Option (ZY × Bool)):Nat→(List Int)→Int→Option (ZY × Bool)
 | 0,_,_=>none
 | d+1,e,f =>
 bif (decide (f < (Zi (a.N+1)))) then (DV a b f (TY N a b c d) N e 0)
 else Zb8 N a b c e
def WB (N:Nat) (a:ZY):Nat→(List Int)→Int→Option (ZY × Bool)
 | 0,_,_=>none
 | b+1,c,d =>
 bif (decide (d < (Zi (a.N+1)))) then (TY N a d (WB N a b) N c 0)
 else Zbo a c
def Zcg (N:Nat) (a:ZY) (b:(List Int)):Option (ZY × Bool) :=
 WB N a N b 0
def Bv (a:Int) (b:(List Int)→Int→Option (ZY × Bool)) (c:(List Int)):Option (ZY × Bool) :=
 b c (Zi (a+1))
def Gs (N:Nat) (a:ZY) (b:Int) (c:(List Int)→Int→Option (ZY × Bool)):Nat→(List Int)→Int→Option (ZY × Bool)
 | 0,_,_=>none
 | d+1,e,f =>
 bif (decide (f < (Zi (a.N+1)))) then ((idx e (Zi ((Zi (b * (Zi (a.N+1))))+f))).bind fun g =>
 (ZbP N b f).bind fun h =>
 (idx e (Zi ((Zi (b * (Zi (a.N+1))))+f))).bind fun i =>
 (Gs N a b c d) (ZW e (Zi ((Zi (b * (Zi (a.N+1))))+f)) (YI g h)) (Zi (f+1)))
 else Bv b c e
def Sf (N:Nat) (a:ZY):Nat→(List Int)→Int→Option (ZY × Bool)
 | 0,_,_=>none
 | b+1,c,d =>
 bif (decide (d < (Zi (a.N+1)))) then (Gs N a d (Sf N a b) N c 0)
 else Zcg N a c
def Ze1 (N:Nat) (a:ZY):Option (ZY × Bool) :=
 (Zbn N a).bind fun b =>
 bif (!b) then (some ((⟨0,([]:List Int)⟩:ZY),false))
 else (Za4 N a.B).bind fun c =>
 Sf N a N c 0
def B8 (N:Nat) (a:ZY) (b:Int) (c:Int):Option Int :=
 (idx a.B (Zi ((Zi (b * (Zi (a.N+1))))+c))).bind fun d =>
 some d
def ZaN (a:(List Int)):Option ((List Int) × Bool) :=
 some (a,true)
def Za7 (a:(List Int)) (b:Int) (c:(List Int)→Int→Option ((List Int) × Bool)) (d:Int):Option ((List Int) × Bool) :=
 (Z7 a ([d]:List Int)).bind fun e =>
 c e (Zi (b+1))
def L4 (N:Nat) (a:ZY × Bool) (b:(List Int)) (c:Int) (d:(List Int)→Int→Option ((List Int) × Bool)):Nat→Int→Int→Option ((List Int) × Bool)
 | 0,_,_=>none
 | e+1,f,g =>
 bif (decide (g < (b.length:Int))) then ((idx b g).bind fun h =>
 (B8 N a.1 (Zi (g+1)) (Zi (c+1))).bind fun i =>
 (L4 N a b c d e) (Wk f (Zi (h-i))) (Zi (g+1)))
 else Za7 b c d f
def Sr (N:Nat) (a:ZY) (b:ZY × Bool):Nat→(List Int)→Int→Option ((List Int) × Bool)
 | 0,_,_=>none
 | c+1,d,e =>
 bif (decide (e < a.N)) then ((B8 N b.1 0 (Zi (e+1))).bind fun f =>
 L4 N b d e (Sr N a b c) N (Zi (0-f)) 0)
 else ZaN d
def ZeY (N:Nat) (a:ZY):Option ((List Int) × Bool) :=
 (Ze1 N a).bind fun b =>
 bif (!b.2) then (some (([]:List Int),false))
 else Sr N a b N ([]:List Int) 0
def ZbF (l:List UInt8):Nat→List UInt8
 | 0=>[]
 | n+1=>l++ZbF l n
def ZcH (N:Nat) (a:ByteArray) (b:Int):Option ByteArray :=
 bif (decide (0≤b) && decide (b≤140737488355328)) && decide (a.size * b.toNat≤140737488355328) then some ⟨(ZbF a.data.toList b.toNat).toArray⟩ else none
def ZbW (a:(List Zm)):Option (List Zm) :=
 some a
def B2 (a:(List Zm)→(List Bool)→Bool→Option (List Zm)) (b:(List Zm)) (c:(List Bool)) (d:Bool):Option (List Zm) :=
 a b c d
def Zb1 (a:Int) (b:(List Zm)→(List Bool)→Bool→Int→Option (List Zm)) (c:(List Zm)) (d:(List Bool)) (e:Bool):Option (List Zm) :=
 b c d e (Zi (a+1))
def G5 (a:(List Zm)) (b:(List Bool)) (c:Bool) (d:Int) (e:(List Zm)→(List Bool)→Bool→Int→Option (List Zm)) (f:Int) (g:Int):Option (List Zm) :=
 (idx b g).bind fun h =>
 bif h then ((idx b f).bind fun i =>
 bif (!i) then ((idx a g).bind fun j =>
 (idx a f).bind fun k =>
 (idx b f).bind fun l =>
 e (ZW a f (⟨k.Kind,k.N,j.S⟩:Zm)) (ZW b f true) true (Zi (d+1)))
 else e a b c (Zi (d+1)))
 else e a b c (Zi (d+1))
def Ru (a:Int) (b:(List Zm)→(List Bool)→Bool→Int→Option (List Zm)) (c:(Int × Int)):Nat→(List Zm)→(List Bool)→Bool→Int→Option (List Zm)
 | 0,_,_,_,_=>none
 | d+1,e,f,g,h =>
 bif (decide (h < 2)) then ((idx ([c.1,c.2]:List Int) h).bind fun i =>
 bif ((Zi (1-h))==0) then (G5 e f g h (Ru a b c d) i c.1)
 else bif ((Zi (1-h))==1) then (G5 e f g h (Ru a b c d) i c.2)
 else none)
 else Zb1 a b e f g
def US (N:Nat) (a:T0) (b:(List Zm)→(List Bool)→Bool→Option (List Zm)):Nat→(List Zm)→(List Bool)→Bool→Int→Option (List Zm)
 | 0,_,_,_,_=>none
 | c+1,d,e,f,g =>
 bif (decide (g < (a.Guard.Equals.length:Int))) then ((idx a.Guard.Equals g).bind fun h =>
 Ru g (US N a b c) h N d e f 0)
 else B2 b d e f
def WY (N:Nat) (a:T0):Nat→(List Zm)→(List Bool)→Bool→Option (List Zm)
 | 0,_,_,_=>none
 | b+1,c,d,e =>
 bif e then (US N a (WY N a b) N c d false 0)
 else ZbW c
def B4 (N:Nat) (a:T0) (b:(List Zm)) (c:(List Bool)):Option (List Zm) :=
 WY N a N b c true
def Q7 (N:Nat) (a:T0) (b:(List Zm)):Nat→(List Bool)→Int→Option (List Zm)
 | 0,_,_=>none
 | c+1,d,e =>
 bif (decide (e < (b.length:Int))) then (bif (decide (e < a.First)) then ((idx b e).bind fun f =>
 (idx d e).bind fun g =>
 (Q7 N a b c) (ZW d e (f.Kind != 0)) (Zi (e+1)))
 else bif (decide (e≥(Zi (a.First+(a.Fields.length:Int))))) then ((idx b e).bind fun h =>
 (idx d e).bind fun i =>
 (Q7 N a b c) (ZW d e (h.Kind != 0)) (Zi (e+1)))
 else (idx d e).bind fun j =>
 (Q7 N a b c) (ZW d e false) (Zi (e+1)))
 else B4 N a b d
def Zeo (N:Nat) (a:T0) (b:(List Zm)):Option (List Zm) :=
 (YG false (b.length:Int) (b.length:Int)).bind fun c =>
 Q7 N a b N c 0
def B7 (N:Nat) (a:(List Zm)) (b:T0) (c:(List Zm)):Option ((List Zm) × Bool) :=
 (SY N b c a).bind fun d =>
 (Zeo N b d).bind fun e =>
 (lsl e (some b.First) (some (Zi (b.First+(b.Fields.length:Int))))).bind fun f =>
 (Wy c none none f).bind fun g =>
 (Lv N b.Guard e).bind fun h =>
 bif (!h) then (some (([]:List Zm),false))
 else (Qv N b.Fields g.1).bind fun i =>
 bif (!i) then (some (([]:List Zm),false))
 else some (g.1,true)
def Lm (N:Nat) (a:(List Zm)) (b:T0) (c:(List Int) × Bool):Nat→(List Zm)→Int→Option ((List Zm) × Bool)
 | 0,_,_=>none
 | d+1,e,f =>
 bif (decide (f < (b.Fields.length:Int))) then ((idx b.Fields f).bind fun g =>
 (idx c.1 f).bind fun h =>
 (idx e f).bind fun i =>
 bif (g.Sort'.Kind==2) then ((idx c.1 f).bind fun j =>
 (ZcH N (str [97]) j).bind fun k =>
 (idx (ZW e f (⟨g.Sort'.Kind,h,(str [])⟩:Zm)) f).bind fun l =>
 (Lm N a b c d) (ZW (ZW e f (⟨g.Sort'.Kind,h,(str [])⟩:Zm)) f (⟨2,0,k⟩:Zm)) (Zi (f+1)))
 else (Lm N a b c d) (ZW e f (⟨g.Sort'.Kind,h,(str [])⟩:Zm)) (Zi (f+1)))
 else B7 N a b e
def ZaF (N:Nat) (a:(List Zm)) (b:T0) (c:Int) (d:(List Int)):Option ((List Zm) × Bool) :=
 (ZeY N (⟨c,d⟩:ZY)).bind fun e =>
 bif (!e.2) then (some (([]:List Zm),false))
 else (YG (⟨0,0,(str [])⟩:Zm) (b.Fields.length:Int) (b.Fields.length:Int)).bind fun f =>
 Lm N a b e N f 0
def Zbc (N:Nat) (a:Int) (b:(List Int)) (c:Int) (d:Int→(List Int)→Int→Option ((List Zm) × Bool)) (e:Int) (f:Int) (g:Int):Option ((List Zm) × Bool) :=
 (Zdn N (⟨a,b⟩:ZY) (⟨f,g,e⟩:T1)).bind fun h =>
 d h.1.N h.1.B (Zi (c+1))
def LH (N:Nat) (a:(List Zm)) (b:T0) (c:Int) (d:Int) (e:Int) (f:Int) (g:Int→Int→Int→Int→Option ((List Zm) × Bool)) (h:Int) (i:Bool):Option ((List Zm) × Bool) :=
 bif i then (bif (f==0) then (g c (Zi (h-b.First)) e (Zi (f+1)))
 else bif (f==1) then (g c d (Zi (h-b.First)) (Zi (f+1)))
 else none)
 else (idx a h).bind fun j =>
 bif (j.Kind==0) then (some (([]:List Zm),false))
 else bif (f==0) then ((idx a h).bind fun k =>
 (TS N k).bind fun l =>
 g (Zi (c-l)) d e (Zi (f+1)))
 else (idx a h).bind fun m =>
 (TS N m).bind fun o =>
 g (Zi (c+o)) d e (Zi (f+1))
def So (N:Nat) (a:(List Zm)) (b:T0) (c:Int) (d:(List Int)) (e:Int) (f:Int→(List Int)→Int→Option ((List Zm) × Bool)) (g:T1):Nat→Int→Int→Int→Int→Option ((List Zm) × Bool)
 | 0,_,_,_,_=>none
 | h+1,i,j,k,l =>
 bif (decide (l < 2)) then ((idx ([g.X,g.Y]:List Int) l).bind fun m =>
 bif (decide (m < 0)) then ((So N a b c d e f g h) i j k (Zi (l+1)))
 else bif (decide (m≥b.First)) then (LH N a b i j k l (So N a b c d e f g h) m (decide (m < (Zi (b.First+(b.Fields.length:Int))))))
 else LH N a b i j k l (So N a b c d e f g h) m false)
 else Zbc N c d e f i j k
def UV (N:Nat) (a:(List Zm)) (b:T0) (c:(List T1)):Nat→Int→(List Int)→Int→Option ((List Zm) × Bool)
 | 0,_,_,_=>none
 | d+1,e,f,g =>
 bif (decide (g < (c.length:Int))) then ((idx c g).bind fun h =>
 So N a b e f g (UV N a b c d) h N h.C (-1) (-1) 0)
 else ZaF N a b e f
def z54 (N:Nat) (a:(List T0)) (b:Int) (c:(List Zm)):Option ((List Zm) × Bool) :=
 (QP N a b c).bind fun d =>
 bif (!d) then (some (([]:List Zm),false))
 else (idx a b).bind fun e =>
 (z109 N (e.Fields.length:Int)).bind fun f =>
 (z72 N e).bind fun g =>
 UV N c e g N f.1.N f.1.B 0
def D6 (a:(List T3)):Option (List T3) :=
 some a
def LO (a:T8) (b:(List T3)) (c:Int) (d:(List T3)→Int→Option (List T3)) (e:T9) (f:(List Zm)) (g:Bool):Option (List T3) :=
 bif g then ((Z7 b ([(⟨a.Role,e.Send,e.Peer,e.Label,f⟩:T3)]:List T3)).bind fun h =>
 d h (Zi (c+1)))
 else d b (Zi (c+1))
def SN (N:Nat) (a:T5) (b:T8) (c:ZJ) (d:(List Int)):Nat→(List T3)→Int→Option (List T3)
 | 0,_,_=>none
 | e+1,f,g =>
 bif (decide (g < (d.length:Int))) then ((idx d g).bind fun h =>
 (idx b.Moves h).bind fun i =>
 (z54 N a.Decls i.Label c.Known).bind fun j =>
 bif i.Again then ((z55 N c.Pending).bind fun k =>
 (MC N a.Decls i.Label c.Pending c.Known).bind fun l =>
 LO b f g (SN N a b c d e) i k l)
 else LO b f g (SN N a b c d e) i j.1 j.2)
 else D6 f
def z20 (N:Nat) (a:T5) (b:T8) (c:ZJ):Option (List T3) :=
 (z46 N a b c).bind fun d =>
 bif (!d) then (some ([]:List T3))
 else (z53 N b c.At).bind fun e =>
 SN N a b c e N ([]:List T3) 0
def Zb4:Option Bool :=
 some true
def HT (a:(List ByteArray)) (b:(List ByteArray)):Nat→Int→Option Bool
 | 0,_=>none
 | c+1,d =>
 bif (decide (d < (a.length:Int))) then ((idx a d).bind fun e =>
 (idx b d).bind fun f =>
 bif (!(e.toList==f.toList)) then (some false)
 else (HT a b c) (Zi (d+1)))
 else Zb4
def z12 (N:Nat) (a:(List ByteArray)) (b:(List ByteArray)):Option Bool :=
 bif ((a.length:Int) != (b.length:Int)) then (some false)
 else HT a b N 0
def z26 (N:Nat) (a:Int):Option Zm :=
 some (⟨1,a,(str [])⟩:Zm)
def ZcC:Option Bool :=
 some true
def RR (a:(List Zm)) (b:(List Zm)):Nat→Int→Option Bool
 | 0,_=>none
 | c+1,d =>
 bif (decide (d < (a.length:Int))) then ((idx a d).bind fun e =>
 (idx b d).bind fun f =>
 bif (!((e.Kind==f.Kind) && ((e.N==f.N) && ((e.S.toList==f.S.toList) && true)))) then (some false)
 else (RR a b c) (Zi (d+1)))
 else ZcC
def z25 (N:Nat) (a:(List Zm)) (b:(List Zm)):Option Bool :=
 bif ((a.length:Int) != (b.length:Int)) then (some false)
 else RR a b N 0
def z8 (N:Nat):Option Bool :=
 (UL N (⟨(str [80]),([(str [97]),(str [98])]:List ByteArray),([(⟨(str [97,115,107]),([(⟨(str [110]),(⟨1,0,9⟩:Yb)⟩:T4)]:List T4),0,(⟨([]:List T1),([]:List (Int × Int))⟩:T6)⟩:T0)]:List T0),2,0,1,([(⟨0,(⟨0,1,0⟩:T7),1,false⟩:T2)]:List T2),([]:List Yj)⟩:T5) (⟨0,2,0,([false,true]:List Bool),([(⟨0,true,1,0,1,false⟩:T9)]:List T9),([]:List Yj)⟩:T8) 0).bind fun a =>
 (UA N (⟨(str [80]),([(str [97]),(str [98])]:List ByteArray),([(⟨(str [97,115,107]),([(⟨(str [110]),(⟨1,0,9⟩:Yb)⟩:T4)]:List T4),0,(⟨([]:List T1),([]:List (Int × Int))⟩:T6)⟩:T0)]:List T0),2,0,1,([(⟨0,(⟨0,1,0⟩:T7),1,false⟩:T2)]:List T2),([]:List Yj)⟩:T5) (⟨0,2,0,([false,true]:List Bool),([(⟨0,true,1,0,1,false⟩:T9)]:List T9),([]:List Yj)⟩:T8) ([]:List T3) (⟨0,true,1,0,([]:List Zm)⟩:T3)).bind fun b =>
 (z24 N (⟨(str [80]),([(str [97]),(str [98])]:List ByteArray),([(⟨(str [97,115,107]),([(⟨(str [110]),(⟨1,0,9⟩:Yb)⟩:T4)]:List T4),0,(⟨([]:List T1),([]:List (Int × Int))⟩:T6)⟩:T0)]:List T0),2,0,1,([(⟨0,(⟨0,1,0⟩:T7),1,false⟩:T2)]:List T2),([]:List Yj)⟩:T5) (⟨0,2,0,([false,true]:List Bool),([(⟨0,true,1,0,1,false⟩:T9)]:List T9),([]:List Yj)⟩:T8)).bind fun c =>
 (z20 N (⟨(str [80]),([(str [97]),(str [98])]:List ByteArray),([(⟨(str [97,115,107]),([(⟨(str [110]),(⟨1,0,9⟩:Yb)⟩:T4)]:List T4),0,(⟨([]:List T1),([]:List (Int × Int))⟩:T6)⟩:T0)]:List T0),2,0,1,([(⟨0,(⟨0,1,0⟩:T7),1,false⟩:T2)]:List T2),([]:List Yj)⟩:T5) (⟨0,2,0,([false,true]:List Bool),([(⟨0,true,1,0,1,false⟩:T9)]:List T9),([]:List Yj)⟩:T8) c).bind fun d =>
 bif (a.2==0) then (bif (b.2==0) then ((z12 N a.1 ([(str [115,101,110,100,32,97,115,107,40,110,58,32,105,110,116,32,48,32,46,46,32,57,41,32,116,111,32,98])]:List ByteArray)).bind fun e =>
 bif e then (bif (b.1.toList==(str [97,32,115,101,110,100,115,32,97,115,107,40,41,32,116,111,32,98,32,104,97,115,32,48,32,118,97,108,117,101,115,32,105,110,115,116,101,97,100,32,111,102,32,49,59,32,112,101,114,109,105,116,116,101,100,58,32,115,101,110,100,32,97,115,107,40,110,58,32,105,110,116,32,48,32,46,46,32,57,41,32,116,111,32,98]).toList) then (bif ((d.length:Int)==1) then ((idx d 0).bind fun f =>
 (z26 N 0).bind fun g =>
 (z25 N f.Values ([g]:List Zm)).bind fun h =>
 some h)
 else some false)
 else some false)
 else some false)
 else some false)
 else some false
def Gd (a:(List T0)) (b:Int):Option Bool :=
 bif (decide ((a.length:Int)≤60)) then (some (decide (b≤100)))
 else some false
def S1 (a:(List T0)):Nat→Int→Int→Option Bool
 | 0,_,_=>none
 | b+1,c,d =>
 bif (decide (d < (a.length:Int))) then ((idx a d).bind fun e =>
 (idx a d).bind fun f =>
 (idx a d).bind fun g =>
 (S1 a b) (Zi (c+(Zi ((Zi ((e.Fields.length:Int)+(f.Guard.Diffs.length:Int)))+(g.Guard.Equals.length:Int))))) (Zi (d+1)))
 else Gd a c
def Br (N:Nat) (a:(List T0)):Option Bool :=
 S1 a N 0 0
def z27 (N:Nat) (a:T5):Option Bool :=
 bif (decide (a.States≤40)) then (bif (decide ((a.Edges.length:Int)≤80)) then (bif (decide ((a.Timeouts.length:Int)≤40)) then (bif (decide ((a.Roles.length:Int)≤10)) then ((Br N a.Decls).bind fun b =>
 some b)
 else some false)
 else some false)
 else some false)
 else some false
def z28 (N:Nat) (a:T8):Option Bool :=
 bif (decide (a.States≤40)) then (bif (decide ((a.Finals.length:Int)≤45)) then (bif (decide ((a.Moves.length:Int)≤80)) then (some (decide ((a.Timeouts.length:Int)≤45)))
 else some false)
 else some false)
 else some false
def ZaI (a:(List Zm)):Option Bool :=
 some (decide ((a.length:Int)≤40))
def Rw (a:(List Zm)):Nat→Int→Option Bool
 | 0,_=>none
 | b+1,c =>
 bif (decide (c < (a.length:Int))) then ((idx a c).bind fun d =>
 bif (decide ((d.S.size:Int) > 100)) then (some false)
 else (Rw a b) (Zi (c+1)))
 else ZaI a
def z63 (N:Nat) (a:(List Zm)):Option Bool :=
 Rw a N 0
def Bh (a:(List T3)):Option Bool :=
 some (decide ((a.length:Int)≤30))
def S8 (N:Nat) (a:(List T3)):Nat→Int→Option Bool
 | 0,_=>none
 | b+1,c =>
 bif (decide (c < (a.length:Int))) then ((idx a c).bind fun d =>
 (z63 N d.Values).bind fun e =>
 bif (!e) then (some false)
 else (S8 N a b) (Zi (c+1)))
 else Bh a
def z29 (N:Nat) (a:(List T3)):Option Bool :=
 S8 N a N 0
def z9 (N:Nat) (a:T5) (b:T8) (c:(List T3)):Option Bool :=
 (z27 N a).bind fun d =>
 bif d then ((z28 N b).bind fun e =>
 bif e then ((z29 N c).bind fun f =>
 some f)
 else some false)
 else some false
def LJ (N:Nat) (a:Int):Option Bool :=
 bif (decide (a≥97)) then (bif (decide (a≤122)) then (some true)
 else bif (decide (a≥65)) then (some (decide (a≤90)))
 else some false)
 else bif (decide (a≥65)) then (some (decide (a≤90)))
 else some false
def Zdh (N:Nat) (a:Int):Option Bool :=
 bif (decide (a≥48)) then (some (decide (a≤57)))
 else some false
def Zda (N:Nat) (a:Int):Option Bool :=
 (LJ N a).bind fun b =>
 bif b then (some true)
 else (Zdh N a).bind fun c =>
 bif c then (some true)
 else some (a==95)
def Zcz:Option Bool :=
 some true
def Qz (N:Nat) (a:ByteArray):Nat→Int→Option Bool
 | 0,_=>none
 | b+1,c =>
 bif (decide (c < (a.size:Int))) then ((YR a c).bind fun d =>
 (Zda N d).bind fun e =>
 bif (!e) then (some false)
 else (Qz N a b) (Zi (c+1)))
 else Zcz
def Gm (N:Nat) (a:ByteArray):Option Bool :=
 bif (a.toList==(str []).toList) then (some false)
 else (YR a 0).bind fun b =>
 (LJ N b).bind fun c =>
 bif (!c) then (some false)
 else bif (decide ((a.size:Int) > 16)) then (some false)
 else Qz N a N 0
def Zb5 (N:Nat):Option (List ByteArray) :=
 some ([(str [97,103,97,105,110]),(str [97,110,100]),(str [97,115]),(str [97,116]),(str [99,97,108,108]),(str [99,104,111,105,99,101]),(str [101,108,115,101]),(str [102,114,111,109]),(str [105,102]),(str [105,110,116]),(str [108,101,110]),(str [108,111,111,112]),(str [109,101,115,115,97,103,101]),(str [111,102]),(str [111,102,102,101,114]),(str [111,110]),(str [111,114]),(str [112,97,114]),(str [112,108,97,121,115]),(str [112,114,111,116,111,99,111,108]),(str [115,101,114,118,105,99,101]),(str [116,101,120,116]),(str [116,105,109,101,115]),(str [116,111]),(str [118,97,114]),(str [119,104,101,114,101]),(str [119,104,105,108,101]),(str [119,105,116,104,105,110])]:List ByteArray)
def Hf:Option Bool :=
 some false
def Rv (a:(List ByteArray)) (b:ByteArray):Nat→Int→Option Bool
 | 0,_=>none
 | c+1,d =>
 bif (decide (d < (a.length:Int))) then ((idx a d).bind fun e =>
 bif (e.toList==b.toList) then (some true)
 else (Rv a b c) (Zi (d+1)))
 else Hf
def H2 (N:Nat) (a:(List ByteArray)) (b:ByteArray):Option Bool :=
 Rv a b N 0
def Rg (N:Nat) (a:ByteArray):Option Bool :=
 (Gm N a).bind fun b =>
 bif b then ((Zb5 N).bind fun c =>
 (H2 N c a).bind fun d =>
 some (!d))
 else some false
def GX:Option Int :=
 some (-1)
def SZ (a:(List ByteArray)) (b:ByteArray):Nat→Int→Option Int
 | 0,_=>none
 | c+1,d =>
 bif (decide (d < (a.length:Int))) then ((idx a d).bind fun e =>
 bif (e.toList==b.toList) then (some d)
 else (SZ a b c) (Zi (d+1)))
 else GX
def P3 (N:Nat) (a:(List ByteArray)) (b:ByteArray):Option Int :=
 SZ a b N 0
def Dh (a:Int):Option Int :=
 some a
def Re (a:(List T0)):Nat→Int→Int→Option Int
 | 0,_,_=>none
 | b+1,c,d =>
 bif (decide (d < (a.length:Int))) then ((idx a d).bind fun e =>
 (Re a b) (Zi (c+(e.Fields.length:Int))) (Zi (d+1)))
 else Dh c
def Ss (N:Nat) (a:(List T0)):Option Int :=
 Re a N 0 0
def MA (a:Yb) (b:Int) (c:Int):Option Bool :=
 bif (a.Kind==1) then (bif (decide (a.Lo≥b)) then (bif (decide (a.Hi≤c)) then (some (decide (a.Lo≤a.Hi)))
 else some false)
 else some false)
 else bif (a.Kind==2) then (bif (decide (a.Lo≥b)) then (bif (decide (a.Hi≤c)) then (some (decide (a.Lo≤a.Hi)))
 else some false)
 else some false)
 else some false
def HU (N:Nat) (a:Yb):Option Bool :=
 bif (a.Kind==2) then (MA a 0 40)
 else MA a (-1000) 1000
def G3 (N:Nat) (a:ByteArray):Option Bool :=
 (Rg N a).bind fun b =>
 some b
def MK (a:ByteArray):Option Bool :=
 some (decide ((a.size:Int)≤50))
def SP (N:Nat) (a:ByteArray) (b:Int) (c:Int) (d:Int→Int→Option Bool) (e:Bool):Option Bool :=
 bif e then ((ssl a (some b) (some c)).bind fun f =>
 (G3 N f).bind fun g =>
 bif (!g) then (some false)
 else d (Zi (c+1)) (Zi (c+1)))
 else d b (Zi (c+1))
def Ud (N:Nat) (a:ByteArray):Nat→Int→Int→Option Bool
 | 0,_,_=>none
 | b+1,c,d =>
 bif (decide (d≤(a.size:Int))) then (bif (d==(a.size:Int)) then (SP N a c d (Ud N a b) true)
 else (YR a d).bind fun e =>
 SP N a c d (Ud N a b) (e==46))
 else MK a
def HW (N:Nat) (a:ByteArray):Option Bool :=
 Ud N a N 0 0
def Zcl:Option T4 :=
 some (⟨(str []),(⟨0,0,0⟩:Yb)⟩:T4)
def Ph (a:(List T0)):Nat→Int→Int→Option T4
 | 0,_,_=>none
 | b+1,c,d =>
 bif (decide (d < (a.length:Int))) then ((idx a d).bind fun e =>
 bif (decide (c < (e.Fields.length:Int))) then ((idx a d).bind fun f =>
 (idx f.Fields c).bind fun g =>
 some g)
 else (idx a d).bind fun h =>
 (Ph a b) (Zi (c-(h.Fields.length:Int))) (Zi (d+1)))
 else Zcl
def PX (N:Nat) (a:(List T0)) (b:Int):Option T4 :=
 Ph a N b 0
def PS (N:Nat) (a:(List T0)) (b:Int):Option Bool :=
 bif (decide (b≥0)) then ((Ss N a).bind fun c =>
 bif (decide (b < c)) then ((PX N a b).bind fun d =>
 some (d.Sort'.Kind==2))
 else some false)
 else some false
def Pl (a:T6):Option Bool :=
 bif (decide ((a.Diffs.length:Int)≤20)) then (some (decide ((a.Equals.length:Int)≤20)))
 else some false
def R3 (N:Nat) (a:(List T0)) (b:T6):Nat→Int→Option Bool
 | 0,_=>none
 | c+1,d =>
 bif (decide (d < (b.Equals.length:Int))) then ((idx b.Equals d).bind fun e =>
 (PS N a e.1).bind fun f =>
 bif (!f) then (some false)
 else (idx b.Equals d).bind fun g =>
 (PS N a g.2).bind fun h =>
 bif (!h) then (some false)
 else (R3 N a b c) (Zi (d+1)))
 else Pl b
def Lx (N:Nat) (a:(List T0)) (b:T6):Option Bool :=
 R3 N a b N 0
def SQ (N:Nat) (a:(List T0)) (b:T6) (c:Int):Nat→Int→Option Bool
 | 0,_=>none
 | d+1,e =>
 bif (decide (e < (b.Diffs.length:Int))) then ((idx b.Diffs e).bind fun f =>
 bif (decide (f.X < (-1))) then (some false)
 else bif (decide (f.X≥c)) then (some false)
 else bif (decide (f.Y < (-1))) then (some false)
 else bif (decide (f.Y≥c)) then (some false)
 else bif (decide (f.C < (-20000))) then (some false)
 else bif (decide (f.C > 20000)) then (some false)
 else (SQ N a b c d) (Zi (e+1)))
 else Lx N a b
def GO (N:Nat) (a:(List T0)) (b:T6):Option Bool :=
 (Ss N a).bind fun c =>
 SQ N a b c N 0
def Hn:Option Bool :=
 some true
def Lk (N:Nat) (a:(List T0)) (b:Int) (c:Int) (d:Int→Int→Option Bool) (e:T0):Option Bool :=
 (HW N e.Name).bind fun f =>
 bif (!f) then (some false)
 else bif (decide ((e.Fields.length:Int) > 4)) then (some false)
 else bif (e.First != b) then (some false)
 else (GO N a e.Guard).bind fun g =>
 bif (!g) then (some false)
 else d (Zi (b+(e.Fields.length:Int))) (Zi (c+1))
def PZ (a:Int) (b:Int→Option Bool):Option Bool :=
 b (Zi (a+1))
def Rt (a:T0) (b:Int) (c:Int→Option Bool):Nat→Int→Option Bool
 | 0,_=>none
 | d+1,e =>
 bif (decide (e < b)) then ((idx a.Fields e).bind fun f =>
 (idx a.Fields b).bind fun g =>
 bif (f.Name.toList==g.Name.toList) then (some false)
 else (Rt a b c d) (Zi (e+1)))
 else PZ b c
def Ve (N:Nat) (a:(List T0)) (b:Int) (c:Int) (d:Int→Int→Option Bool) (e:T0):Nat→Int→Option Bool
 | 0,_=>none
 | f+1,g =>
 bif (decide (g < (e.Fields.length:Int))) then ((idx e.Fields g).bind fun h =>
 (HU N h.Sort').bind fun i =>
 bif (!i) then (some false)
 else (idx e.Fields g).bind fun j =>
 (Rg N j.Name).bind fun k =>
 bif (!k) then (some false)
 else Rt e g (Ve N a b c d e f) N 0)
 else Lk N a b c d e
def P1 (N:Nat) (a:(List T0)) (b:Int) (c:Int) (d:Int→Int→Option Bool) (e:T0):Option Bool :=
 Ve N a b c d e N 0
def Qa (N:Nat) (a:(List T0)) (b:Int) (c:Int) (d:Int→Int→Option Bool) (e:T0):Nat→Int→Option Bool
 | 0,_=>none
 | f+1,g =>
 bif (decide (g < c)) then ((idx a g).bind fun h =>
 bif (h.Name.toList==e.Name.toList) then (some false)
 else (Qa N a b c d e f) (Zi (g+1)))
 else P1 N a b c d e
def Y3 (N:Nat) (a:(List T0)):Nat→Int→Int→Option Bool
 | 0,_,_=>none
 | b+1,c,d =>
 bif (decide (d < (a.length:Int))) then ((idx a d).bind fun e =>
 Qa N a c d (Y3 N a b) e N 0)
 else Hn
def R4 (N:Nat) (a:(List T0)):Option Bool :=
 bif (decide ((a.length:Int) > 40)) then (some false)
 else (Ss N a).bind fun b =>
 bif (decide (b > 24)) then (some false)
 else Y3 N a N 0 0
def MU (N:Nat) (a:T5):Option Bool :=
 (Rg N a.Name).bind fun b =>
 bif b then (bif (decide ((a.Roles.length:Int)≥1)) then (bif (decide ((a.Roles.length:Int)≤6)) then ((R4 N a.Decls).bind fun c =>
 some c)
 else some false)
 else some false)
 else some false
def Qd (N:Nat) (a:T5):Nat→Int→Option Bool
 | 0,_=>none
 | b+1,c =>
 bif (decide (c < (a.Roles.length:Int))) then ((idx a.Roles c).bind fun d =>
 (Rg N d).bind fun e =>
 bif (!e) then (some false)
 else (idx a.Roles c).bind fun f =>
 (P3 N a.Roles f).bind fun g =>
 bif (decide (g < c)) then (some false)
 else (Qd N a b) (Zi (c+1)))
 else MU N a
def Ds (N:Nat) (a:T5):Option Bool :=
 Qd N a N 0
def Sp (N:Nat) (a:T5) (b:Int):Option Bool :=
 bif (decide (b≥0)) then (some (decide (b < a.States)))
 else some false
def Lg (N:Nat) (a:T5):Option Bool :=
 bif (decide (a.States≥1)) then (bif (decide (a.States≤200)) then ((Sp N a a.Start).bind fun b =>
 bif b then ((Sp N a a.End).bind fun c =>
 bif c then (some (decide ((a.Edges.length:Int)≤400)))
 else some false)
 else some false)
 else some false)
 else some false
def RZ (N:Nat) (a:T5):Nat→Int→Option Bool
 | 0,_=>none
 | b+1,c =>
 bif (decide (c < (a.Edges.length:Int))) then ((idx a.Edges c).bind fun d =>
 (Sp N a d.From).bind fun e =>
 bif (!e) then (some false)
 else (Sp N a d.To).bind fun f =>
 bif (!f) then (some false)
 else bif (decide (d.Act.From < 0)) then (some false)
 else bif (decide (d.Act.From≥(a.Roles.length:Int))) then (some false)
 else bif (decide (d.Act.To < 0)) then (some false)
 else bif (decide (d.Act.To≥(a.Roles.length:Int))) then (some false)
 else bif (d.Act.From==d.Act.To) then (some false)
 else bif (decide (d.Act.Label < 0)) then (some false)
 else bif (decide (d.Act.Label≥(a.Decls.length:Int))) then (some false)
 else (RZ N a b) (Zi (c+1)))
 else Lg N a
def GH (N:Nat) (a:T5):Option Bool :=
 RZ N a N 0
def D2:Option Bool :=
 some true
def PU (a:Int) (b:Int→Option Bool):Option Bool :=
 b (Zi (a+1))
def TU (a:T2) (b:Int) (c:Int→Option Bool) (d:T2) (e:Bool):Option Bool :=
 bif e then (some false)
 else bif a.Again then (bif (d.To==a.From) then (bif (d.Act.From != a.Act.From) then (some false)
 else bif (d.Act.Label != a.Act.Label) then (some false)
 else c (Zi (b+1)))
 else c (Zi (b+1)))
 else c (Zi (b+1))
def Va (a:T5) (b:Int) (c:Int→Option Bool) (d:T2):Nat→Int→Option Bool
 | 0,_=>none
 | e+1,f =>
 bif (decide (f < (a.Edges.length:Int))) then ((idx a.Edges f).bind fun g =>
 bif (f != b) then (bif (d.From==g.From) then (bif ((d.Act.From==g.Act.From) && ((d.Act.To==g.Act.To) && ((d.Act.Label==g.Act.Label) && true))) then (TU d f (Va a b c d e) g true)
 else bif (d.Act.From != g.Act.From) then (TU d f (Va a b c d e) g true)
 else TU d f (Va a b c d e) g d.Again)
 else TU d f (Va a b c d e) g false)
 else TU d f (Va a b c d e) g false)
 else PU b c
def Lf (N:Nat) (a:T5) (b:Int) (c:Int→Option Bool) (d:T2) (e:Bool):Option Bool :=
 bif e then (some false)
 else Va a b c d N 0
def X8 (N:Nat) (a:T5):Nat→Int→Option Bool
 | 0,_=>none
 | b+1,c =>
 bif (decide (c < (a.Edges.length:Int))) then ((idx a.Edges c).bind fun d =>
 bif d.Again then (Lf N a c (X8 N a b) d (d.From==a.Start))
 else Lf N a c (X8 N a b) d false)
 else D2
def HV (N:Nat) (a:T5):Option Bool :=
 X8 N a N 0
def Gg (a:(List Int)):Option (List Int) :=
 some a
def G7 (a:Int) (b:(List Int)→Int→Option (List Int)) (c:(List Int)):Option (List Int) :=
 b c (Zi (a+1))
def VD (a:T5) (b:Int) (c:(List Int)→Int→Option (List Int)):Nat→(List Int)→Int→Option (List Int)
 | 0,_,_=>none
 | d+1,e,f =>
 bif (decide (f < (a.Edges.length:Int))) then ((idx a.Edges f).bind fun g =>
 (idx e g.To).bind fun h =>
 bif (h==b) then ((idx e g.From).bind fun i =>
 bif (decide (i < 0)) then ((idx e g.From).bind fun j =>
 (VD a b c d) (ZW e g.From (Zi (b+1))) (Zi (f+1)))
 else (VD a b c d) e (Zi (f+1)))
 else (VD a b c d) e (Zi (f+1)))
 else G7 b c e
def VJ (N:Nat) (a:T5):Nat→(List Int)→Int→Option (List Int)
 | 0,_,_=>none
 | b+1,c,d =>
 bif (decide (d < a.States)) then (VD a d (VJ N a b) N c 0)
 else Gg c
def MB (N:Nat) (a:T5) (b:(List Int)):Option (List Int) :=
 (idx b a.End).bind fun c =>
 VJ N a N (ZW b a.End 0) 0
def Rf (N:Nat) (a:T5):Nat→(List Int)→Int→Option (List Int)
 | 0,_,_=>none
 | b+1,c,d =>
 bif (decide (d < a.States)) then ((idx c d).bind fun e =>
 (Rf N a b) (ZW c d (-1)) (Zi (d+1)))
 else MB N a c
def HF (N:Nat) (a:T5):Option (List Int) :=
 (YG 0 a.States a.States).bind fun b =>
 Rf N a N b 0
def DL (N:Nat) (a:T5) (b:Int) (c:Int):Option Bool :=
 (idx a.Edges b).bind fun d =>
 (idx a.Edges c).bind fun e =>
 bif (d.Act.To != e.Act.To) then (some (decide (d.Act.To < e.Act.To)))
 else bif (d.Act.Label != e.Act.Label) then (some (decide (d.Act.Label < e.Act.Label)))
 else some (decide (b < c))
def Hs (a:(List Int)):Option (List Int) :=
 some a
def Py (a:(List Int)) (b:Int) (c:(List Int)→Int→Option (List Int)) (d:Int):Option (List Int) :=
 (lsl a none (some d)).bind fun e =>
 (lsl a (some d) none).bind fun f =>
 (Z7 ([b]:List Int) f).bind fun g =>
 (Z7 e g).bind fun h =>
 c h (Zi (b+1))
def SJ (N:Nat) (a:T5) (b:(List Int)) (c:Int) (d:(List Int)→Int→Option (List Int)):Nat→Int→Option (List Int)
 | 0,_=>none
 | e+1,f =>
 bif (decide (f < (b.length:Int))) then ((idx b f).bind fun g =>
 (DL N a g c).bind fun h =>
 bif h then ((SJ N a b c d e) (Zi (f+1)))
 else Py b c d f)
 else Py b c d f
def WX (N:Nat) (a:T5) (b:Int):Nat→(List Int)→Int→Option (List Int)
 | 0,_,_=>none
 | c+1,d,e =>
 bif (decide (e < (a.Edges.length:Int))) then ((idx a.Edges e).bind fun f =>
 bif (f.From != b) then ((WX N a b c) d (Zi (e+1)))
 else SJ N a d e (WX N a b c) N 0)
 else Hs d
def HJ (N:Nat) (a:T5) (b:Int):Option (List Int) :=
 WX N a b N ([]:List Int) 0
def Qw (N:Nat) (a:T5):Option Bool :=
 (HJ N a a.End).bind fun b =>
 some ((b.length:Int)==0)
def RV (N:Nat) (a:T5) (b:(List Bool)) (c:(List Int)):Nat→Int→Option Bool
 | 0,_=>none
 | d+1,e =>
 bif (decide (e < a.States)) then ((idx b e).bind fun f =>
 bif (!f) then (some false)
 else (idx c e).bind fun g =>
 bif (decide (g < 0)) then (some false)
 else (RV N a b c d) (Zi (e+1)))
 else Qw N a
def LC (N:Nat) (a:T5) (b:(List Bool)):Option Bool :=
 (HF N a).bind fun c =>
 RV N a b c N 0
def Hg (a:Int) (b:(List Bool)→Int→Option Bool) (c:(List Bool)):Option Bool :=
 b c (Zi (a+1))
def U1 (a:T5) (b:Int) (c:(List Bool)→Int→Option Bool):Nat→(List Bool)→Int→Option Bool
 | 0,_,_=>none
 | d+1,e,f =>
 bif (decide (f < (a.Edges.length:Int))) then ((idx a.Edges f).bind fun g =>
 (idx a.Edges f).bind fun h =>
 (idx e h.To).bind fun i =>
 bif i then ((idx e g.To).bind fun j =>
 (U1 a b c d) (ZW e g.To true) (Zi (f+1)))
 else (idx a.Edges f).bind fun k =>
 (idx e k.From).bind fun l =>
 (idx e g.To).bind fun m =>
 (U1 a b c d) (ZW e g.To l) (Zi (f+1)))
 else Hg b c e
def VC (N:Nat) (a:T5):Nat→(List Bool)→Int→Option Bool
 | 0,_,_=>none
 | b+1,c,d =>
 bif (decide (d < a.States)) then (U1 a d (VC N a b) N c 0)
 else LC N a c
def DD (N:Nat) (a:T5):Option Bool :=
 (YG false a.States a.States).bind fun b =>
 (idx b a.Start).bind fun c =>
 VC N a N (ZW b a.Start true) 0
def Gt:Option Bool :=
 some true
def Ux (N:Nat) (a:T5):Nat→Int→Option Bool
 | 0,_=>none
 | b+1,c =>
 bif (decide (c < (a.Timeouts.length:Int))) then ((idx a.Timeouts c).bind fun d =>
 (Sp N a d.State).bind fun e =>
 bif (!e) then (some false)
 else bif (decide (c > 0)) then ((idx a.Timeouts (Zi (c-1))).bind fun f =>
 bif (decide (d.State≤f.State)) then (some false)
 else bif (decide (d.Ticks < 1)) then (some false)
 else bif (decide (d.Ticks > 1000)) then (some false)
 else bif (decide (d.Else < 0)) then (some false)
 else bif (decide (d.Else≥(a.Edges.length:Int))) then (some false)
 else (idx a.Edges d.Else).bind fun g =>
 bif (g.From != d.State) then (some false)
 else (idx a.Edges d.Else).bind fun h =>
 bif h.Again then (some false)
 else (Ux N a b) (Zi (c+1)))
 else bif (decide (d.Ticks < 1)) then (some false)
 else bif (decide (d.Ticks > 1000)) then (some false)
 else bif (decide (d.Else < 0)) then (some false)
 else bif (decide (d.Else≥(a.Edges.length:Int))) then (some false)
 else (idx a.Edges d.Else).bind fun i =>
 bif (i.From != d.State) then (some false)
 else (idx a.Edges d.Else).bind fun j =>
 bif j.Again then (some false)
 else (Ux N a b) (Zi (c+1)))
 else Gt
def DN (N:Nat) (a:T5):Option Bool :=
 Ux N a N 0
def LP (N:Nat) (a:T5):Option Bool :=
 (Ds N a).bind fun b =>
 bif b then ((GH N a).bind fun c =>
 bif c then ((HV N a).bind fun d =>
 bif d then ((DD N a).bind fun e =>
 bif e then ((DN N a).bind fun f =>
 some f)
 else some false)
 else some false)
 else some false)
 else some false
def Zap:Option Bool :=
 some true
def SG (a:T8):Nat→Int→Option Bool
 | 0,_=>none
 | b+1,c =>
 bif (decide (c < (a.Moves.length:Int))) then ((idx a.Moves c).bind fun d =>
 bif (decide (d.From < 0)) then (some false)
 else bif (decide (d.From≥a.States)) then (some false)
 else bif (decide (d.To < 0)) then (some false)
 else bif (decide (d.To≥a.States)) then (some false)
 else bif (decide (d.Peer < 0)) then (some false)
 else bif (decide (d.Peer≥6)) then (some false)
 else bif (d.Peer==a.Role) then (some false)
 else bif (decide (d.Label < 0)) then (some false)
 else bif (decide (d.Label≥40)) then (some false)
 else (SG a b) (Zi (c+1)))
 else Zap
def G2 (N:Nat) (a:T8):Option Bool :=
 bif (decide (a.Role < 0)) then (some false)
 else bif (decide (a.Role≥6)) then (some false)
 else bif (decide (a.States < 1)) then (some false)
 else bif (decide (a.States > 200)) then (some false)
 else bif (decide (a.Start < 0)) then (some false)
 else bif (decide (a.Start≥a.States)) then (some false)
 else bif ((a.Finals.length:Int) != a.States) then (some false)
 else bif (decide ((a.Moves.length:Int) > 400)) then (some false)
 else SG a N 0
def ZbB:Option Bool :=
 some true
def HZ (a:Int) (b:Int→Option Bool):Option Bool :=
 b (Zi (a+1))
def Ta (a:T9) (b:Int) (c:Int→Option Bool) (d:T9) (e:Bool):Option Bool :=
 bif e then (some false)
 else bif a.Again then (bif (d.To==a.From) then (bif (!d.Send) then (some false)
 else bif (d.Label != a.Label) then (some false)
 else c (Zi (b+1)))
 else c (Zi (b+1)))
 else c (Zi (b+1))
def Wx (a:T8) (b:Int) (c:Int→Option Bool) (d:T9):Nat→Int→Option Bool
 | 0,_=>none
 | e+1,f =>
 bif (decide (f < (a.Moves.length:Int))) then ((idx a.Moves f).bind fun g =>
 bif (f != b) then (bif (d.From==g.From) then (bif (!(d.Send==g.Send)) then (Ta d f (Wx a b c d e) g true)
 else bif (d.Peer==g.Peer) then (bif (d.Label==g.Label) then (Ta d f (Wx a b c d e) g true)
 else Ta d f (Wx a b c d e) g d.Again)
 else Ta d f (Wx a b c d e) g d.Again)
 else Ta d f (Wx a b c d e) g false)
 else Ta d f (Wx a b c d e) g false)
 else HZ b c
def Ry (N:Nat) (a:T8) (b:Int) (c:Int→Option Bool) (d:T9) (e:Bool):Option Bool :=
 bif e then (some false)
 else Wx a b c d N 0
def Xp (N:Nat) (a:T8):Nat→Int→Option Bool
 | 0,_=>none
 | b+1,c =>
 bif (decide (c < (a.Moves.length:Int))) then ((idx a.Moves c).bind fun d =>
 bif d.Again then (bif (!d.Send) then (Ry N a c (Xp N a b) d true)
 else bif (d.From==a.Start) then (Ry N a c (Xp N a b) d true)
 else (idx a.Finals d.From).bind fun e =>
 Ry N a c (Xp N a b) d e)
 else Ry N a c (Xp N a b) d false)
 else ZbB
def DF (N:Nat) (a:T8):Option Bool :=
 Xp N a N 0
def Zbf:Option Bool :=
 some true
def Us (a:T8) (b:Int) (c:Int→Option Bool) (d:Yj) (e:Bool):Option Bool :=
 bif e then (some false)
 else (idx a.Moves d.Else).bind fun f =>
 bif (f.From != d.State) then (some false)
 else bif (!f.Send) then (some false)
 else bif f.Again then (some false)
 else c (Zi (b+1))
def Wm (a:T8):Nat→Int→Option Bool
 | 0,_=>none
 | b+1,c =>
 bif (decide (c < (a.Timeouts.length:Int))) then ((idx a.Timeouts c).bind fun d =>
 bif (decide (d.Ticks < 1)) then (Us a c (Wm a b) d true)
 else bif (decide (d.Ticks > 1000)) then (Us a c (Wm a b) d true)
 else bif (decide (d.Else < 0)) then (Us a c (Wm a b) d true)
 else bif (decide (d.Else≥(a.Moves.length:Int))) then (Us a c (Wm a b) d true)
 else bif (decide (c > 0)) then ((idx a.Timeouts (Zi (c-1))).bind fun e =>
 Us a c (Wm a b) d (decide (d.State≤e.State)))
 else Us a c (Wm a b) d false)
 else Zbf
def Dm (N:Nat) (a:T8):Option Bool :=
 Wm a N 0
def Zbl:Option Bool :=
 some false
def Uf (a:(List Int)) (b:Int):Nat→Int→Option Bool
 | 0,_=>none
 | c+1,d =>
 bif (decide (d < (a.length:Int))) then ((idx a d).bind fun e =>
 bif (e==b) then (some true)
 else (Uf a b c) (Zi (d+1)))
 else Zbl
def DX (N:Nat) (a:(List Int)) (b:Int):Option Bool :=
 Uf a b N 0
def Hk (a:Int) (b:(List Int)) (c:Bool):Option (List Int) :=
 bif (!c) then ((Z7 b ([a]:List Int)).bind fun d =>
 some d)
 else some b
def UZ (a:(List Int)) (b:Int):Nat→(List Int)→Bool→Int→Option (List Int)
 | 0,_,_,_=>none
 | c+1,d,e,f =>
 bif (decide (f < (a.length:Int))) then (bif (!e) then ((idx a f).bind fun g =>
 bif (decide (g≥b)) then ((idx a f).bind fun h =>
 bif (decide (h > b)) then ((Z7 d ([b]:List Int)).bind fun i =>
 (idx a f).bind fun j =>
 (Z7 i ([j]:List Int)).bind fun k =>
 (UZ a b c) k true (Zi (f+1)))
 else (idx a f).bind fun l =>
 (Z7 d ([l]:List Int)).bind fun m =>
 (UZ a b c) m true (Zi (f+1)))
 else (idx a f).bind fun o =>
 (Z7 d ([o]:List Int)).bind fun p =>
 (UZ a b c) p e (Zi (f+1)))
 else (idx a f).bind fun q =>
 (Z7 d ([q]:List Int)).bind fun r =>
 (UZ a b c) r e (Zi (f+1)))
 else Hk b d e
def L3 (N:Nat) (a:(List Int)) (b:Int):Option (List Int) :=
 UZ a b N ([]:List Int) false 0
def ZbS (a:(List Int)):Option (List Int) :=
 some a
def ZaE (a:Int) (b:(List Int)→Int→Option (List Int)) (c:(List Int)):Option (List Int) :=
 b c (Zi (a+1))
def Sg (N:Nat) (a:T8) (b:Int) (c:(List Int)→Int→Option (List Int)):Nat→(List Int)→Int→Option (List Int)
 | 0,_,_=>none
 | d+1,e,f =>
 bif (decide (f < (a.Moves.length:Int))) then ((idx a.Moves f).bind fun g =>
 (DX N e g.From).bind fun h =>
 bif h then ((idx a.Moves f).bind fun i =>
 (L3 N e i.To).bind fun j =>
 (Sg N a b c d) j (Zi (f+1)))
 else (Sg N a b c d) e (Zi (f+1)))
 else ZaE b c e
def Vp (N:Nat) (a:T8):Nat→(List Int)→Int→Option (List Int)
 | 0,_,_=>none
 | b+1,c,d =>
 bif (decide (d < a.States)) then (Sg N a d (Vp N a b) N c 0)
 else ZbS c
def Bu (N:Nat) (a:T8):Option (List Int) :=
 Vp N a N ([a.Start]:List Int) 0
def TO (N:Nat) (a:T8):Option Bool :=
 (G2 N a).bind fun b =>
 bif b then ((DF N a).bind fun c =>
 bif c then ((Dm N a).bind fun d =>
 bif d then ((Bu N a).bind fun e =>
 some ((e.length:Int)==a.States))
 else some false)
 else some false)
 else some false
def B5:Option Bool :=
 some true
def SM (a:T5) (b:T8):Nat→Int→Option Bool
 | 0,_=>none
 | c+1,d =>
 bif (decide (d < (b.Moves.length:Int))) then ((idx b.Moves d).bind fun e =>
 bif (decide (e.Peer≥(a.Roles.length:Int))) then (some false)
 else (idx b.Moves d).bind fun f =>
 bif (decide (f.Label≥(a.Decls.length:Int))) then (some false)
 else (SM a b c) (Zi (d+1)))
 else B5
def z51 (N:Nat) (a:T5) (b:T8):Option Bool :=
 (LP N a).bind fun c =>
 bif (!c) then (some false)
 else (TO N b).bind fun d =>
 bif (!d) then (some false)
 else bif (decide (b.Role≥(a.Roles.length:Int))) then (some false)
 else SM a b N 0
def Ho (N:Nat) (a:(List T0)):Option (List Zm) :=
 (Ss N a).bind fun b =>
 (YG (⟨0,0,(str [])⟩:Zm) b b).bind fun c =>
 some c
def Vc (N:Nat) (a:T5) (b:T8):Option ZJ :=
 (z51 N a b).bind fun c =>
 bif (!c) then (some (⟨0,([]:List Zm),([]:List Zm)⟩:ZJ))
 else (Ho N a.Decls).bind fun d =>
 some (⟨b.Start,d,([]:List Zm)⟩:ZJ)
def QY (N:Nat) (a:Zm):Option Int :=
 bif (a.Kind==2) then (some (a.S.size:Int))
 else some a.N
def Te (N:Nat) (a:Yb) (b:Zm) (c:Bool):Option Bool :=
 bif c then (some false)
 else bif (b.Kind==a.Kind) then ((QY N b).bind fun d =>
 bif (decide (d≥a.Lo)) then ((QY N b).bind fun e =>
 some (decide (e≤a.Hi)))
 else some false)
 else some false
def Q8 (N:Nat) (a:Yb) (b:Zm):Option Bool :=
 bif (b.Kind==2) then (bif (b.N != 0) then (Te N a b true)
 else bif (b.Kind==1) then (Te N a b (!(b.S.toList==(str []).toList)))
 else Te N a b false)
 else bif (b.Kind==1) then (Te N a b (!(b.S.toList==(str []).toList)))
 else Te N a b false
def RK (N:Nat) (a:Yb) (b:Zm):Nat→Int→Option Bool
 | 0,_=>none
 | c+1,d =>
 bif (decide (d < (b.S.size:Int))) then ((YR b.S d).bind fun e =>
 bif (decide (e < 32)) then (some false)
 else (YR b.S d).bind fun f =>
 bif (decide (f > 126)) then (some false)
 else (RK N a b c) (Zi (d+1)))
 else Q8 N a b
def Ls (N:Nat) (a:Yb) (b:Zm):Option Bool :=
 RK N a b N 0
def Bz:Option Bool :=
 some true
def SK (N:Nat) (a:(List T0)) (b:(List Zm)):Nat→Int→Option Bool
 | 0,_=>none
 | c+1,d =>
 bif (decide (d < (b.length:Int))) then ((idx b d).bind fun e =>
 bif (!((e.Kind==0) && ((e.N==0) && ((e.S.toList==(str []).toList) && true)))) then ((PX N a d).bind fun f =>
 (idx b d).bind fun g =>
 (Ls N f.Sort' g).bind fun h =>
 bif (!h) then (some false)
 else (SK N a b c) (Zi (d+1)))
 else (SK N a b c) (Zi (d+1)))
 else Bz
def z66 (N:Nat) (a:(List T0)) (b:(List Zm)):Option Bool :=
 (Ss N a).bind fun c =>
 bif ((b.length:Int) != c) then (some false)
 else SK N a b N 0
def UB (N:Nat) (a:T5) (b:T8) (c:ZJ):Option Bool :=
 (z51 N a b).bind fun d =>
 bif d then (bif (decide (c.At≥0)) then (bif (decide (c.At < b.States)) then ((z66 N a.Decls c.Known).bind fun e =>
 some e)
 else some false)
 else some false)
 else some false
def MQ (N:Nat) (a:T8) (b:Int):Option Bool :=
 (TO N a).bind fun c =>
 bif c then (bif (decide (b≥0)) then (some (decide (b < a.States)))
 else some false)
 else some false
def DZ (N:Nat) (a:T9) (b:T9):Option Bool :=
 bif (!(a.Send==b.Send)) then (some a.Send)
 else bif (a.Peer != b.Peer) then (some (decide (a.Peer < b.Peer)))
 else some (decide (a.Label < b.Label))
def ZbM (a:(List Int)):Option (List Int) :=
 some a
def PB (a:(List Int)) (b:Int) (c:(List Int)→Int→Option (List Int)) (d:Int):Option (List Int) :=
 (lsl a none (some d)).bind fun e =>
 (Z7 ([]:List Int) e).bind fun f =>
 (Z7 f ([b]:List Int)).bind fun g =>
 (lsl a (some d) none).bind fun h =>
 (Z7 g h).bind fun i =>
 c i (Zi (b+1))
def SL (N:Nat) (a:T8) (b:(List Int)) (c:Int) (d:(List Int)→Int→Option (List Int)):Nat→Int→Option (List Int)
 | 0,_=>none
 | e+1,f =>
 bif (decide (f < (b.length:Int))) then ((idx a.Moves c).bind fun g =>
 (idx b f).bind fun h =>
 (idx a.Moves h).bind fun i =>
 (DZ N g i).bind fun j =>
 bif (!j) then ((SL N a b c d e) (Zi (f+1)))
 else PB b c d f)
 else PB b c d f
def Vf (N:Nat) (a:T8) (b:Int):Nat→(List Int)→Int→Option (List Int)
 | 0,_,_=>none
 | c+1,d,e =>
 bif (decide (e < (a.Moves.length:Int))) then ((idx a.Moves e).bind fun f =>
 bif (f.From != b) then ((Vf N a b c) d (Zi (e+1)))
 else SL N a d e (Vf N a b c) N 0)
 else ZbM d
def z69 (N:Nat) (a:T8) (b:Int):Option (List Int) :=
 Vf N a b N ([]:List Int) 0
def Mc (N:Nat) (a:T8) (b:Int):Option (List Int) :=
 (MQ N a b).bind fun c =>
 bif (!c) then (some ([]:List Int))
 else (z69 N a b).bind fun d =>
 some d
def Zex (N:Nat) (rc:Int→Option ByteArray) (a:Int):Option ByteArray :=
 bif (decide (a < (-9))) then ((rc (Zi (a.tdiv 10))).bind fun b =>
 (Zv b (Utf8.encode (wk .i32 ((Zi (48-(a.tmod 10))))))).bind fun c =>
 some c)
 else bif (decide (a < 0)) then ((Zv (str [45]) (Utf8.encode (wk .i32 ((Zi (48-a)))))).bind fun d =>
 some d)
 else bif (decide (a < 10)) then (some (Utf8.encode (wk .i32 ((Zi (48+a))))))
 else (rc (Zi (a.tdiv 10))).bind fun e =>
 (Zv e (Utf8.encode (wk .i32 ((Zi (48+(a.tmod 10))))))).bind fun f =>
 some f
def Pu:Nat→Int→Option ByteArray
 | 0,_=>none
 | N+1,a0=>Zex N (Pu N) a0
def Xd (N:Nat) (a:Int):Option ByteArray:=Pu N a
def Vr (N:Nat) (a:T0):Option Int :=
 some (Zi ((a.Guard.Diffs.length:Int)+(a.Guard.Equals.length:Int)))
def Be:Option (ByteArray × Bool) :=
 some ((str []),false)
def SB (a:(List T0)) (b:Int):Nat→Int→Option (ByteArray × Bool)
 | 0,_=>none
 | c+1,d =>
 bif (decide (d < (a.length:Int))) then ((idx a d).bind fun e =>
 bif (decide (b≥e.First)) then (bif (decide (b < (Zi (e.First+(e.Fields.length:Int))))) then ((idx e.Fields (Zi (b-e.First))).bind fun f =>
 (Zv e.Name (str [46])).bind fun g =>
 (Zv g f.Name).bind fun h =>
 some (h,(f.Sort'.Kind==2)))
 else (SB a b c) (Zi (d+1)))
 else (SB a b c) (Zi (d+1)))
 else Be
def Pt (N:Nat) (a:(List T0)) (b:Int):Option (ByteArray × Bool) :=
 SB a b N 0
def WC (N:Nat) (a:(List T0)) (b:Int):Option ByteArray :=
 (Pt N a b).bind fun c =>
 bif c.2 then ((Zv (str [108,101,110,40]) c.1).bind fun d =>
 (Zv d (str [41])).bind fun e =>
 some e)
 else some c.1
def VG (N:Nat) (a:(List T0)) (b:Int) (c:Int):Option ByteArray :=
 (R4 N a).bind fun d =>
 bif (!d) then (some (str []))
 else bif (decide (b < 0)) then (some (str []))
 else bif (decide (b≥(a.length:Int))) then (some (str []))
 else bif (decide (c < 0)) then (some (str []))
 else (idx a b).bind fun e =>
 (Vr N e).bind fun f =>
 bif (decide (c≥f)) then (some (str []))
 else (idx a b).bind fun g =>
 bif (decide (c≥(g.Guard.Diffs.length:Int))) then ((idx a b).bind fun h =>
 (idx h.Guard.Equals (Zi (c-(g.Guard.Diffs.length:Int)))).bind fun i =>
 (Pt N a i.1).bind fun j =>
 (Pt N a i.2).bind fun k =>
 (Zv j.1 (str [32,61,61,32])).bind fun l =>
 (Zv l k.1).bind fun m =>
 some m)
 else (idx a b).bind fun o =>
 (idx o.Guard.Diffs c).bind fun p =>
 bif (decide (p.X < 0)) then (bif (decide (p.Y < 0)) then ((Xd N p.C).bind fun q =>
 (Zv (str [48,32,60,61,32]) q).bind fun r =>
 some r)
 else bif (decide (p.Y < 0)) then ((WC N a p.X).bind fun s =>
 (Zv s (str [32,60,61,32])).bind fun t =>
 (Xd N p.C).bind fun u =>
 (Zv t u).bind fun v =>
 some v)
 else bif (decide (p.X < 0)) then ((WC N a p.Y).bind fun w =>
 (Zv w (str [32,62,61,32])).bind fun x =>
 (Xd N (Zi (0-p.C))).bind fun y =>
 (Zv x y).bind fun z =>
 some z)
 else (WC N a p.X).bind fun A =>
 (Zv A (str [32,60,61,32])).bind fun B =>
 (WC N a p.Y).bind fun D =>
 (Zv B D).bind fun E =>
 bif (decide (p.C > 0)) then ((Zv E (str [32,43,32])).bind fun F =>
 (Xd N p.C).bind fun G =>
 (Zv F G).bind fun H =>
 some H)
 else bif (decide (p.C < 0)) then ((Zv E (str [32,45,32])).bind fun I =>
 (Xd N (Zi (0-p.C))).bind fun J =>
 (Zv I J).bind fun K =>
 some K)
 else some E)
 else bif (decide (p.Y < 0)) then ((WC N a p.X).bind fun L =>
 (Zv L (str [32,60,61,32])).bind fun M =>
 (Xd N p.C).bind fun O =>
 (Zv M O).bind fun P =>
 some P)
 else bif (decide (p.X < 0)) then ((WC N a p.Y).bind fun Q =>
 (Zv Q (str [32,62,61,32])).bind fun R =>
 (Xd N (Zi (0-p.C))).bind fun S =>
 (Zv R S).bind fun T =>
 some T)
 else (WC N a p.X).bind fun U =>
 (Zv U (str [32,60,61,32])).bind fun V =>
 (WC N a p.Y).bind fun W =>
 (Zv V W).bind fun Z =>
 bif (decide (p.C > 0)) then ((Zv Z (str [32,43,32])).bind fun a0 =>
 (Xd N p.C).bind fun b0 =>
 (Zv a0 b0).bind fun c0 =>
 some c0)
 else bif (decide (p.C < 0)) then ((Zv Z (str [32,45,32])).bind fun d0 =>
 (Xd N (Zi (0-p.C))).bind fun e0 =>
 (Zv d0 e0).bind fun f0 =>
 some f0)
 else some Z
def Md (a:ByteArray):Option ByteArray :=
 some a
def TA (N:Nat) (a:(List T0)) (b:Int) (c:T0):Nat→ByteArray→Int→Option ByteArray
 | 0,_,_=>none
 | d+1,e,f =>
 (Vr N c).bind fun g =>
 bif (decide (f < g)) then (bif (f==0) then ((Zv e (str [32,119,104,101,114,101,32])).bind fun h =>
 (VG N a b f).bind fun i =>
 (Zv h i).bind fun j =>
 (TA N a b c d) j (Zi (f+1)))
 else (Zv e (str [32,97,110,100,32])).bind fun k =>
 (VG N a b f).bind fun l =>
 (Zv k l).bind fun m =>
 (TA N a b c d) m (Zi (f+1)))
 else Md e
def SA (N:Nat) (a:(List T0)) (b:Int) (c:T0) (d:ByteArray):Option ByteArray :=
 (Zv d (str [41])).bind fun e =>
 TA N a b c N e 0
def PH (N:Nat) (a:Int) (b:ByteArray→Int→Option ByteArray) (c:T4) (d:ByteArray):Option ByteArray :=
 (Xd N c.Sort'.Lo).bind fun e =>
 (Zv e (str [32,46,46,32])).bind fun f =>
 (Xd N c.Sort'.Hi).bind fun g =>
 (Zv f g).bind fun h =>
 (Zv d h).bind fun i =>
 b i (Zi (a+1))
def Pp (N:Nat) (a:Int) (b:ByteArray→Int→Option ByteArray) (c:T4) (d:ByteArray):Option ByteArray :=
 (Zv c.Name (str [58,32])).bind fun e =>
 (Zv d e).bind fun f =>
 bif (c.Sort'.Kind==2) then ((Zv f (str [116,101,120,116,32])).bind fun g =>
 PH N a b c g)
 else (Zv f (str [105,110,116,32])).bind fun h =>
 PH N a b c h
def WQ (N:Nat) (a:(List T0)) (b:Int) (c:T0):Nat→ByteArray→Int→Option ByteArray
 | 0,_,_=>none
 | d+1,e,f =>
 bif (decide (f < (c.Fields.length:Int))) then ((idx c.Fields f).bind fun g =>
 bif (decide (f > 0)) then ((Zv e (str [44,32])).bind fun h =>
 Pp N f (WQ N a b c d) g h)
 else Pp N f (WQ N a b c d) g e)
 else SA N a b c e
def Lq (N:Nat) (a:(List T0)) (b:Int):Option ByteArray :=
 (R4 N a).bind fun c =>
 bif (!c) then (some (str []))
 else bif (decide (b < 0)) then (some (str []))
 else bif (decide (b≥(a.length:Int))) then (some (str []))
 else (idx a b).bind fun d =>
 (Zv d.Name (str [40])).bind fun e =>
 WQ N a b d N e 0
def Zcu:Option Int :=
 some (-1)
def RH (a:T8) (b:Int):Nat→Int→Option Int
 | 0,_=>none
 | c+1,d =>
 bif (decide (d < (a.Timeouts.length:Int))) then ((idx a.Timeouts d).bind fun e =>
 bif (e.State==b) then (some d)
 else (RH a b c) (Zi (d+1)))
 else Zcu
def z70 (N:Nat) (a:T8) (b:Int):Option Int :=
 RH a b N 0
def GF (N:Nat) (a:T8) (b:Int):Option (Yj × Bool) :=
 (MQ N a b).bind fun c =>
 bif (!c) then (some ((⟨0,0,0⟩:Yj),false))
 else (z70 N a b).bind fun d =>
 bif (decide (d≥0)) then ((idx a.Timeouts d).bind fun e =>
 some (e,true))
 else some ((⟨0,0,0⟩:Yj),false)
def Qb (N:Nat) (a:T5) (b:T8) (c:Int) (d:(List ByteArray)):Option ((List ByteArray) × Int) :=
 (GF N b c).bind fun e =>
 bif e.2 then ((idx b.Moves e.1.Else).bind fun f =>
 (Xd N e.1.Ticks).bind fun g =>
 (Zv (str [119,105,116,104,105,110,32]) g).bind fun h =>
 (Zv h (str [32,116,105,99,107,115,44,32,111,116,104,101,114,119,105,115,101,32])).bind fun i =>
 (idx a.Decls f.Label).bind fun j =>
 (Zv i j.Name).bind fun k =>
 (Zv k (str [32,116,111,32])).bind fun l =>
 (idx a.Roles f.Peer).bind fun m =>
 (Zv l m).bind fun o =>
 (Z7 d ([o]:List ByteArray)).bind fun p =>
 (idx b.Finals c).bind fun q =>
 bif q then ((Z7 p ([(str [116,104,101,32,101,110,100])]:List ByteArray)).bind fun r =>
 some (r,0))
 else some (p,0))
 else (idx b.Finals c).bind fun s =>
 bif s then ((Z7 d ([(str [116,104,101,32,101,110,100])]:List ByteArray)).bind fun t =>
 some (t,0))
 else some (d,0)
def Up (N:Nat) (a:T5) (b:T8) (c:Int) (d:(List Int)):Nat→(List ByteArray)→Int→Option ((List ByteArray) × Int)
 | 0,_,_=>none
 | e+1,f,g =>
 bif (decide (g < (d.length:Int))) then ((idx d g).bind fun h =>
 (idx b.Moves h).bind fun i =>
 bif i.Again then ((idx a.Decls i.Label).bind fun j =>
 (Zv (str [115,101,110,100,32]) j.Name).bind fun k =>
 (Zv k (str [32,97,103,97,105,110,32,116,111,32])).bind fun l =>
 (idx a.Roles i.Peer).bind fun m =>
 (Zv l m).bind fun o =>
 (Z7 f ([o]:List ByteArray)).bind fun p =>
 (Up N a b c d e) p (Zi (g+1)))
 else bif i.Send then ((Lq N a.Decls i.Label).bind fun q =>
 (Zv (str [115,101,110,100,32]) q).bind fun r =>
 (Zv r (str [32,116,111,32])).bind fun s =>
 (idx a.Roles i.Peer).bind fun t =>
 (Zv s t).bind fun u =>
 (Z7 f ([u]:List ByteArray)).bind fun v =>
 (Up N a b c d e) v (Zi (g+1)))
 else (Lq N a.Decls i.Label).bind fun w =>
 (Zv (str [114,101,99,101,105,118,101,32]) w).bind fun x =>
 (Zv x (str [32,102,114,111,109,32])).bind fun y =>
 (idx a.Roles i.Peer).bind fun z =>
 (Zv y z).bind fun A =>
 (Z7 f ([A]:List ByteArray)).bind fun B =>
 (Up N a b c d e) B (Zi (g+1)))
 else Qb N a b c f
def TT (N:Nat) (a:T5) (b:T8) (c:Int):Option ((List ByteArray) × Int) :=
 (Vc N a b).bind fun d =>
 (UB N a b d).bind fun e =>
 bif (!e) then (some (([]:List ByteArray),1))
 else bif (decide (c < 0)) then (some (([]:List ByteArray),1))
 else bif (decide (c≥b.States)) then (some (([]:List ByteArray),1))
 else (Mc N b c).bind fun f =>
 Up N a b c f N ([]:List ByteArray) 0
def ZbD:Option Int :=
 some (-1)
def UT (a:T8) (b:Int) (c:T3):Nat→Int→Option Int
 | 0,_=>none
 | d+1,e =>
 bif (decide (e < (a.Moves.length:Int))) then ((idx a.Moves e).bind fun f =>
 bif (f.From==b) then (bif (f.Send==c.Send) then (bif (f.Peer==c.Peer) then (bif (f.Label==c.Label) then (some e)
 else (UT a b c d) (Zi (e+1)))
 else (UT a b c d) (Zi (e+1)))
 else (UT a b c d) (Zi (e+1)))
 else (UT a b c d) (Zi (e+1)))
 else ZbD
def Sw (N:Nat) (a:T8) (b:Int) (c:T3):Option Int :=
 UT a b c N 0
def Hw (N:Nat) (a:Yb):Option Bool :=
 bif (a.Kind==1) then (bif (decide ((-1000)≤a.Lo)) then (bif (decide (a.Lo≤a.Hi)) then (some (decide (a.Hi≤1000)))
 else some false)
 else some false)
 else bif (a.Kind==2) then (bif (decide (0≤a.Lo)) then (bif (decide (a.Lo≤a.Hi)) then (some (decide (a.Hi≤40)))
 else some false)
 else some false)
 else some false
def Zal:Option Bool :=
 some true
def Sa (a:ByteArray):Nat→Int→Option Bool
 | 0,_=>none
 | b+1,c =>
 bif (decide (c < (a.size:Int))) then ((YR a c).bind fun d =>
 bif (decide (d < 32)) then (some false)
 else (YR a c).bind fun e =>
 bif (decide (e > 126)) then (some false)
 else (Sa a b) (Zi (c+1)))
 else Zal
def GA (N:Nat) (a:ByteArray):Option Bool :=
 Sa a N 0
def P7 (N:Nat) (a:Zm):Option Bool :=
 bif (a.Kind==1) then (bif (decide (a.N≥(-1000))) then (bif (decide (a.N≤1000)) then (some (a.S.toList==(str []).toList))
 else some false)
 else some false)
 else bif (a.Kind==2) then (bif (a.N==0) then (bif (decide ((a.S.size:Int)≤40)) then ((GA N a.S).bind fun b =>
 some b)
 else some false)
 else some false)
 else some false
def RN (N:Nat) (a:Zm):Option Int :=
 bif (a.Kind==1) then (some a.N)
 else bif (a.Kind==2) then (some (a.S.size:Int))
 else some 0
def PP (N:Nat) (a:Yb) (b:Zm):Option Bool :=
 (Hw N a).bind fun c =>
 bif c then ((P7 N b).bind fun d =>
 bif d then (bif (a.Kind==b.Kind) then ((RN N b).bind fun e =>
 bif (decide (e≥a.Lo)) then ((RN N b).bind fun f =>
 some (decide (f≤a.Hi)))
 else some false)
 else some false)
 else some false)
 else some false
def Zb7:Option Bool :=
 some true
def Rb (N:Nat) (a:(List T4)) (b:(List Zm)):Nat→Int→Option Bool
 | 0,_=>none
 | c+1,d =>
 bif (decide (d < (a.length:Int))) then ((idx a d).bind fun e =>
 (idx b d).bind fun f =>
 (PP N e.Sort' f).bind fun g =>
 bif (!g) then (some false)
 else (Rb N a b c) (Zi (d+1)))
 else Zb7
def G4 (N:Nat) (a:(List T4)) (b:(List Zm)):Option Bool :=
 bif ((a.length:Int) != (b.length:Int)) then (some false)
 else Rb N a b N 0
def Hj (N:Nat) (a:T0) (b:(List Zm)):Option Bool :=
 (G4 N a.Fields b).bind fun c =>
 some c
def P5 (N:Nat) (a:(List T0)) (b:Int):Option Bool :=
 (R4 N a).bind fun c =>
 bif c then (bif (decide (b≥0)) then (some (decide (b < (a.length:Int))))
 else some false)
 else some false
def QD (a:T0) (b:(List Zm)):Option Bool :=
 some ((b.length:Int)==(a.Fields.length:Int))
def Se (N:Nat) (a:T0) (b:(List Zm)):Nat→Int→Option Bool
 | 0,_=>none
 | c+1,d =>
 bif (decide (d < (b.length:Int))) then (bif (decide (d < (a.Fields.length:Int))) then ((idx a.Fields d).bind fun e =>
 (idx b d).bind fun f =>
 (Ls N e.Sort' f).bind fun g =>
 bif (!g) then (some false)
 else (Se N a b c) (Zi (d+1)))
 else QD a b)
 else QD a b
def MI (N:Nat) (a:T0) (b:(List Zm)):Option Bool :=
 Se N a b N 0
def D8 (a:(List Zm)):Option (List Zm) :=
 some a
def RY (a:T0) (b:(List Zm)):Nat→(List Zm)→Int→Option (List Zm)
 | 0,_,_=>none
 | c+1,d,e =>
 bif (decide (e < (b.length:Int))) then ((idx b e).bind fun f =>
 (idx d (Zi (a.First+e))).bind fun g =>
 (RY a b c) (ZW d (Zi (a.First+e)) f) (Zi (e+1)))
 else D8 d
def Lb (N:Nat) (a:T0) (b:(List Zm)) (c:(List Zm)):Option (List Zm) :=
 (Z7 ([]:List Zm) c).bind fun d =>
 RY a b N d 0
def Zbe:Option Bool :=
 some true
def SI (a:T6) (b:(List Zm)):Nat→Int→Option Bool
 | 0,_=>none
 | c+1,d =>
 bif (decide (d < (a.Equals.length:Int))) then ((idx a.Equals d).bind fun e =>
 (idx b e.1).bind fun f =>
 (idx a.Equals d).bind fun g =>
 (idx b g.2).bind fun h =>
 bif (f.Kind==0) then (some false)
 else bif (h.Kind==0) then (some false)
 else bif (!(f.S.toList==h.S.toList)) then (some false)
 else (SI a b c) (Zi (d+1)))
 else Zbe
def LR (N:Nat) (a:T6) (b:(List Zm)):Option Bool :=
 SI a b N 0
def QF (a:(List Zm)) (b:Int) (c:Int→Option Bool) (d:T1) (e:Int) (f:Int):Option Bool :=
 bif (decide (d.X≥0)) then ((idx a d.X).bind fun g =>
 bif (g.Kind==0) then (some false)
 else bif (decide (d.Y≥0)) then ((idx a d.Y).bind fun h =>
 bif (h.Kind==0) then (some false)
 else bif (decide ((Zi (e-f)) > d.C)) then (some false)
 else c (Zi (b+1)))
 else bif (decide ((Zi (e-f)) > d.C)) then (some false)
 else c (Zi (b+1)))
 else bif (decide (d.Y≥0)) then ((idx a d.Y).bind fun i =>
 bif (i.Kind==0) then (some false)
 else bif (decide ((Zi (e-f)) > d.C)) then (some false)
 else c (Zi (b+1)))
 else bif (decide ((Zi (e-f)) > d.C)) then (some false)
 else c (Zi (b+1))
def PC (N:Nat) (a:(List Zm)) (b:Int) (c:Int→Option Bool) (d:T1) (e:Int):Option Bool :=
 bif (decide (d.Y≥0)) then ((idx a d.Y).bind fun f =>
 (QY N f).bind fun g =>
 QF a b c d e g)
 else QF a b c d e 0
def W9 (N:Nat) (a:T6) (b:(List Zm)):Nat→Int→Option Bool
 | 0,_=>none
 | c+1,d =>
 bif (decide (d < (a.Diffs.length:Int))) then ((idx a.Diffs d).bind fun e =>
 bif (decide (e.X≥0)) then ((idx b e.X).bind fun f =>
 (QY N f).bind fun g =>
 PC N b d (W9 N a b c) e g)
 else PC N b d (W9 N a b c) e 0)
 else LR N a b
def GG (N:Nat) (a:T6) (b:(List Zm)):Option Bool :=
 W9 N a b N 0
def MP (N:Nat) (a:(List T0)) (b:Int) (c:(List Zm)) (d:(List Zm)):Option Bool :=
 (P5 N a b).bind fun e =>
 bif (!e) then (some false)
 else (z66 N a d).bind fun f =>
 bif (!f) then (some false)
 else (idx a b).bind fun g =>
 (MI N g c).bind fun h =>
 bif (!h) then (some false)
 else (idx a b).bind fun i =>
 (idx a b).bind fun j =>
 (Lb N j c d).bind fun k =>
 (GG N i.Guard k).bind fun l =>
 some l
def HI (N:Nat) (a:(List T0)) (b:Int) (c:(List Zm)) (d:(List Zm)):Option ((List Zm) × Int) :=
 (P5 N a b).bind fun e =>
 bif (!e) then (some (([]:List Zm),1))
 else (z66 N a d).bind fun f =>
 bif (!f) then (some (([]:List Zm),1))
 else (idx a b).bind fun g =>
 (MI N g c).bind fun h =>
 bif (!h) then (some (([]:List Zm),11))
 else (idx a b).bind fun i =>
 (Lb N i c d).bind fun j =>
 some (j,0)
def U2 (N:Nat) (a:T5) (b:T8) (c:ZJ) (d:T3) (e:Int) (f:Bool):Option (ZJ × Int) :=
 bif f then (some ((⟨0,([]:List Zm),([]:List Zm)⟩:ZJ),17))
 else (idx b.Moves e).bind fun g =>
 (HI N a.Decls d.Label d.Values c.Known).bind fun h =>
 bif d.Send then ((Z7 ([]:List Zm) d.Values).bind fun i =>
 some ((⟨g.To,h.1,i⟩:ZJ),0))
 else some ((⟨g.To,h.1,([]:List Zm)⟩:ZJ),0)
def PQ (N:Nat) (a:T5) (b:T8) (c:ZJ) (d:T3):Option (ZJ × Int) :=
 (UB N a b c).bind fun e =>
 bif (!e) then (some ((⟨0,([]:List Zm),([]:List Zm)⟩:ZJ),1))
 else (Sw N b c.At d).bind fun f =>
 bif (d.Role != b.Role) then (some ((⟨0,([]:List Zm),([]:List Zm)⟩:ZJ),12))
 else bif (decide (f < 0)) then (some ((⟨0,([]:List Zm),([]:List Zm)⟩:ZJ),23))
 else (idx a.Decls d.Label).bind fun g =>
 (Hj N g d.Values).bind fun h =>
 bif (!h) then (some ((⟨0,([]:List Zm),([]:List Zm)⟩:ZJ),11))
 else (MP N a.Decls d.Label d.Values c.Known).bind fun i =>
 bif (!i) then (U2 N a b c d f true)
 else (idx b.Moves f).bind fun j =>
 bif j.Again then ((z25 N d.Values c.Pending).bind fun k =>
 U2 N a b c d f (!k))
 else U2 N a b c d f false
def BR (a:(List T3)) (b:Int) (c:(List Zm)) (d:(List Zm)):Option (ZJ × Int × Int) :=
 some ((⟨b,c,d⟩:ZJ),(a.length:Int),0)
def SS (N:Nat) (a:T5) (b:T8) (c:(List T3)):Nat→Int→(List Zm)→(List Zm)→Int→Option (ZJ × Int × Int)
 | 0,_,_,_,_=>none
 | d+1,e,f,g,h =>
 bif (decide (h < (c.length:Int))) then ((idx c h).bind fun i =>
 (PQ N a b (⟨e,f,g⟩:ZJ) i).bind fun j =>
 bif (j.2 != 0) then (some ((⟨e,f,g⟩:ZJ),h,j.2))
 else (SS N a b c d) j.1.At j.1.Known j.1.Pending (Zi (h+1)))
 else BR c e f g
def SE (N:Nat) (a:T5) (b:T8) (c:(List T3)):Option (ZJ × Int × Int) :=
 (Vc N a b).bind fun d =>
 (z51 N a b).bind fun e =>
 bif (!e) then (some ((⟨0,([]:List Zm),([]:List Zm)⟩:ZJ),0,1))
 else SS N a b c N d.At d.Known d.Pending 0
def Ba:Option Int :=
 some (-1)
def VU (N:Nat) (a:T0) (b:(List Zm)):Nat→Int→Option Int
 | 0,_=>none
 | c+1,d =>
 bif (decide (d < (b.length:Int))) then ((idx a.Fields d).bind fun e =>
 (idx b d).bind fun f =>
 (PP N e.Sort' f).bind fun g =>
 bif (!g) then (some d)
 else (VU N a b c) (Zi (d+1)))
 else Ba
def Mz (N:Nat) (a:T0) (b:(List Zm)):Option Int :=
 VU N a b N 0
def Td (N:Nat) (a:T0) (b:(List Zm)) (c:(List Zm)) (d:Int):Option (Zm × Bool) :=
 bif (decide (d < 0)) then ((z26 N 0).bind fun e =>
 some (e,true))
 else bif (decide (d≥a.First)) then (bif (decide (d < (Zi (a.First+(b.length:Int))))) then ((idx b (Zi (d-a.First))).bind fun f =>
 some (f,true))
 else (idx c d).bind fun g =>
 (idx c d).bind fun h =>
 some (g,(h.Kind != 0)))
 else (idx c d).bind fun i =>
 (idx c d).bind fun j =>
 some (i,(j.Kind != 0))
def Pn (N:Nat) (a:T0) (b:(List Zm)) (c:(List Zm)) (d:Int):Option Bool :=
 bif (decide (d≥(a.Guard.Diffs.length:Int))) then ((idx a.Guard.Equals (Zi (d-(a.Guard.Diffs.length:Int)))).bind fun e =>
 (Td N a b c e.1).bind fun f =>
 (Td N a b c e.2).bind fun g =>
 bif f.2 then (bif g.2 then (some (f.1.S.toList==g.1.S.toList))
 else some false)
 else some false)
 else (idx a.Guard.Diffs d).bind fun h =>
 (Td N a b c h.X).bind fun i =>
 (Td N a b c h.Y).bind fun j =>
 bif i.2 then (bif j.2 then ((RN N i.1).bind fun k =>
 (RN N j.1).bind fun l =>
 some (decide ((Zi (k-l))≤h.C)))
 else some false)
 else some false
def Zca:Option Int :=
 some (-1)
def Uk (N:Nat) (a:T0) (b:(List Zm)) (c:(List Zm)):Nat→Int→Option Int
 | 0,_=>none
 | d+1,e =>
 (Vr N a).bind fun f =>
 bif (decide (e < f)) then ((Pn N a b c e).bind fun g =>
 bif (!g) then (some e)
 else (Uk N a b c d) (Zi (e+1)))
 else Zca
def M4 (N:Nat) (a:T0) (b:(List Zm)) (c:(List Zm)):Option Int :=
 Uk N a b c N 0
def GY:Option Int :=
 some 0
def S6 (a:(List Zm)) (b:(List Zm)):Nat→Int→Option Int
 | 0,_=>none
 | c+1,d =>
 bif (decide (d < (a.length:Int))) then (bif (decide (d < (b.length:Int))) then ((idx a d).bind fun e =>
 (idx b d).bind fun f =>
 bif (!((e.Kind==f.Kind) && ((e.N==f.N) && ((e.S.toList==f.S.toList) && true)))) then (some d)
 else (S6 a b c) (Zi (d+1)))
 else GY)
 else GY
def Zcn (N:Nat) (a:(List Zm)) (b:(List Zm)):Option Int :=
 S6 a b N 0
def Q9 (N:Nat) (a:T5) (b:T8) (c:ZJ × Int × Int) (d:T3) (e:Int):Option (Xu × Bool × Int) :=
 bif (d.Role != b.Role) then (some ((⟨c.2.1,1,0,d.Role⟩:Xu),true,0))
 else (Sw N b c.1.At d).bind fun f =>
 bif (decide (f < 0)) then (some ((⟨c.2.1,2,0,e⟩:Xu),true,0))
 else (idx a.Decls d.Label).bind fun g =>
 bif ((d.Values.length:Int) != (g.Fields.length:Int)) then (some ((⟨c.2.1,3,0,e⟩:Xu),true,0))
 else (Mz N g d.Values).bind fun h =>
 bif (decide (h≥0)) then ((Mz N g d.Values).bind fun i =>
 some ((⟨c.2.1,4,i,e⟩:Xu),true,0))
 else (M4 N g d.Values c.1.Known).bind fun j =>
 bif (decide (j≥0)) then ((M4 N g d.Values c.1.Known).bind fun k =>
 some ((⟨c.2.1,5,k,e⟩:Xu),true,0))
 else (Zcn N d.Values c.1.Pending).bind fun l =>
 some ((⟨c.2.1,6,l,e⟩:Xu),true,0)
def QC (N:Nat) (a:T5) (b:T8) (c:(List T3)):Option (Xu × Bool × Int) :=
 (SE N a b c).bind fun d =>
 bif (d.2.2==1) then (some ((⟨0,0,0,0⟩:Xu),false,1))
 else bif (d.2.2==0) then (some ((⟨0,0,0,0⟩:Xu),false,0))
 else (idx c d.2.1).bind fun e =>
 bif (!e.Send) then (Q9 N a b d e e.Peer)
 else Q9 N a b d e b.Role
def HA (N:Nat) (a:T5) (b:Int):Option ByteArray :=
 bif (decide (b < 0)) then (some (str [63]))
 else bif (decide (b≥(a.Decls.length:Int))) then (some (str [63]))
 else (idx a.Decls b).bind fun c =>
 some c.Name
def HN (N:Nat) (rc:Int→Option ByteArray) (a:Int):Option ByteArray :=
 bif (decide (a < (-9))) then ((rc (Zi (a.tdiv 10))).bind fun b =>
 (Zv b (Utf8.encode (wk .i32 ((Zi (48-(a.tmod 10))))))).bind fun c =>
 some c)
 else bif (decide (a < 0)) then ((Zv (str [45]) (Utf8.encode (wk .i32 ((Zi (48-a)))))).bind fun d =>
 some d)
 else bif (decide (a < 10)) then (some (Utf8.encode (wk .i32 ((Zi (48+a))))))
 else (rc (Zi (a.tdiv 10))).bind fun e =>
 (Zv e (Utf8.encode (wk .i32 ((Zi (48+(a.tmod 10))))))).bind fun f =>
 some f
def UM:Nat→Int→Option ByteArray
 | 0,_=>none
 | N+1,a0=>HN N (UM N) a0
def ZaX (N:Nat) (a:Int):Option ByteArray:=UM N a
def Ge (a:ByteArray):Option ByteArray :=
 (Zv a (str [34])).bind fun b =>
 some b
def Pg (a:Zm) (b:ByteArray) (c:Int) (d:ByteArray→Int→Option ByteArray) (e:Bool):Option ByteArray :=
 bif e then ((Zv b (str [92])).bind fun f =>
 (ssl a.S (some c) (some (Zi (c+1)))).bind fun g =>
 (Zv f g).bind fun h =>
 d h (Zi (c+1)))
 else (ssl a.S (some c) (some (Zi (c+1)))).bind fun i =>
 (Zv b i).bind fun j =>
 d j (Zi (c+1))
def Ua (a:Zm):Nat→ByteArray→Int→Option ByteArray
 | 0,_,_=>none
 | b+1,c,d =>
 bif (decide (d < (a.S.size:Int))) then ((YR a.S d).bind fun e =>
 bif (e==34) then (Pg a c d (Ua a b) true)
 else (YR a.S d).bind fun f =>
 Pg a c d (Ua a b) (f==92))
 else Ge c
def RE (N:Nat) (a:Zm):Option ByteArray :=
 (P7 N a).bind fun b =>
 bif (!b) then (some (str [63]))
 else bif (a.Kind==1) then ((ZaX N a.N).bind fun c =>
 some c)
 else Ua a N (str [34]) 0
def Ga (a:ByteArray):Option ByteArray :=
 (Zv a (str [41])).bind fun b =>
 some b
def UU (N:Nat) (a:(List Zm)):Nat→ByteArray→Int→Option ByteArray
 | 0,_,_=>none
 | b+1,c,d =>
 bif (decide (d < (a.length:Int))) then (bif (decide (d > 0)) then ((Zv c (str [44,32])).bind fun e =>
 (idx a d).bind fun f =>
 (RE N f).bind fun g =>
 (Zv e g).bind fun h =>
 (UU N a b) h (Zi (d+1)))
 else (idx a d).bind fun i =>
 (RE N i).bind fun j =>
 (Zv c j).bind fun k =>
 (UU N a b) k (Zi (d+1)))
 else Ga c
def z164 (N:Nat) (a:(List Zm)):Option ByteArray :=
 UU N a N (str [40]) 0
def Sq (N:Nat) (a:T5) (b:Int):Option ByteArray :=
 bif (decide (b < 0)) then (some (str [63]))
 else bif (decide (b≥(a.Roles.length:Int))) then (some (str [63]))
 else (idx a.Roles b).bind fun c =>
 some c
def GJ (N:Nat) (a:T5) (b:T3):Option ByteArray :=
 (HA N a b.Label).bind fun c =>
 (z164 N b.Values).bind fun d =>
 (Zv c d).bind fun e =>
 bif b.Send then ((Sq N a b.Role).bind fun f =>
 (Zv f (str [32,115,101,110,100,115,32])).bind fun g =>
 (Zv g e).bind fun h =>
 (Zv h (str [32,116,111,32])).bind fun i =>
 (Sq N a b.Peer).bind fun j =>
 (Zv i j).bind fun k =>
 some k)
 else (Sq N a b.Role).bind fun l =>
 (Zv l (str [32,103,101,116,115,32])).bind fun m =>
 (Zv m e).bind fun o =>
 (Zv o (str [32,102,114,111,109,32])).bind fun p =>
 (Sq N a b.Peer).bind fun q =>
 (Zv p q).bind fun r =>
 some r
def z45 (N:Nat) (a:T5) (b:T8) (c:(List T3)):Option (ByteArray × Int) :=
 (QC N a b c).bind fun d =>
 bif (!d.2.1) then (some ((str []),d.2.2))
 else (idx c d.1.At).bind fun e =>
 (GJ N a e).bind fun f =>
 (Zv f (str [32])).bind fun g =>
 bif (d.1.Kind==1) then ((Zv g (str [105,115,32,110,111,116,32,97,110,32,101,118,101,110,116,32,111,102,32])).bind fun h =>
 (Sq N a b.Role).bind fun i =>
 (Zv h i).bind fun j =>
 some (j,0))
 else bif (d.1.Kind==2) then ((Zv g (str [105,115,32,110,111,116,32,112,101,114,109,105,116,116,101,100,32,104,101,114,101])).bind fun k =>
 some (k,0))
 else bif (d.1.Kind==3) then ((Zv g (str [104,97,115,32])).bind fun l =>
 (Xd N (e.Values.length:Int)).bind fun m =>
 (Zv l m).bind fun o =>
 (Zv o (str [32,118,97,108,117,101,115,32,105,110,115,116,101,97,100,32,111,102,32])).bind fun p =>
 (idx a.Decls e.Label).bind fun q =>
 (Xd N (q.Fields.length:Int)).bind fun r =>
 (Zv p r).bind fun s =>
 some (s,0))
 else bif (d.1.Kind==4) then ((idx a.Decls e.Label).bind fun t =>
 (idx t.Fields d.1.Part).bind fun u =>
 (Zv g (str [104,97,115,32,116,104,101,32,118,97,108,117,101,32])).bind fun v =>
 (idx e.Values d.1.Part).bind fun w =>
 (RE N w).bind fun x =>
 (Zv v x).bind fun y =>
 (Zv y (str [32,102,111,114,32])).bind fun z =>
 (Zv z u.Name).bind fun A =>
 (Zv A (str [44,32,119,104,105,99,104,32,105,115,32,110,111,116,32,102,114,111,109,32])).bind fun B =>
 (Xd N u.Sort'.Lo).bind fun C =>
 (Zv B C).bind fun D =>
 (Zv D (str [32,116,111,32])).bind fun E =>
 (Xd N u.Sort'.Hi).bind fun F =>
 (Zv E F).bind fun G =>
 some (G,0))
 else bif (d.1.Kind==5) then ((Zv g (str [100,111,101,115,32,110,111,116,32,107,101,101,112,32,116,104,101,32,103,117,97,114,100,32])).bind fun H =>
 (VG N a.Decls e.Label d.1.Part).bind fun I =>
 (Zv H I).bind fun J =>
 some (J,0))
 else (Zv g (str [100,111,101,115,32,110,111,116,32,104,97,118,101,32,116,104,101,32,115,97,109,101,32,118,97,108,117,101,115,32,97,115,32,116,104,101,32,109,101,115,115,97,103,101,32,97,104,101,97,100])).bind fun K =>
 some (K,0)
def GC (a:ByteArray):Option (ByteArray × Int) :=
 some (a,0)
def Uw (a:(List ByteArray)):Nat→ByteArray→Int→Option (ByteArray × Int)
 | 0,_,_=>none
 | b+1,c,d =>
 bif (decide (d < (a.length:Int))) then (bif (decide (d > 0)) then ((Zv c (str [59,32])).bind fun e =>
 (idx a d).bind fun f =>
 (Zv e f).bind fun g =>
 (Uw a b) g (Zi (d+1)))
 else (idx a d).bind fun h =>
 (Zv c h).bind fun i =>
 (Uw a b) i (Zi (d+1)))
 else GC c
def QR (N:Nat) (a:ByteArray × Int) (b:(List ByteArray)):Option (ByteArray × Int) :=
 (Zv a.1 (str [59,32,112,101,114,109,105,116,116,101,100,58,32])).bind fun c =>
 Uw b N c 0
def Tj (N:Nat) (a:T5) (b:T8) (c:(List T3)) (d:T3):Option (ByteArray × Int) :=
 (SE N a b c).bind fun e =>
 bif (e.2.2==1) then (some ((str []),1))
 else bif (e.2.2 != 0) then (some ((str []),7))
 else (Z7 ([]:List T3) c).bind fun f =>
 (Z7 f ([d]:List T3)).bind fun g =>
 (z45 N a b g).bind fun h =>
 bif (h.1.toList==(str []).toList) then (some ((str []),0))
 else (TT N a b e.1.At).bind fun i =>
 bif ((i.1.length:Int)==0) then (QR N h ([(str [110,111,116,104,105,110,103])]:List ByteArray))
 else QR N h i.1
def TJ (N:Nat) (a:T5) (b:T8) (c:(List T3)):Option Bool :=
 (z8 N).bind fun d =>
 bif (!d) then (some false)
 else (z9 N a b c).bind fun e =>
 bif (!e) then (some true)
 else bif ((c.length:Int)==0) then (some true)
 else (lsl c none (some (Zi ((c.length:Int)-1)))).bind fun f =>
 (idx c (Zi ((c.length:Int)-1))).bind fun g =>
 (UA N a b f g).bind fun h =>
 (lsl c none (some (Zi ((c.length:Int)-1)))).bind fun i =>
 (idx c (Zi ((c.length:Int)-1))).bind fun j =>
 (Tj N a b i j).bind fun k =>
 (X6 N a b c).bind fun l =>
 bif (h.1.toList==k.1.toList) then (bif (h.2==k.2) then (bif (h.2==0) then (some ((h.1.toList==(str []).toList)==(l.2.2==0)))
 else some (false==(l.2.2==0)))
 else some false)
 else some false
end Gx
end
