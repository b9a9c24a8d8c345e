/- What each function of the statement computes, as plain definitions. -/
import Derived.Test.YtopoacpklgcfnaaGreatDoorExplainParsedCore4
set_option linter.all false
section
open Go Go.Kx
namespace Gx
def digN:Nat→Nat→List UInt8
 | 0,_=>[]
 | f+1,u=>bif Nat.blt u 10 then [UInt8.ofNat (48+u)] else digN f (u / 10)++[UInt8.ofNat (48+u % 10)]
def itoaS (n:Int):ByteArray:=⟨(bif decide (n < 0) then 45::digN 25 n.natAbs else digN 25 n.toNat).toArray⟩
def joinL (sep:List UInt8):List (List UInt8)→List UInt8
 | []=>[]
 | x::r=>x++(r.map (sep++·)).flatten
def quoB (b:UInt8):List UInt8:=if b=34∨b=92 then [92,b] else [b]
def quoL (l:List UInt8):List UInt8:=(l.map quoB).flatten
structure T10 where
  Kind:Int
  Lo:Int
  Hi:Int
structure T4 where
  Name:ByteArray
  Sort':T10
structure T1 where
  X:Int
  Y:Int
  C:Int
structure T6 where
  Diffs:(List T1)
  Equals:(List (Int × Int))
structure T0 where
  Name:ByteArray
  Fields:(List T4)
  First:Int
  Guard:T6
structure T7 where
  From:Int
  To:Int
  Label:Int
structure T2 where
  From:Int
  Act:T7
  To:Int
  Again:Bool
structure T9 where
  From:Int
  Send:Bool
  Peer:Int
  Label:Int
  To:Int
  Again:Bool
structure T11 where
  State:Int
  Ticks:Int
  Else:Int
structure T5 where
  Name:ByteArray
  Roles:(List ByteArray)
  Decls:(List T0)
  States:Int
  Start:Int
  End:Int
  Edges:(List T2)
  Timeouts:(List T11)
structure T8 where
  Role:Int
  States:Int
  Start:Int
  Finals:(List Bool)
  Moves:(List T9)
  Timeouts:(List T11)
structure T12 where
  Kind:Int
  N:Int
  S:ByteArray
structure T18 where
  At:Int
  Known:(List T12)
  Pending:(List T12)
structure T17 where
  Machine:T8
  out':(List (List Int))
structure T16 where
  send':Bool
  peer':Int
  label':Int
structure T3 where
  Role:Int
  Send:Bool
  Peer:Int
  Label:Int
  Values:(List T12)
structure T13 where
  At:Int
  Kind:Int
  Part:Int
  Role:Int
structure T26 where
  N:Int
  B:(List Int)
structure T23 where
  Kind:Int
  Message:ByteArray
  Field:ByteArray
  N:Int
structure T19 where
  Left:T23
  Op:ByteArray
  Right:T23
structure T21 where
  Name:ByteArray
  Fields:(List T4)
  Where:(List T19)
structure T20 where
  Kind:Int
  From:ByteArray
  To:(List ByteArray)
  Name:ByteArray
  As:ByteArray
  Ticks:Int
  Blocks:(List (List T20))
structure T22 where
  Name:ByteArray
  Roles:(List ByteArray)
  Messages:(List T21)
  Body:(List T20)
structure T14 where
  Kind:Int
  Text:ByteArray
  Value:Int
  From:Int
structure T15 where
  s':ByteArray
  at':Int
structure T24 where
  l':(List T14)
  n':Int
  end':Int
  at':Int
  err':Int
structure T25 where
  Builder:ByteArray
  depth':Int
def z56 (N:Nat) (a:Int):Option Bool :=
 bif (decide (97≤a)) then (bif (decide (a≤122)) then (some true)
 else bif (decide (65≤a)) then (some (decide (a≤90)))
 else some false)
 else bif (decide (65≤a)) then (some (decide (a≤90)))
 else some false
def z58 (N:Nat) (a:Int):Option Bool :=
 bif (decide (48≤a)) then (some (decide (a≤57)))
 else some false
def z116 (N:Nat) (a:Int):Option Bool :=
 (z56 N a).bind fun b =>
 bif b then (some true)
 else (z58 N a).bind fun c =>
 bif c then (some true)
 else some (a==95)
def z125_k1:Option Bool :=
 some true
def z125_l2 (N:Nat) (a:ByteArray):Nat→Int→Option Bool
 | 0,_=>none
 | b+1,c =>
 bif (decide (c < (a.size:Int))) then ((sidx a c).bind fun d =>
 (z116 N d).bind fun e =>
 bif (!e) then (some false)
 else (z125_l2 N a b) (w64 (c+1)))
 else z125_k1
def z125 (N:Nat) (a:ByteArray):Option Bool :=
 bif (a.toList==(str []).toList) then (some false)
 else bif (decide ((a.size:Int) > 16)) then (some false)
 else (sidx a 0).bind fun b =>
 (z56 N b).bind fun c =>
 bif (!c) then (some false)
 else z125_l2 N a N 0
def z186_k1:Option Int :=
 some (-1)
def z186_l2 (a:(List ByteArray)) (b:ByteArray):Nat→Int→Option Int
 | 0,_=>none
 | c+1,d =>
 bif (decide (d < (a.length:Int))) then ((idx a d).bind fun e =>
 bif (b.toList==e.toList) then (some d)
 else (z186_l2 a b c) (w64 (d+1)))
 else z186_k1
def z186 (N:Nat) (a:(List ByteArray)) (b:ByteArray):Option Int :=
 z186_l2 a b N 0
def z123 (N:Nat) (a:(List ByteArray)) (b:ByteArray):Option Bool :=
 (z186 N a b).bind fun c =>
 some (decide (c≥0))
def z67 (N:Nat) (a:ByteArray):Option Bool :=
 (z125 N a).bind fun b =>
 bif b then ((z123 N ([(str [97,103,97,105,110]),(str [97,110,100]),(str [97,115]),(str [97,116]),(str [99,97,108,108]),(str [99,104,111,105,99,101]),(str [101,108,115,101]),(str [102,114,111,109]),(str [105,102]),(str [105,110,116]),(str [108,101,110]),(str [108,111,111,112]),(str [109,101,115,115,97,103,101]),(str [111,102]),(str [111,102,102,101,114]),(str [111,110]),(str [111,114]),(str [112,97,114]),(str [112,108,97,121,115]),(str [112,114,111,116,111,99,111,108]),(str [115,101,114,118,105,99,101]),(str [116,101,120,116]),(str [116,105,109,101,115]),(str [116,111]),(str [118,97,114]),(str [119,104,101,114,101]),(str [119,104,105,108,101]),(str [119,105,116,104,105,110])]:List ByteArray) a).bind fun c =>
 some (!c))
 else some false
def z164_k1:Option Bool :=
 some true
def z164_l2 (N:Nat) (a:T5):Nat→Int→Option Bool
 | 0,_=>none
 | b+1,c =>
 bif (decide (c < (a.Roles.length:Int))) then ((idx a.Roles c).bind fun d =>
 (z67 N d).bind fun e =>
 bif (!e) then (some false)
 else (lsl a.Roles none (some c)).bind fun f =>
 (z123 N f d).bind fun g =>
 bif g then (some false)
 else (z164_l2 N a b) (w64 (c+1)))
 else z164_k1
def z164 (N:Nat) (a:T5):Option Bool :=
 (z67 N a.Name).bind fun b =>
 bif (!b) then (some false)
 else bif (decide ((a.Roles.length:Int) < 1)) then (some false)
 else bif (decide ((a.Roles.length:Int) > 6)) then (some false)
 else z164_l2 N a N 0
def z165_k1:Option Bool :=
 some true
def z165_l2 (a:T5):Nat→Int→Option Bool
 | 0,_=>none
 | b+1,c =>
 bif (decide (c < (a.Edges.length:Int))) then ((idx a.Edges c).bind fun d =>
 bif (decide ((minI (minI (minI (minI d.From d.To) d.Act.From) d.Act.To) d.Act.Label) < 0)) then (some false)
 else bif (decide ((maxI d.From d.To)≥a.States)) then (some false)
 else bif (decide ((maxI d.Act.From d.Act.To)≥(a.Roles.length:Int))) then (some false)
 else bif (d.Act.From==d.Act.To) then (some false)
 else bif (decide (d.Act.Label≥(a.Decls.length:Int))) then (some false)
 else (z165_l2 a b) (w64 (c+1)))
 else z165_k1
def z165 (N:Nat) (a:T5):Option Bool :=
 bif (decide (a.States < 1)) then (some false)
 else bif (decide (a.States > 200)) then (some false)
 else bif (decide ((minI a.Start a.End) < 0)) then (some false)
 else bif (decide ((maxI a.Start a.End)≥a.States)) then (some false)
 else bif (decide ((a.Edges.length:Int) > 400)) then (some false)
 else z165_l2 a N 0
def z98_k1 (a:(List T4)):Option (List T4) :=
 some a
def z98_l2 (a:(List T0)):Nat→(List T4)→Int→Option (List T4)
 | 0,_,_=>none
 | b+1,c,d =>
 bif (decide (d < (a.length:Int))) then ((idx a d).bind fun e =>
 (appL c e.Fields).bind fun f =>
 (z98_l2 a b) f (w64 (d+1)))
 else z98_k1 c
def z98 (N:Nat) (a:(List T0)):Option (List T4) :=
 z98_l2 a N ([]:List T4) 0
def z256_k1 (a:Int) (b:Nat):Option Int :=
 some a
def z256_l2 (a:ByteArray):Nat→Int→Nat→Option Int
 | 0,_,_=>none
 | b+1,c,d =>
 bif decide (d < a.size) then ((z256_l2 a b) (w64 (c+1)) (d+(Utf8.decode a d).2))
 else z256_k1 c d
def z256 (N:Nat) (a:ByteArray):Option Int :=
 z256_l2 a N 0 (0:Nat)
def z267 (N:Nat) (a:ByteArray):Option (Int × Int) :=
 bif (decide ((a.size:Int) < 1)) then (some (65533,0))
 else (sidx a 0).bind fun b =>
 dead 0
def z257 (N:Nat) (a:ByteArray):Option (Int × Int) :=
 bif (!(a.toList==(str []).toList)) then ((sidx a 0).bind fun b =>
 bif (decide (b < 128)) then ((sidx a 0).bind fun c =>
 some ((wk .i32 (c)),1))
 else (z267 N a).bind fun d =>
 some (d.1,d.2))
 else (z267 N a).bind fun e =>
 some (e.1,e.2)
def z235_k1 (a:Int) (b:ByteArray) (c:(List ByteArray)):Option (List ByteArray) :=
 bif (decide (a > 0)) then ((idx c (w64 (a-1))).bind fun d =>
 some (setL' c (w64 (a-1)) b))
 else some c
def z235_l2 (N:Nat) (a:Int):Nat→ByteArray→(List ByteArray)→Int→Option (List ByteArray)
 | 0,_,_,_=>none
 | b+1,c,d,e =>
 bif (decide (e < (w64 (a-1)))) then ((z257 N c).bind fun f =>
 (ssl c none (some f.2)).bind fun g =>
 (idx d e).bind fun h =>
 (ssl c (some f.2) none).bind fun i =>
 (z235_l2 N a b) i (setL' d e g) (w64 (e+1)))
 else z235_k1 a c d
def z235_k3 (N:Nat) (a:ByteArray) (b:Int):Option (List ByteArray) :=
 (mkL (str []) b b).bind fun c =>
 z235_l2 N b N a c 0
def z235_k4 (N:Nat) (a:ByteArray) (b:Int) (c:Int) (d:Bool):Option (List ByteArray) :=
 bif d then (z235_k3 N a c)
 else z235_k3 N a b
def z235 (N:Nat) (a:ByteArray) (b:Int):Option (List ByteArray) :=
 (z256 N a).bind fun c =>
 bif (decide (b < 0)) then (z235_k4 N a b c true)
 else z235_k4 N a b c (decide (b > c))
def z181 (N:Nat) (a:ByteArray) (b:Int):Option Int :=
 some (firstB a b)
def z225 (N:Nat) (a:ByteArray) (b:ByteArray):Option Int :=
 bif ((b.size:Int)==0) then (some 0)
 else bif (b.toList==a.toList) then (some 0)
 else bif ((b.size:Int)==1) then ((sidx b 0).bind fun c =>
 (z181 N a c).bind fun d =>
 some d)
 else bif (decide ((b.size:Int)≥(a.size:Int))) then (some (-1))
 else dead 0
def z182 (N:Nat) (a:ByteArray) (b:ByteArray):Option Int :=
 (z225 N a b).bind fun c =>
 some c
def z236_l1 (N:Nat) (a:ByteArray):Nat→ByteArray→Int→Option Int
 | 0,_,_=>none
 | b+1,c,d =>
 (z182 N c a).bind fun e =>
 bif (e==(-1)) then (some d)
 else (ssl c (some (w64 (e+(a.size:Int)))) none).bind fun f =>
 (z236_l1 N a b) f (w64 (d+1))
def z236 (N:Nat) (a:ByteArray) (b:ByteArray):Option Int :=
 bif ((b.size:Int)==0) then ((z256 N a).bind fun c =>
 some (w64 (c+1)))
 else bif ((b.size:Int)==1) then ((sidx b 0).bind fun d =>
 some (countB a d))
 else z236_l1 N b N a 0
def z216_k1 (a:ByteArray) (b:(List ByteArray)) (c:Int):Option (List ByteArray) :=
 (idx b c).bind fun d =>
 (lsl (setL' b c a) none (some (w64 (c+1)))).bind fun e =>
 some e
def z216_l2 (N:Nat) (a:ByteArray) (b:ByteArray) (c:Int) (d:Int):Nat→ByteArray→(List ByteArray)→Int→Option (List ByteArray)
 | 0,_,_,_=>none
 | e+1,f,g,h =>
 bif (decide (h < (w64 ((minI d (w64 ((a.size:Int)+1)))-1)))) then ((z182 N f b).bind fun i =>
 bif (decide (i < 0)) then (z216_k1 f g h)
 else (ssl f none (some (w64 (i+c)))).bind fun j =>
 (idx g h).bind fun k =>
 (ssl f (some (w64 (i+(b.size:Int)))) none).bind fun l =>
 (z216_l2 N a b c d e) l (setL' g h j) (w64 (h+1)))
 else z216_k1 f g h
def z216_k3 (N:Nat) (a:ByteArray) (b:ByteArray) (c:Int) (d:Int):Option (List ByteArray) :=
 (mkL (str []) (minI d (w64 ((a.size:Int)+1))) (minI d (w64 ((a.size:Int)+1)))).bind fun e =>
 z216_l2 N a b c d N a e 0
def z216 (N:Nat) (a:ByteArray) (b:ByteArray) (c:Int) (d:Int):Option (List ByteArray) :=
 bif (d==0) then (some ([]:List ByteArray))
 else bif (b.toList==(str []).toList) then ((z235 N a d).bind fun e =>
 some e)
 else bif (decide (d < 0)) then ((z236 N a b).bind fun f =>
 z216_k3 N a b c (w64 (f+1)))
 else z216_k3 N a b c d
def z172 (N:Nat) (a:ByteArray) (b:ByteArray):Option (List ByteArray) :=
 (z216 N a b 0 (-1)).bind fun c =>
 some c
def z173 (N:Nat) (a:ByteArray):Option Bool :=
 (z67 N a).bind fun b =>
 some (!b)
def z189_0_k1:Option Int :=
 some (-1)
def z189_0_l2 (N:Nat) (a:(List ByteArray)):Nat→Int→Option Int
 | 0,_=>none
 | b+1,c =>
 bif (decide (c < (a.length:Int))) then ((idx a c).bind fun d =>
 (z173 N d).bind fun e =>
 bif e then (some c)
 else (z189_0_l2 N a b) (w64 (c+1)))
 else z189_0_k1
def z189_0 (N:Nat) (a:(List ByteArray)):Option Int :=
 z189_0_l2 N a N 0
def z126_1 (N:Nat) (a:(List ByteArray)):Option Bool :=
 (z189_0 N a).bind fun b =>
 some (decide (b≥0))
def z99 (N:Nat) (a:ByteArray):Option Bool :=
 bif (decide ((a.size:Int)≤50)) then ((z172 N a (str [46])).bind fun b =>
 (z126_1 N b).bind fun c =>
 some (!c))
 else some false
def z101_2 (N:Nat) (a:T0) (b:T0):Option Bool :=
 some (a.Name.toList==b.Name.toList)
def z174_3_k1:Option Int :=
 some (-1)
def z174_3_l2 (N:Nat) (a:(List T0)) (b:T0):Nat→Int→Option Int
 | 0,_=>none
 | c+1,d =>
 bif (decide (d < (a.length:Int))) then ((idx a d).bind fun e =>
 (z101_2 N e b).bind fun f =>
 bif f then (some d)
 else (z174_3_l2 N a b c) (w64 (d+1)))
 else z174_3_k1
def z174_3 (N:Nat) (a:(List T0)) (b:T0):Option Int :=
 z174_3_l2 N a b N 0
def z100_4 (N:Nat) (a:(List T0)) (b:T0):Option Bool :=
 (z174_3 N a b).bind fun c =>
 some (decide (c≥0))
def z102 (N:Nat) (a:T10):Option Bool :=
 bif (a.Kind==1) then (bif (decide (a.Lo≥(-1000))) then (bif (decide (a.Lo≤a.Hi)) then (some (decide (a.Hi≤1000)))
 else some false)
 else some false)
 else bif (a.Kind==2) then (bif (decide (a.Lo≥0)) then (bif (decide (a.Lo≤a.Hi)) then (some (decide (a.Hi≤40)))
 else some false)
 else some false)
 else some false
def z104_5 (N:Nat) (a:T4) (b:T4):Option Bool :=
 some (a.Name.toList==b.Name.toList)
def z175_6_k1:Option Int :=
 some (-1)
def z175_6_l2 (N:Nat) (a:(List T4)) (b:T4):Nat→Int→Option Int
 | 0,_=>none
 | c+1,d =>
 bif (decide (d < (a.length:Int))) then ((idx a d).bind fun e =>
 (z104_5 N e b).bind fun f =>
 bif f then (some d)
 else (z175_6_l2 N a b c) (w64 (d+1)))
 else z175_6_k1
def z175_6 (N:Nat) (a:(List T4)) (b:T4):Option Int :=
 z175_6_l2 N a b N 0
def z103_7 (N:Nat) (a:(List T4)) (b:T4):Option Bool :=
 (z175_6 N a b).bind fun c =>
 some (decide (c≥0))
def z105_k1:Option Bool :=
 some true
def z105_k3 (a:Int) (b:Int→Option Bool):Option Bool :=
 b (w64 (a+1))
def z105_l4 (a:(List T4)) (b:Int) (c:Int→Option Bool) (d:(Int × Int)):Nat→Int→Option Bool
 | 0,_=>none
 | e+1,f =>
 bif (decide (f < 2)) then ((idx ([d.1,d.2]:List Int) f).bind fun g =>
 bif (decide (g < 0)) then (some false)
 else bif (decide (g≥(a.length:Int))) then (some false)
 else (idx a g).bind fun h =>
 bif (h.Sort'.Kind != 2) then (some false)
 else (z105_l4 a b c d e) (w64 (f+1)))
 else z105_k3 b c
def z105_l2 (N:Nat) (a:T6) (b:(List T4)):Nat→Int→Option Bool
 | 0,_=>none
 | c+1,d =>
 bif (decide (d < (a.Equals.length:Int))) then ((idx a.Equals d).bind fun e =>
 z105_l4 b d (z105_l2 N a b c) e N 0)
 else z105_k1
def z105_k5 (N:Nat) (a:T6) (b:(List T4)):Option Bool :=
 z105_l2 N a b N 0
def z105_l6 (N:Nat) (a:T6) (b:(List T4)):Nat→Int→Option Bool
 | 0,_=>none
 | c+1,d =>
 bif (decide (d < (a.Diffs.length:Int))) then ((idx a.Diffs d).bind fun e =>
 bif (decide ((minI e.X e.Y) < (-1))) then (some false)
 else bif (decide ((maxI e.X e.Y)≥(b.length:Int))) then (some false)
 else bif (decide (e.C < (-20000))) then (some false)
 else bif (decide (e.C > 20000)) then (some false)
 else (z105_l6 N a b c) (w64 (d+1)))
 else z105_k5 N a b
def z105 (N:Nat) (a:T6) (b:(List T4)):Option Bool :=
 bif (decide ((a.Diffs.length:Int) > 20)) then (some false)
 else bif (decide ((a.Equals.length:Int) > 20)) then (some false)
 else z105_l6 N a b N 0
def z46_k1:Option Bool :=
 some true
def z46_k3 (N:Nat) (a:(List T4)) (b:Int) (c:Int) (d:Int→Int→Option Bool) (e:T0):Option Bool :=
 (z105 N e.Guard a).bind fun f =>
 bif (!f) then (some false)
 else d (w64 (b+(e.Fields.length:Int))) (w64 (c+1))
def z46_l4 (N:Nat) (a:(List T4)) (b:Int) (c:Int) (d:Int→Int→Option Bool) (e:T0):Nat→Int→Option Bool
 | 0,_=>none
 | f+1,g =>
 bif (decide (g < (e.Fields.length:Int))) then ((idx e.Fields g).bind fun h =>
 (z67 N h.Name).bind fun i =>
 bif (!i) then (some false)
 else (z102 N h.Sort').bind fun j =>
 bif (!j) then (some false)
 else (lsl e.Fields none (some g)).bind fun k =>
 (z103_7 N k h).bind fun l =>
 bif l then (some false)
 else (z46_l4 N a b c d e f) (w64 (g+1)))
 else z46_k3 N a b c d e
def z46_l2 (N:Nat) (a:(List T0)) (b:(List T4)):Nat→Int→Int→Option Bool
 | 0,_,_=>none
 | c+1,d,e =>
 bif (decide (e < (a.length:Int))) then ((idx a e).bind fun f =>
 (z99 N f.Name).bind fun g =>
 bif (!g) then (some false)
 else bif (decide ((f.Fields.length:Int) > 4)) then (some false)
 else bif (f.First != d) then (some false)
 else (lsl a none (some e)).bind fun h =>
 (z100_4 N h f).bind fun i =>
 bif i then (some false)
 else z46_l4 N b d e (z46_l2 N a b c) f N 0)
 else z46_k1
def z46 (N:Nat) (a:(List T0)):Option Bool :=
 bif (decide ((a.length:Int) > 40)) then (some false)
 else (z98 N a).bind fun b =>
 bif (decide ((b.length:Int) > 24)) then (some false)
 else z46_l2 N a b N 0 0
def z47_k1 (a:(List T1)):Option (List T1) :=
 some a
def z47_l2 (a:T0):Nat→(List T1)→Int→Option (List T1)
 | 0,_,_=>none
 | b+1,c,d =>
 bif (decide (d < (a.Guard.Equals.length:Int))) then ((idx a.Guard.Equals d).bind fun e =>
 (appL c ([(⟨e.1,e.2,0⟩:T1),(⟨e.2,e.1,0⟩:T1)]:List T1)).bind fun f =>
 (z47_l2 a b) f (w64 (d+1)))
 else z47_k1 c
def z47_k3 (N:Nat) (a:T0) (b:(List T1)):Option (List T1) :=
 (appL b a.Guard.Diffs).bind fun c =>
 z47_l2 a N c 0
def z47_l4 (N:Nat) (a:T0):Nat→(List T1)→Int→Option (List T1)
 | 0,_,_=>none
 | b+1,c,d =>
 bif (decide (d < (a.Fields.length:Int))) then ((idx a.Fields d).bind fun e =>
 (appL c ([(⟨(w64 (a.First+d)),(-1),e.Sort'.Hi⟩:T1),(⟨(-1),(w64 (a.First+d)),(w64 (0-e.Sort'.Lo))⟩:T1)]:List T1)).bind fun f =>
 (z47_l4 N a b) f (w64 (d+1)))
 else z47_k3 N a c
def z47 (N:Nat) (a:T0):Option (List T1) :=
 z47_l4 N a N ([]:List T1) 0
def z22 (N:Nat) (a:(List T0)) (b:Int):Option ((List T1) × Int) :=
 bif (decide (b < 0)) then (some (([]:List T1),1))
 else bif (decide (b≥(a.length:Int))) then (some (([]:List T1),1))
 else (z46 N a).bind fun c =>
 bif (!c) then (some (([]:List T1),1))
 else (idx a b).bind fun d =>
 (z47 N d).bind fun e =>
 some (e,0)
def z166 (N:Nat) (a:(List T0)):Option Bool :=
 bif ((a.length:Int)==0) then (some true)
 else (z22 N a 0).bind fun b =>
 some (b.2==0)
def z167_k1:Option Bool :=
 some true
def z167_k3 (a:Int) (b:Int→Option Bool):Option Bool :=
 b (w64 (a+1))
def z167_k5 (a:T2) (b:Int) (c:Int→Option Bool) (d:T2) (e:Bool):Option Bool :=
 bif e then (some false)
 else bif a.Again then (bif (d.To==a.From) then (bif (a.Act.From != d.Act.From) then (some false)
 else bif (a.Act.Label != d.Act.Label) then (some false)
 else c (w64 (b+1)))
 else c (w64 (b+1)))
 else c (w64 (b+1))
def z167_l4 (a:T5) (b:Int) (c:Int→Option Bool) (d:T2):Nat→Int→Option Bool
 | 0,_=>none
 | e+1,f =>
 bif (decide (f < (a.Edges.length:Int))) then ((idx a.Edges f).bind fun g =>
 bif (b != f) then (bif (d.From==g.From) then (bif ((d.Act.From==g.Act.From) && ((d.Act.To==g.Act.To) && ((d.Act.Label==g.Act.Label) && true))) then (z167_k5 d f (z167_l4 a b c d e) g true)
 else bif (d.Act.From != g.Act.From) then (z167_k5 d f (z167_l4 a b c d e) g true)
 else z167_k5 d f (z167_l4 a b c d e) g d.Again)
 else z167_k5 d f (z167_l4 a b c d e) g false)
 else z167_k5 d f (z167_l4 a b c d e) g false)
 else z167_k3 b c
def z167_k6 (N:Nat) (a:T5) (b:Int) (c:Int→Option Bool) (d:T2) (e:Bool):Option Bool :=
 bif e then (some false)
 else z167_l4 a b c d N 0
def z167_l2 (N:Nat) (a:T5):Nat→Int→Option Bool
 | 0,_=>none
 | b+1,c =>
 bif (decide (c < (a.Edges.length:Int))) then ((idx a.Edges c).bind fun d =>
 bif (d.From==a.End) then (z167_k6 N a c (z167_l2 N a b) d true)
 else bif d.Again then (z167_k6 N a c (z167_l2 N a b) d (d.From==a.Start))
 else z167_k6 N a c (z167_l2 N a b) d false)
 else z167_k1
def z167 (N:Nat) (a:T5):Option Bool :=
 z167_l2 N a N 0
def z168_k1:Option Bool :=
 some true
def z168_l2 (a:T5):Nat→Int→Int→Option Bool
 | 0,_,_=>none
 | b+1,c,d =>
 bif (decide (d < (a.Timeouts.length:Int))) then ((idx a.Timeouts d).bind fun e =>
 bif (decide (e.State≤c)) then (some false)
 else bif (decide (e.Ticks < 1)) then (some false)
 else bif (decide (e.Ticks > 1000)) then (some false)
 else bif (decide (e.Else < 0)) then (some false)
 else bif (decide (e.Else≥(a.Edges.length:Int))) then (some false)
 else (idx a.Edges e.Else).bind fun f =>
 bif (f.From != e.State) then (some false)
 else (idx a.Edges e.Else).bind fun g =>
 bif g.Again then (some false)
 else (z168_l2 a b) e.State (w64 (d+1)))
 else z168_k1
def z168 (N:Nat) (a:T5):Option Bool :=
 z168_l2 a N (-1) 0
def z213 (N:Nat) (a:Int) (b:Int):Option (Int × Int) :=
 (binO .and .u64 a 4294967295).bind fun c =>
 (binO .shr .u64 a 32).bind fun d =>
 (binO .and .u64 b 4294967295).bind fun e =>
 (binO .shr .u64 b 32).bind fun f =>
 (binO .shr .u64 (wk .u64 (c * e)) 32).bind fun g =>
 (binO .and .u64 (wk .u64 ((wk .u64 (d * e))+g)) 4294967295).bind fun h =>
 (binO .shr .u64 (wk .u64 ((wk .u64 (d * e))+g)) 32).bind fun i =>
 (binO .shr .u64 (wk .u64 (h+(wk .u64 (c * f)))) 32).bind fun j =>
 some ((wk .u64 ((wk .u64 ((wk .u64 (d * f))+i))+j)),(wk .u64 (a * b)))
def z162 (N:Nat) (a:Int) (b:Int):Option (Int × Int) :=
 (z213 N a b).bind fun c =>
 some (c.1,c.2)
def z215_k1 (a:(List Int)):Option (List Int) :=
 some a
def z215_l2:Nat→(List Int)→Int→Option (List Int)
 | 0,_,_=>none
 | a+1,b,c =>
 bif (decide (c < (b.length:Int))) then ((lsl b (some c) none).bind fun d =>
 (lsl b none (some c)).bind fun e =>
 (cpL b (some c) none e).bind fun f =>
 (z215_l2 a) f.1 (w64 (c+f.2)))
 else z215_k1 b
def z215_k3 (N:Nat) (a:(List Int)) (b:Int × Int) (c:Bool):Option (List Int) :=
 bif c then (dead 0)
 else (mkL 0 (w64 (b.2)) (w64 (b.2))).bind fun d =>
 (cpL d none none a).bind fun e =>
 z215_l2 N e.1 e.2
def z215 (N:Nat) (a:(List Int)) (b:Int):Option (List Int) :=
 bif (decide (b < 0)) then (dead 0)
 else (z162 N (wk .u64 ((a.length:Int))) (wk .u64 (b))).bind fun c =>
 bif (decide (c.1 > 0)) then (z215_k3 N a c true)
 else z215_k3 N a c (decide (c.2 > 9223372036854775807))
def z170_k1 (a:(List Int)):Option (List Int) :=
 some a
def z170_k3 (a:(List Int)→(List Int)→Option (List Int)) (b:(List Int)) (c:(List Int)):Option (List Int) :=
 (lsl c (some 1) none).bind fun d =>
 a b d
def z170_k5 (a:(List Int)) (b:(List Int)) (c:Int) (d:(List Int)→(List Int)→Int→Option (List Int)) (e:Int) (f:Int):Option (List Int) :=
 (idx b 0).bind fun g =>
 bif (e==g) then ((idx a f).bind fun h =>
 bif (decide (h < 0)) then ((idx a e).bind fun i =>
 (idx a f).bind fun j =>
 (appL b ([f]:List Int)).bind fun k =>
 d (setL' a f (w64 (i+1))) k (w64 (c+1)))
 else d a b (w64 (c+1)))
 else d a b (w64 (c+1))
def z170_l4 (a:T5) (b:Bool) (c:(List Int)→(List Int)→Option (List Int)):Nat→(List Int)→(List Int)→Int→Option (List Int)
 | 0,_,_,_=>none
 | d+1,e,f,g =>
 bif (decide (g < (a.Edges.length:Int))) then ((idx a.Edges g).bind fun h =>
 bif b then (z170_k5 e f g (z170_l4 a b c d) h.To h.From)
 else z170_k5 e f g (z170_l4 a b c d) h.From h.To)
 else z170_k3 c e f
def z170_l2 (N:Nat) (a:T5) (b:Bool):Nat→(List Int)→(List Int)→Option (List Int)
 | 0,_,_=>none
 | c+1,d,e =>
 bif (decide ((e.length:Int) > 0)) then (z170_l4 a b (z170_l2 N a b c) N d e 0)
 else z170_k1 d
def z170 (N:Nat) (a:T5) (b:Int) (c:Bool):Option (List Int) :=
 (z215 N ([(-1)]:List Int) a.States).bind fun d =>
 (idx d b).bind fun e =>
 z170_l2 N a c N (setL' d b 0) ([b]:List Int)
def z214_k1:Option Int :=
 some (-1)
def z214_l2 (a:(List Int)) (b:Int):Nat→Int→Option Int
 | 0,_=>none
 | c+1,d =>
 bif (decide (d < (a.length:Int))) then ((idx a d).bind fun e =>
 bif (b==e) then (some d)
 else (z214_l2 a b c) (w64 (d+1)))
 else z214_k1
def z214 (N:Nat) (a:(List Int)) (b:Int):Option Int :=
 z214_l2 a b N 0
def z169 (N:Nat) (a:(List Int)) (b:Int):Option Bool :=
 (z214 N a b).bind fun c =>
 some (decide (c≥0))
def z92 (N:Nat) (a:T5):Option Bool :=
 (z164 N a).bind fun b =>
 bif b then ((z165 N a).bind fun c =>
 bif c then ((z166 N a.Decls).bind fun d =>
 bif d then ((z167 N a).bind fun e =>
 bif e then ((z168 N a).bind fun f =>
 bif f then ((z170 N a a.Start false).bind fun g =>
 (z169 N g (-1)).bind fun h =>
 bif (!h) then ((z170 N a a.End true).bind fun i =>
 (z169 N i (-1)).bind fun j =>
 some (!j))
 else some false)
 else some false)
 else some false)
 else some false)
 else some false)
 else some false
def z202 (N:Nat) (a:T8) (b:Int):Option Bool :=
 bif (decide (b≥0)) then (some (decide (b < a.States)))
 else some false
def z149_k1:Option Bool :=
 some true
def z149_l2 (N:Nat) (a:T8):Nat→Int→Option Bool
 | 0,_=>none
 | b+1,c =>
 bif (decide (c < (a.Moves.length:Int))) then ((idx a.Moves c).bind fun d =>
 (z202 N a d.From).bind fun e =>
 bif (!e) then (some false)
 else (z202 N a d.To).bind fun f =>
 bif (!f) then (some false)
 else bif (decide (d.Peer < 0)) then (some false)
 else bif (decide (d.Peer≥6)) then (some false)
 else bif (d.Peer==a.Role) then (some false)
 else bif (decide (d.Label < 0)) then (some false)
 else bif (decide (d.Label≥40)) then (some false)
 else (z149_l2 N a b) (w64 (c+1)))
 else z149_k1
def z149 (N:Nat) (a:T8):Option Bool :=
 bif (decide (a.Role < 0)) then (some false)
 else bif (decide (a.Role≥6)) then (some false)
 else bif (decide (a.States < 1)) then (some false)
 else bif (decide (a.States > 200)) then (some false)
 else (z202 N a a.Start).bind fun b =>
 bif (!b) then (some false)
 else bif ((a.Finals.length:Int) != a.States) then (some false)
 else bif (decide ((a.Moves.length:Int) > 400)) then (some false)
 else z149_l2 N a N 0
def z205 (N:Nat) (a:T9):Option T16 :=
 some (⟨a.Send,a.Peer,a.Label⟩:T16)
def z244 (N:Nat) (a:Int):Option Bool :=
 some (a != a)
def z228 (N:Nat) (a:Int) (b:Int):Option Int :=
 (z244 N a).bind fun c =>
 (z244 N b).bind fun d =>
 bif c then (bif d then (some 0)
 else some (-1))
 else bif d then (some 1)
 else bif (decide (a < b)) then (some (-1))
 else bif (decide (a > b)) then (some 1)
 else some 0
def z227_k1:Option Int :=
 some 0
def z227_l2 (a:(List Int)):Nat→Int→Option Int
 | 0,_=>none
 | b+1,c =>
 bif (decide (c < (a.length:Int))) then ((idx a c).bind fun d =>
 bif (d != 0) then (some d)
 else (z227_l2 a b) (w64 (c+1)))
 else z227_k1
def z227 (N:Nat) (a:(List Int)):Option Int :=
 z227_l2 a N 0
def z206 (N:Nat) (a:T16) (b:T16):Option Int :=
 bif (!(a.send'==b.send')) then (bif a.send' then (some (-1))
 else some 1)
 else (z228 N a.peer' b.peer').bind fun c =>
 (z228 N a.label' b.label').bind fun d =>
 (z227 N ([c,d]:List Int)).bind fun e =>
 some e
def z204_8 (N:Nat) (a:Int) (b:Int) (c:T8):Option Int :=
 (idx c.Moves a).bind fun d =>
 (z205 N d).bind fun e =>
 (idx c.Moves b).bind fun f =>
 (z205 N f).bind fun g =>
 (z206 N e g).bind fun h =>
 some h
def machine_sorted_cf (N:Nat) (a:T8) (i k:Int):Int:=(z204_8 N i k a).getD 0
def machine_sorted_ok (N:Nat) (c:T8) (xs:List Int):Bool:=(xs.all fun i=>xs.all fun k=>(z204_8 N i k c).isSome) && (swoB (fun a b=>decide (machine_sorted_cf N c a b < 0)) xs && decide (xs.length < 4611686018427387904))
def z150_l2 (N:Nat) (a:T8):Nat→List (List Int)→Int→Option T17
 | 0,_,_=>none
 | n+1,xss,j=>bif decide (j < (xss.length:Int)) then (idx xss j).bind fun xs =>
   bif machine_sorted_ok N a xs then z150_l2 N a n (xss.set j.toNat (sortP (machine_sorted_cf N a) xs)) (w64 (j+1)) else none
   else some ⟨a,xss⟩
def z150_l1 (N:Nat) (a:T8):Nat→List (List Int)→Int→Option T17
 | 0,_,_=>none
 | n+1,xss,i=>bif decide (i < (a.Moves.length:Int)) then (idx a.Moves i).bind fun x=>(idx xss x.From).bind fun xs=>(appL xs [i]).bind fun ys =>
   z150_l1 N a n (xss.set x.From.toNat ys) (w64 (i+1))
   else z150_l2 N a N xss 0
def z150 (N:Nat) (a:T8):Option T17:=(mkL () a.States a.States).bind fun us=>bif us.isEmpty then none else z150_l1 N a N (List.replicate us.length []) 0
def z151_k1:Option Bool :=
 some true
def z151_k3 (a:Int) (b:Int→Option Bool):Option Bool :=
 b (w64 (a+1))
def z151_l4 (N:Nat) (a:T17) (b:Int) (c:Int→Option Bool) (d:(List Int)):Nat→Int→Option Bool
 | 0,_=>none
 | e+1,f =>
 bif (decide (f < (d.length:Int))) then ((idx d (w64 (f-1))).bind fun g =>
 (idx a.Machine.Moves g).bind fun h =>
 (idx d f).bind fun i =>
 (idx a.Machine.Moves i).bind fun j =>
 (z205 N h).bind fun k =>
 (z205 N j).bind fun l =>
 bif ((k.send'==l.send') && ((k.peer'==l.peer') && ((k.label'==l.label') && true))) then (some false)
 else bif (!(h.Send==j.Send)) then (some false)
 else (z151_l4 N a b c d e) (w64 (f+1)))
 else z151_k3 b c
def z151_l2 (N:Nat) (a:T17):Nat→Int→Option Bool
 | 0,_=>none
 | b+1,c =>
 bif (decide (c < (a.out'.length:Int))) then ((idx a.out' c).bind fun d =>
 z151_l4 N a c (z151_l2 N a b) d N 1)
 else z151_k1
def z151 (N:Nat) (a:T17):Option Bool :=
 z151_l2 N a N 0
def z152_k1 (a:T17) (b:(List Int)):Option Bool :=
 some ((b.length:Int)==a.Machine.States)
def z152_k3 (a:Int) (b:(List Bool)→(List Int)→Int→Option Bool) (c:(List Bool)) (d:(List Int)):Option Bool :=
 b c d (w64 (a+1))
def z152_l4 (a:T17) (b:Int) (c:(List Bool)→(List Int)→Int→Option Bool) (d:(List Int)):Nat→(List Bool)→(List Int)→Int→Option Bool
 | 0,_,_,_=>none
 | e+1,f,g,h =>
 bif (decide (h < (d.length:Int))) then ((idx d h).bind fun i =>
 (idx a.Machine.Moves i).bind fun j =>
 (idx f j.To).bind fun k =>
 bif (!k) then ((idx f j.To).bind fun l =>
 (appL g ([j.To]:List Int)).bind fun m =>
 (z152_l4 a b c d e) (setL' f j.To true) m (w64 (h+1)))
 else (z152_l4 a b c d e) f g (w64 (h+1)))
 else z152_k3 b c f g
def z152_l2 (N:Nat) (a:T17):Nat→(List Bool)→(List Int)→Int→Option Bool
 | 0,_,_,_=>none
 | b+1,c,d,e =>
 bif (decide (e < (d.length:Int))) then ((idx d e).bind fun f =>
 (idx a.out' f).bind fun g =>
 z152_l4 a e (z152_l2 N a b) g N c d 0)
 else z152_k1 a d
def z152 (N:Nat) (a:T17):Option Bool :=
 (mkL false a.Machine.States a.Machine.States).bind fun b =>
 (idx b a.Machine.Start).bind fun c =>
 z152_l2 N a N (setL' b a.Machine.Start true) ([a.Machine.Start]:List Int) 0
def z153_k1:Option Bool :=
 some true
def z153_k3 (a:Int) (b:Int→Option Bool):Option Bool :=
 b (w64 (a+1))
def z153_l4 (a:T17) (b:Int) (c:Int→Option Bool) (d:T9):Nat→Int→Option Bool
 | 0,_=>none
 | e+1,f =>
 bif (decide (f < (a.Machine.Moves.length:Int))) then ((idx a.Machine.Moves f).bind fun g =>
 bif (g.To==d.From) then (bif (!g.Send) then (some false)
 else bif (g.Label != d.Label) then (some false)
 else (z153_l4 a b c d e) (w64 (f+1)))
 else (z153_l4 a b c d e) (w64 (f+1)))
 else z153_k3 b c
def z153_l2 (N:Nat) (a:T17):Nat→Int→Option Bool
 | 0,_=>none
 | b+1,c =>
 bif (decide (c < (a.Machine.Moves.length:Int))) then ((idx a.Machine.Moves c).bind fun d =>
 bif (!d.Again) then ((z153_l2 N a b) (w64 (c+1)))
 else bif (!d.Send) then (some false)
 else (idx a.out' d.From).bind fun e =>
 bif ((e.length:Int) != 1) then (some false)
 else bif (d.From==a.Machine.Start) then (some false)
 else (idx a.Machine.Finals d.From).bind fun f =>
 bif f then (some false)
 else z153_l4 a c (z153_l2 N a b) d N 0)
 else z153_k1
def z153 (N:Nat) (a:T17):Option Bool :=
 z153_l2 N a N 0
def z154_k1:Option Bool :=
 some true
def z154_k3 (a:T17) (b:Int) (c:Int→Option Bool) (d:T11) (e:Bool):Option Bool :=
 bif e then (some false)
 else (idx a.Machine.Moves d.Else).bind fun f =>
 bif (f.From != d.State) then (some false)
 else bif (!f.Send) then (some false)
 else bif f.Again then (some false)
 else c (w64 (b+1))
def z154_l2 (a:T17):Nat→Int→Option Bool
 | 0,_=>none
 | b+1,c =>
 bif (decide (c < (a.Machine.Timeouts.length:Int))) then ((idx a.Machine.Timeouts c).bind fun d =>
 bif (decide (c > 0)) then ((idx a.Machine.Timeouts (w64 (c-1))).bind fun e =>
 bif (decide (e.State≥d.State)) then (z154_k3 a c (z154_l2 a b) d true)
 else bif (decide (d.Ticks < 1)) then (z154_k3 a c (z154_l2 a b) d true)
 else bif (decide (d.Ticks > 1000)) then (z154_k3 a c (z154_l2 a b) d true)
 else bif (decide (d.Else < 0)) then (z154_k3 a c (z154_l2 a b) d true)
 else z154_k3 a c (z154_l2 a b) d (decide (d.Else≥(a.Machine.Moves.length:Int))))
 else bif (decide (d.Ticks < 1)) then (z154_k3 a c (z154_l2 a b) d true)
 else bif (decide (d.Ticks > 1000)) then (z154_k3 a c (z154_l2 a b) d true)
 else bif (decide (d.Else < 0)) then (z154_k3 a c (z154_l2 a b) d true)
 else z154_k3 a c (z154_l2 a b) d (decide (d.Else≥(a.Machine.Moves.length:Int))))
 else z154_k1
def z154 (N:Nat) (a:T17):Option Bool :=
 z154_l2 a N 0
def z80 (N:Nat) (a:T8):Option ((Option T17) × Bool) :=
 (z149 N a).bind fun b =>
 bif (!b) then (some (none,false))
 else (z150 N a).bind fun c =>
 (z151 N c).bind fun d =>
 bif d then ((z152 N c).bind fun e =>
 bif e then ((z153 N c).bind fun f =>
 bif f then ((z154 N c).bind fun g =>
 some ((some c),g))
 else some ((some c),false))
 else some ((some c),false))
 else some ((some c),false)
def z93 (N:Nat) (a:T8):Option Bool :=
 (z80 N a).bind fun b =>
 optC b.1 (some b.2) fun q2 =>
 some b.2
def z91_9 (N:Nat) (a:T9) (b:T5):Option Bool :=
 bif (decide (a.Peer≥(b.Roles.length:Int))) then (some true)
 else some (decide (a.Label≥(b.Decls.length:Int)))
def z136_10_k1:Option Int :=
 some (-1)
def z136_10_l2 (N:Nat) (a:(List T9)) (b:T5):Nat→Int→Option Int
 | 0,_=>none
 | c+1,d =>
 bif (decide (d < (a.length:Int))) then ((idx a d).bind fun e =>
 (z91_9 N e b).bind fun f =>
 bif f then (some d)
 else (z136_10_l2 N a b c) (w64 (d+1)))
 else z136_10_k1
def z136_10 (N:Nat) (a:(List T9)) (b:T5):Option Int :=
 z136_10_l2 N a b N 0
def z94_11 (N:Nat) (a:(List T9)) (b:T5):Option Bool :=
 (z136_10 N a b).bind fun c =>
 some (decide (c≥0))
def z39 (N:Nat) (a:T5) (b:T8):Option Bool :=
 (z92 N a).bind fun c =>
 bif c then ((z93 N b).bind fun d =>
 bif d then (bif (decide (b.Role < (a.Roles.length:Int))) then ((z94_11 N b.Moves a).bind fun e =>
 some (!e))
 else some false)
 else some false)
 else some false
def z40_k1 (a:(List T4)):Option (List T4) :=
 some a
def z40_l2 (a:T5):Nat→(List T4)→Int→Option (List T4)
 | 0,_,_=>none
 | b+1,c,d =>
 bif (decide (d < (a.Decls.length:Int))) then ((idx a.Decls d).bind fun e =>
 (appL c e.Fields).bind fun f =>
 (z40_l2 a b) f (w64 (d+1)))
 else z40_k1 c
def z40 (N:Nat) (a:T5):Option (List T4) :=
 z40_l2 a N ([]:List T4) 0
def z13 (N:Nat) (a:T5) (b:T8):Option T18 :=
 (z39 N a b).bind fun c =>
 bif (!c) then (some (⟨0,([]:List T12),([]:List T12)⟩:T18))
 else (z40 N a).bind fun d =>
 (mkL (⟨0,0,(str [])⟩:T12) (d.length:Int) (d.length:Int)).bind fun e =>
 some (⟨b.Start,e,([]:List T12)⟩:T18)
def z146 (N:Nat) (a:T12):Option Int :=
 bif (a.Kind==1) then (some a.N)
 else bif (a.Kind==2) then (some (a.S.size:Int))
 else some 0
def z147_k1 (a:T10) (b:Int) (c:Int):Option Bool :=
 bif (decide (b≤a.Lo)) then (bif (decide (a.Lo≤a.Hi)) then (some (decide (a.Hi≤c)))
 else some false)
 else some false
def z147 (N:Nat) (a:T10):Option Bool :=
 bif (a.Kind==1) then (z147_k1 a (-1000) 1000)
 else bif (a.Kind==2) then (z147_k1 a 0 40)
 else some false
def z231 (N:Nat) (a:Int):Option Bool :=
 bif (decide (a < 32)) then (some true)
 else some (decide (a > 126))
def z255_12_k1 (a:Nat):Option Int :=
 some (-1)
def z255_12_l2 (N:Nat) (a:ByteArray) (b:Bool):Nat→Nat→Option Int
 | 0,_=>none
 | c+1,d =>
 bif decide (d < a.size) then ((z231 N ((Utf8.decode a d).1:Int)).bind fun e =>
 bif (e==b) then (some ((d:Nat):Int))
 else (z255_12_l2 N a b c) (d+(Utf8.decode a d).2))
 else z255_12_k1 d
def z255_12 (N:Nat) (a:ByteArray) (b:Bool):Option Int :=
 z255_12_l2 N a b N (0:Nat)
def z234_13 (N:Nat) (a:ByteArray):Option Int :=
 (z255_12 N a true).bind fun b =>
 some b
def z207_14 (N:Nat) (a:ByteArray):Option Bool :=
 (z234_13 N a).bind fun b =>
 some (decide (b≥0))
def z201 (N:Nat) (a:ByteArray):Option Bool :=
 (z207_14 N a).bind fun b =>
 some (!b)
def z148 (N:Nat) (a:T12):Option Bool :=
 bif (a.Kind==1) then (bif (decide (a.N≥(-1000))) then (bif (decide (a.N≤1000)) then (some (a.S.toList==(str []).toList))
 else some false)
 else some false)
 else bif (a.Kind==2) then (bif (a.N==0) then (bif (decide ((a.S.size:Int)≤40)) then ((z201 N a.S).bind fun b =>
 some b)
 else some false)
 else some false)
 else some false
def z78 (N:Nat) (a:T10) (b:T12):Option Bool :=
 (z146 N b).bind fun c =>
 (z147 N a).bind fun d =>
 bif d then ((z148 N b).bind fun e =>
 bif e then (bif (a.Kind==b.Kind) then (bif (decide (c≥a.Lo)) then (some (decide (c≤a.Hi)))
 else some false)
 else some false)
 else some false)
 else some false
def z77 (N:Nat) (a:T4) (b:T12):Option Bool :=
 bif ((b.Kind==0) && ((b.N==0) && ((b.S.toList==(str []).toList) && true))) then (some true)
 else (z78 N a.Sort' b).bind fun c =>
 some c
def z79_15_k1:Option Bool :=
 some true
def z79_15_l2 (N:Nat) (a:(List T4)) (b:(List T12)):Nat→Int→Option Bool
 | 0,_=>none
 | c+1,d =>
 bif (decide (d < (a.length:Int))) then ((idx a d).bind fun e =>
 (idx b d).bind fun f =>
 (z77 N e f).bind fun g =>
 bif (!g) then (some false)
 else (z79_15_l2 N a b c) (w64 (d+1)))
 else z79_15_k1
def z79_15 (N:Nat) (a:(List T4)) (b:(List T12)):Option Bool :=
 bif ((a.length:Int) != (b.length:Int)) then (some false)
 else z79_15_l2 N a b N 0
def z34 (N:Nat) (a:T5) (b:T8) (c:T18):Option Bool :=
 (z39 N a b).bind fun d =>
 bif d then (bif (decide (c.At≥0)) then (bif (decide (c.At < b.States)) then ((z40 N a).bind fun e =>
 (z79_15 N e c.Known).bind fun f =>
 some f)
 else some false)
 else some false)
 else some false
def z29 (N:Nat) (a:T5) (b:T8):Option Bool :=
 (z13 N a b).bind fun c =>
 (z34 N a b c).bind fun d =>
 some d
def z35 (N:Nat) (a:T8) (b:Int):Option (List Int) :=
 (z80 N a).bind fun c =>
 optC c.1 (bif (!c.2) then (some ([]:List Int))
 else bif (decide (b < 0)) then (some ([]:List Int))
 else bif (decide (b≥a.States)) then (some ([]:List Int))
 else dead 0) fun q2 =>
 bif (!c.2) then (some ([]:List Int))
 else bif (decide (b < 0)) then (some ([]:List Int))
 else bif (decide (b≥a.States)) then (some ([]:List Int))
 else (idx q2.out' b).bind fun d =>
 some d
def z48 (N:Nat) (a:Int):Option ByteArray:=bif (decide ((-9223372036854775808)≤a) && decide (a≤9223372036854775807)) then some (itoaS a) else none
def z23_k1 (N:Nat) (a:T4) (b:ByteArray):Option ByteArray :=
 (catS a.Name (str [58,32])).bind fun c =>
 (catS c b).bind fun d =>
 (catS d (str [32])).bind fun e =>
 (z48 N a.Sort'.Lo).bind fun f =>
 (catS e f).bind fun g =>
 (catS g (str [32,46,46,32])).bind fun h =>
 (z48 N a.Sort'.Hi).bind fun i =>
 (catS h i).bind fun j =>
 some j
def z23 (N:Nat) (a:T4):Option ByteArray :=
 bif (a.Sort'.Kind==2) then (z23_k1 N a (str [116,101,120,116]))
 else z23_k1 N a (str [105,110,116])
def z108_k1:Option (T0 × T4 × Bool) :=
 some ((⟨(str []),([]:List T4),0,(⟨([]:List T1),([]:List (Int × Int))⟩:T6)⟩:T0),(⟨(str []),(⟨0,0,0⟩:T10)⟩:T4),false)
def z108_l2 (a:(List T0)):Nat→Int→Int→Option (T0 × T4 × Bool)
 | 0,_,_=>none
 | b+1,c,d =>
 bif (decide (d < (a.length:Int))) then ((idx a d).bind fun e =>
 bif (decide (c≥0)) then (bif (decide (c < (e.Fields.length:Int))) then ((idx e.Fields c).bind fun f =>
 some (e,f,true))
 else (z108_l2 a b) (w64 (c-(e.Fields.length:Int))) (w64 (d+1)))
 else (z108_l2 a b) (w64 (c-(e.Fields.length:Int))) (w64 (d+1)))
 else z108_k1
def z108 (N:Nat) (a:(List T0)) (b:Int):Option (T0 × T4 × Bool) :=
 z108_l2 a N b 0
def z50 (N:Nat) (a:(List T0)) (b:Int):Option ByteArray :=
 (z108 N a b).bind fun c =>
 (catS c.1.Name (str [46])).bind fun d =>
 (catS d c.2.1.Name).bind fun e =>
 some e
def z107 (N:Nat) (a:(List T0)) (b:Int):Option ByteArray :=
 (z108 N a b).bind fun c =>
 bif (c.2.1.Sort'.Kind==2) then ((z50 N a b).bind fun d =>
 (catS (str [108,101,110,40]) d).bind fun e =>
 (catS e (str [41])).bind fun f =>
 some f)
 else (z50 N a b).bind fun g =>
 some g
def z49_k1 (N:Nat) (a:(List T0)) (b:T1) (c:Bool):Option ByteArray :=
 bif c then ((z48 N b.C).bind fun d =>
 (catS (str [48,32,60,61,32]) d).bind fun e =>
 some e)
 else bif (decide (b.Y < 0)) then ((z107 N a b.X).bind fun f =>
 (catS f (str [32,60,61,32])).bind fun g =>
 (z48 N b.C).bind fun h =>
 (catS g h).bind fun i =>
 some i)
 else bif (decide (b.X < 0)) then ((z107 N a b.Y).bind fun j =>
 (catS j (str [32,62,61,32])).bind fun k =>
 (z48 N (w64 (0-b.C))).bind fun l =>
 (catS k l).bind fun m =>
 some m)
 else (z107 N a b.X).bind fun o =>
 (catS o (str [32,60,61,32])).bind fun p =>
 (z107 N a b.Y).bind fun q =>
 (catS p q).bind fun r =>
 bif (decide (b.C > 0)) then ((catS r (str [32,43,32])).bind fun s =>
 (z48 N b.C).bind fun t =>
 (catS s t).bind fun u =>
 some u)
 else bif (decide (b.C < 0)) then ((catS r (str [32,45,32])).bind fun v =>
 (z48 N (w64 (0-b.C))).bind fun w =>
 (catS v w).bind fun x =>
 some x)
 else some r
def z49 (N:Nat) (a:(List T0)) (b:T1):Option ByteArray :=
 bif (decide (b.X < 0)) then (z49_k1 N a b (decide (b.Y < 0)))
 else z49_k1 N a b false
def z24 (N:Nat) (a:(List T0)) (b:Int) (c:Int):Option ByteArray :=
 (z22 N a b).bind fun d =>
 bif (d.2 != 0) then (some (str []))
 else bif (decide (c < 0)) then (some (str []))
 else (idx a b).bind fun e =>
 bif (decide (c < (e.Guard.Diffs.length:Int))) then ((idx e.Guard.Diffs c).bind fun f =>
 (z49 N a f).bind fun g =>
 some g)
 else bif (decide ((w64 (c-(e.Guard.Diffs.length:Int))) < (e.Guard.Equals.length:Int))) then ((idx e.Guard.Equals (w64 (c-(e.Guard.Diffs.length:Int)))).bind fun h =>
 (z50 N a h.1).bind fun i =>
 (catS i (str [32,61,61,32])).bind fun j =>
 (idx e.Guard.Equals (w64 (c-(e.Guard.Diffs.length:Int)))).bind fun k =>
 (z50 N a k.2).bind fun l =>
 (catS j l).bind fun m =>
 some m)
 else some (str [])
def z25 (N:Nat) (a:List ByteArray) (b:ByteArray):Option ByteArray:=bif (decide (a.length≤140737488355328) && decide ((joinL b.data.toList (a.map (·.data.toList))).length≤140737488355328)) then some ⟨(joinL b.data.toList (a.map (·.data.toList))).toArray⟩ else none
def z7_k1 (N:Nat) (a:T0) (b:(List ByteArray)) (c:(List ByteArray)):Option ByteArray :=
 (catS a.Name (str [40])).bind fun d =>
 (z25 N b (str [44,32])).bind fun e =>
 (catS d e).bind fun f =>
 (catS f (str [41])).bind fun g =>
 bif (decide ((c.length:Int) > 0)) then ((z25 N c (str [32,97,110,100,32])).bind fun h =>
 (catS (str [32,119,104,101,114,101,32]) h).bind fun i =>
 (catS g i).bind fun j =>
 some j)
 else some g
def z7_l2 (N:Nat) (a:(List T0)) (b:Int) (c:T0) (d:(List ByteArray)):Nat→(List ByteArray)→Int→Option ByteArray
 | 0,_,_=>none
 | e+1,f,g =>
 bif (decide (g < (w64 ((c.Guard.Diffs.length:Int)+(c.Guard.Equals.length:Int))))) then ((z24 N a b g).bind fun h =>
 (appL f ([h]:List ByteArray)).bind fun i =>
 (z7_l2 N a b c d e) i (w64 (g+1)))
 else z7_k1 N c d f
def z7_k3 (N:Nat) (a:(List T0)) (b:Int) (c:T0) (d:(List ByteArray)):Option ByteArray :=
 z7_l2 N a b c d N ([]:List ByteArray) 0
def z7_l4 (N:Nat) (a:(List T0)) (b:Int) (c:T0):Nat→(List ByteArray)→Int→Option ByteArray
 | 0,_,_=>none
 | d+1,e,f =>
 bif (decide (f < (c.Fields.length:Int))) then ((idx c.Fields f).bind fun g =>
 (z23 N g).bind fun h =>
 (appL e ([h]:List ByteArray)).bind fun i =>
 (z7_l4 N a b c d) i (w64 (f+1)))
 else z7_k3 N a b c e
def z7 (N:Nat) (a:(List T0)) (b:Int):Option ByteArray :=
 (z22 N a b).bind fun c =>
 bif (c.2 != 0) then (some (str []))
 else (idx a b).bind fun d =>
 z7_l4 N a b d N ([]:List ByteArray) 0
def z135_16 (N:Nat) (a:T11) (b:Int):Option Bool :=
 some (a.State==b)
def z134_17_k1:Option Int :=
 some (-1)
def z134_17_l2 (N:Nat) (a:(List T11)) (b:Int):Nat→Int→Option Int
 | 0,_=>none
 | c+1,d =>
 bif (decide (d < (a.length:Int))) then ((idx a d).bind fun e =>
 (z135_16 N e b).bind fun f =>
 bif f then (some d)
 else (z134_17_l2 N a b c) (w64 (d+1)))
 else z134_17_k1
def z134_17 (N:Nat) (a:(List T11)) (b:Int):Option Int :=
 z134_17_l2 N a b N 0
def z72 (N:Nat) (a:T8) (b:Int):Option (T11 × Bool) :=
 (z93 N a).bind fun c =>
 bif (!c) then (some ((⟨0,0,0⟩:T11),false))
 else (z134_17 N a.Timeouts b).bind fun d =>
 bif (decide (d < 0)) then (some ((⟨0,0,0⟩:T11),false))
 else (idx a.Timeouts d).bind fun e =>
 some (e,true)
def z30_k1 (N:Nat) (a:T5) (b:T8) (c:Int) (d:(List ByteArray)):Option (List ByteArray) :=
 (z72 N b c).bind fun e =>
 bif e.2 then ((idx b.Moves e.1.Else).bind fun f =>
 (z48 N e.1.Ticks).bind fun g =>
 (catS (str [119,105,116,104,105,110,32]) g).bind fun h =>
 (catS h (str [32,116,105,99,107,115,44,32,111,116,104,101,114,119,105,115,101,32])).bind fun i =>
 (idx a.Decls f.Label).bind fun j =>
 (catS i j.Name).bind fun k =>
 (catS k (str [32,116,111,32])).bind fun l =>
 (idx a.Roles f.Peer).bind fun m =>
 (catS l m).bind fun o =>
 (appL d ([o]:List ByteArray)).bind fun p =>
 (idx b.Finals c).bind fun q =>
 bif q then ((appL p ([(str [116,104,101,32,101,110,100])]:List ByteArray)).bind fun r =>
 some r)
 else some p)
 else (idx b.Finals c).bind fun s =>
 bif s then ((appL d ([(str [116,104,101,32,101,110,100])]:List ByteArray)).bind fun t =>
 some t)
 else some d
def z30_l2 (N:Nat) (a:T5) (b:T8) (c:Int) (d:(List Int)):Nat→(List ByteArray)→Int→Option (List ByteArray)
 | 0,_,_=>none
 | e+1,f,g =>
 bif (decide (g < (d.length:Int))) then ((idx d g).bind fun h =>
 (idx b.Moves h).bind fun i =>
 (idx a.Roles i.Peer).bind fun j =>
 bif i.Again then ((idx a.Decls i.Label).bind fun k =>
 (catS (str [115,101,110,100,32]) k.Name).bind fun l =>
 (catS l (str [32,97,103,97,105,110,32,116,111,32])).bind fun m =>
 (catS m j).bind fun o =>
 (appL f ([o]:List ByteArray)).bind fun p =>
 (z30_l2 N a b c d e) p (w64 (g+1)))
 else bif i.Send then ((z7 N a.Decls i.Label).bind fun q =>
 (catS (str [115,101,110,100,32]) q).bind fun r =>
 (catS r (str [32,116,111,32])).bind fun s =>
 (catS s j).bind fun t =>
 (appL f ([t]:List ByteArray)).bind fun u =>
 (z30_l2 N a b c d e) u (w64 (g+1)))
 else (z7 N a.Decls i.Label).bind fun v =>
 (catS (str [114,101,99,101,105,118,101,32]) v).bind fun w =>
 (catS w (str [32,102,114,111,109,32])).bind fun x =>
 (catS x j).bind fun y =>
 (appL f ([y]:List ByteArray)).bind fun z =>
 (z30_l2 N a b c d e) z (w64 (g+1)))
 else z30_k1 N a b c f
def z30 (N:Nat) (a:T5) (b:T8) (c:Int):Option (List ByteArray) :=
 (z35 N b c).bind fun d =>
 z30_l2 N a b c d N ([]:List ByteArray) 0
def z10 (N:Nat) (a:T5) (b:T8) (c:Int):Option ((List ByteArray) × Int) :=
 (z29 N a b).bind fun d =>
 bif (!d) then (some (([]:List ByteArray),1))
 else bif (decide (c < 0)) then (some (([]:List ByteArray),1))
 else bif (decide (c≥b.States)) then (some (([]:List ByteArray),1))
 else (z30 N a b c).bind fun e =>
 some (e,0)
def z137_18 (N:Nat) (a:T9) (b:T18) (c:T3):Option Bool :=
 bif (a.From==b.At) then (bif (a.Send==c.Send) then (bif (a.Peer==c.Peer) then (some (a.Label==c.Label))
 else some false)
 else some false)
 else some false
def z136_19_k1:Option Int :=
 some (-1)
def z136_19_l2 (N:Nat) (a:(List T9)) (b:T18) (c:T3):Nat→Int→Option Int
 | 0,_=>none
 | d+1,e =>
 bif (decide (e < (a.length:Int))) then ((idx a e).bind fun f =>
 (z137_18 N f b c).bind fun g =>
 bif g then (some e)
 else (z136_19_l2 N a b c d) (w64 (e+1)))
 else z136_19_k1
def z136_19 (N:Nat) (a:(List T9)) (b:T18) (c:T3):Option Int :=
 z136_19_l2 N a b c N 0
def z193 (N:Nat) (a:T4) (b:T12):Option Bool :=
 (z78 N a.Sort' b).bind fun c =>
 some c
def z79_20_k1:Option Bool :=
 some true
def z79_20_l2 (N:Nat) (a:(List T4)) (b:(List T12)):Nat→Int→Option Bool
 | 0,_=>none
 | c+1,d =>
 bif (decide (d < (a.length:Int))) then ((idx a d).bind fun e =>
 (idx b d).bind fun f =>
 (z193 N e f).bind fun g =>
 bif (!g) then (some false)
 else (z79_20_l2 N a b c) (w64 (d+1)))
 else z79_20_k1
def z79_20 (N:Nat) (a:(List T4)) (b:(List T12)):Option Bool :=
 bif ((a.length:Int) != (b.length:Int)) then (some false)
 else z79_20_l2 N a b N 0
def z138 (N:Nat) (a:(List T4)) (b:(List T12)):Option Bool :=
 (z79_20 N a b).bind fun c =>
 some c
def z83 (N:Nat) (a:T12):Option Int :=
 bif (a.Kind==2) then (some (a.S.size:Int))
 else some a.N
def z208 (N:Nat) (a:Int):Option Bool :=
 bif (decide (a < 32)) then (some true)
 else some (decide (a > 126))
def z255_21_k1 (a:Nat):Option Int :=
 some (-1)
def z255_21_l2 (N:Nat) (a:ByteArray) (b:Bool):Nat→Nat→Option Int
 | 0,_=>none
 | c+1,d =>
 bif decide (d < a.size) then ((z208 N ((Utf8.decode a d).1:Int)).bind fun e =>
 bif (e==b) then (some ((d:Nat):Int))
 else (z255_21_l2 N a b c) (d+(Utf8.decode a d).2))
 else z255_21_k1 d
def z255_21 (N:Nat) (a:ByteArray) (b:Bool):Option Int :=
 z255_21_l2 N a b N (0:Nat)
def z234_22 (N:Nat) (a:ByteArray):Option Int :=
 (z255_21 N a true).bind fun b =>
 some b
def z207_23 (N:Nat) (a:ByteArray):Option Bool :=
 (z234_22 N a).bind fun b =>
 some (decide (b≥0))
def z155 (N:Nat) (a:T10) (b:T12):Option Bool :=
 bif (b.Kind != a.Kind) then (some false)
 else (z83 N b).bind fun c =>
 bif (decide (c < a.Lo)) then (some false)
 else (z83 N b).bind fun d =>
 bif (decide (d > a.Hi)) then (some false)
 else bif (b.Kind==1) then (some (b.S.toList==(str []).toList))
 else bif (b.N==0) then ((z207_23 N b.S).bind fun e =>
 some (!e))
 else some false
def z81_k1:Option Bool :=
 some true
def z81_l2 (N:Nat) (a:(List T12)) (b:(List T4)):Nat→Int→Option Bool
 | 0,_=>none
 | c+1,d =>
 bif (decide (d < (a.length:Int))) then ((idx a d).bind fun e =>
 bif (!((e.Kind==0) && ((e.N==0) && ((e.S.toList==(str []).toList) && true)))) then ((idx b d).bind fun f =>
 (z155 N f.Sort' e).bind fun g =>
 bif (!g) then (some false)
 else (z81_l2 N a b c) (w64 (d+1)))
 else (z81_l2 N a b c) (w64 (d+1)))
 else z81_k1
def z81 (N:Nat) (a:(List T0)) (b:Int) (c:(List T12)):Option Bool :=
 bif (decide (b < 0)) then (some false)
 else bif (decide (b≥(a.length:Int))) then (some false)
 else (z46 N a).bind fun d =>
 bif (!d) then (some false)
 else (z98 N a).bind fun e =>
 bif ((e.length:Int) != (c.length:Int)) then (some false)
 else z81_l2 N c e N 0
def z90_k1:Option Bool :=
 some true
def z90_l2 (N:Nat) (a:(List T4)) (b:(List T12)):Nat→Int→Option Bool
 | 0,_=>none
 | c+1,d =>
 bif (decide (d < (a.length:Int))) then ((idx a d).bind fun e =>
 (idx b d).bind fun f =>
 (z155 N e.Sort' f).bind fun g =>
 bif (!g) then (some false)
 else (z90_l2 N a b c) (w64 (d+1)))
 else z90_k1
def z90 (N:Nat) (a:(List T4)) (b:(List T12)):Option Bool :=
 bif ((a.length:Int) != (b.length:Int)) then (some false)
 else z90_l2 N a b N 0
def z37 (N:Nat) (a:(List T12)):Option (List T12) :=
 (appL ([]:List T12) a).bind fun b =>
 some b
def z87 (N:Nat) (a:T0) (b:(List T12)) (c:(List T12)):Option (List T12) :=
 (z37 N c).bind fun d =>
 (lsl d (some a.First) none).bind fun e =>
 (cpL d (some a.First) none b).bind fun f =>
 some f.1
def z89_k1:Option Bool :=
 some true
def z89_l2 (a:T6) (b:(List T12)):Nat→Int→Option Bool
 | 0,_=>none
 | c+1,d =>
 bif (decide (d < (a.Equals.length:Int))) then ((idx a.Equals d).bind fun e =>
 (idx b e.1).bind fun f =>
 bif (f.Kind==0) then (some false)
 else (idx b e.2).bind fun g =>
 bif (g.Kind==0) then (some false)
 else (idx b e.1).bind fun h =>
 (idx b e.2).bind fun i =>
 bif (!(h.S.toList==i.S.toList)) then (some false)
 else (z89_l2 a b c) (w64 (d+1)))
 else z89_k1
def z89_k3 (N:Nat) (a:T6) (b:(List T12)):Option Bool :=
 z89_l2 a b N 0
def z89_k5 (a:Int) (b:Int→Option Bool) (c:T1) (d:Int) (e:Int):Option Bool :=
 bif (decide ((w64 (d-e)) > c.C)) then (some false)
 else b (w64 (a+1))
def z89_l6 (N:Nat) (a:(List T12)) (b:Int) (c:Int→Option Bool) (d:T1):Nat→Int→Int→Int→Option Bool
 | 0,_,_,_=>none
 | e+1,f,g,h =>
 bif (decide (h < 2)) then ((idx ([d.X,d.Y]:List Int) h).bind fun i =>
 bif (decide (i < 0)) then ((z89_l6 N a b c d e) f g (w64 (h+1)))
 else (idx a i).bind fun j =>
 bif (j.Kind==0) then (some false)
 else (idx a i).bind fun k =>
 (z83 N k).bind fun l =>
 bif (h==0) then ((z89_l6 N a b c d e) l g (w64 (h+1)))
 else bif (h==1) then ((z89_l6 N a b c d e) f l (w64 (h+1)))
 else none)
 else z89_k5 b c d f g
def z89_l4 (N:Nat) (a:T6) (b:(List T12)):Nat→Int→Option Bool
 | 0,_=>none
 | c+1,d =>
 bif (decide (d < (a.Diffs.length:Int))) then ((idx a.Diffs d).bind fun e =>
 z89_l6 N b d (z89_l4 N a b c) e N 0 0 0)
 else z89_k3 N a b
def z89 (N:Nat) (a:T6) (b:(List T12)):Option Bool :=
 z89_l4 N a b N 0
def z38 (N:Nat) (a:(List T0)) (b:Int) (c:(List T12)) (d:(List T12)):Option Bool :=
 (z81 N a b d).bind fun e =>
 bif (!e) then (some false)
 else (idx a b).bind fun f =>
 (z90 N f.Fields c).bind fun g =>
 bif (!g) then (some false)
 else (idx a b).bind fun h =>
 (z87 N h c d).bind fun i =>
 (z89 N h.Guard i).bind fun j =>
 some j
def z245 (N:Nat) (a:ByteArray):Option Bool :=
 some (!(a.toList==a.toList))
def z229 (N:Nat) (a:ByteArray) (b:ByteArray):Option Int :=
 (z245 N a).bind fun c =>
 (z245 N b).bind fun d =>
 bif c then (bif d then (some 0)
 else some (-1))
 else bif d then (some 1)
 else bif (Op.bytesLess a.toList b.toList) then (some (-1))
 else bif (!((Op.bytesLess a.toList b.toList) || (a.toList==b.toList))) then (some 1)
 else some 0
def z196 (N:Nat) (a:T12) (b:T12):Option Int :=
 (z228 N a.Kind b.Kind).bind fun c =>
 (z228 N a.N b.N).bind fun d =>
 (z228 N (a.S.size:Int) (b.S.size:Int)).bind fun e =>
 (z229 N a.S b.S).bind fun f =>
 (z227 N ([c,d,e,f]:List Int)).bind fun g =>
 some g
def z195 (N:Nat) (a:T12) (b:T12):Option Bool :=
 (z196 N a b).bind fun c =>
 some (c==0)
def z194_24_k1:Option Bool :=
 some true
def z194_24_l2 (N:Nat) (a:(List T12)) (b:(List T12)):Nat→Int→Option Bool
 | 0,_=>none
 | c+1,d =>
 bif (decide (d < (a.length:Int))) then ((idx a d).bind fun e =>
 (idx b d).bind fun f =>
 (z195 N e f).bind fun g =>
 bif (!g) then (some false)
 else (z194_24_l2 N a b c) (w64 (d+1)))
 else z194_24_k1
def z194_24 (N:Nat) (a:(List T12)) (b:(List T12)):Option Bool :=
 bif ((a.length:Int) != (b.length:Int)) then (some false)
 else z194_24_l2 N a b N 0
def z139 (N:Nat) (a:(List T12)) (b:(List T12)):Option Bool :=
 (z194_24 N a b).bind fun c =>
 some c
def z140 (N:Nat) (a:(List T0)) (b:Int) (c:(List T12)) (d:(List T12)):Option ((List T12) × Int) :=
 (z81 N a b d).bind fun e =>
 bif (!e) then (some (([]:List T12),1))
 else (idx a b).bind fun f =>
 (z90 N f.Fields c).bind fun g =>
 bif (!g) then (some (([]:List T12),11))
 else (idx a b).bind fun h =>
 (z87 N h c d).bind fun i =>
 some (i,0)
def z73_k1 (N:Nat) (a:T5) (b:T8) (c:T18) (d:T3) (e:Int) (f:Bool):Option (T18 × Int) :=
 bif f then (some ((⟨0,([]:List T12),([]:List T12)⟩:T18),17))
 else (idx b.Moves e).bind fun g =>
 (z140 N a.Decls d.Label d.Values c.Known).bind fun h =>
 bif d.Send then ((z37 N d.Values).bind fun i =>
 some ((⟨g.To,h.1,i⟩:T18),0))
 else some ((⟨g.To,h.1,([]:List T12)⟩:T18),0)
def z73 (N:Nat) (a:T5) (b:T8) (c:T18) (d:T3):Option (T18 × Int) :=
 (z136_19 N b.Moves c d).bind fun e =>
 bif (d.Role != b.Role) then (some ((⟨0,([]:List T12),([]:List T12)⟩:T18),12))
 else bif (decide (e < 0)) then (some ((⟨0,([]:List T12),([]:List T12)⟩:T18),23))
 else (idx a.Decls d.Label).bind fun f =>
 (z138 N f.Fields d.Values).bind fun g =>
 bif (!g) then (some ((⟨0,([]:List T12),([]:List T12)⟩:T18),11))
 else (z38 N a.Decls d.Label d.Values c.Known).bind fun h =>
 bif (!h) then (z73_k1 N a b c d e true)
 else (idx b.Moves e).bind fun i =>
 bif i.Again then ((z139 N d.Values c.Pending).bind fun j =>
 z73_k1 N a b c d e (!j))
 else z73_k1 N a b c d e false
def z31_k1 (a:(List T3)) (b:Int) (c:(List T12)) (d:(List T12)):Option (T18 × Int × Int) :=
 some ((⟨b,c,d⟩:T18),(a.length:Int),0)
def z31_l2 (N:Nat) (a:T5) (b:T8) (c:(List T3)):Nat→Int→(List T12)→(List T12)→Int→Option (T18 × Int × Int)
 | 0,_,_,_,_=>none
 | d+1,e,f,g,h =>
 bif (decide (h < (c.length:Int))) then ((idx c h).bind fun i =>
 (z73 N a b (⟨e,f,g⟩:T18) i).bind fun j =>
 bif (j.2 != 0) then (some ((⟨e,f,g⟩:T18),h,j.2))
 else (z31_l2 N a b c d) j.1.At j.1.Known j.1.Pending (w64 (h+1)))
 else z31_k1 c e f g
def z31 (N:Nat) (a:T5) (b:T8) (c:(List T3)):Option (T18 × Int × Int) :=
 (z13 N a b).bind fun d =>
 (z34 N a b d).bind fun e =>
 bif (!e) then (some ((⟨0,([]:List T12),([]:List T12)⟩:T18),0,1))
 else z31_l2 N a b c N d.At d.Known d.Pending 0
def z33 (N:Nat) (a:(List T3)):Option (List T3) :=
 (appL ([]:List T3) a).bind fun b =>
 some b
def z198 (N:Nat) (a:(List T0)) (b:Int) (c:(List T12)) (d:(List T12)):Option (List T12) :=
 (appL ([]:List T12) d).bind fun e =>
 (idx a b).bind fun f =>
 (lsl e (some f.First) none).bind fun g =>
 (cpL e (some f.First) none c).bind fun h =>
 some h.1
def z230 (N:Nat) (a:(List T12)) (b:Int):Option (Int × Bool) :=
 bif (decide (b < 0)) then (some (0,true))
 else (idx a b).bind fun c =>
 (z146 N c).bind fun d =>
 (idx a b).bind fun e =>
 some (d,(e.Kind != 0))
def z197_k1:Option (Int × Bool) :=
 some (0,false)
def z197_l2 (a:T6) (b:(List T12)):Nat→Int→Option (Int × Bool)
 | 0,_=>none
 | c+1,d =>
 bif (decide (d < (a.Equals.length:Int))) then ((idx a.Equals d).bind fun e =>
 (idx b e.1).bind fun f =>
 (idx b e.2).bind fun g =>
 bif (f.Kind==0) then (some ((w64 ((a.Diffs.length:Int)+d)),true))
 else bif (g.Kind==0) then (some ((w64 ((a.Diffs.length:Int)+d)),true))
 else bif (!(f.S.toList==g.S.toList)) then (some ((w64 ((a.Diffs.length:Int)+d)),true))
 else (z197_l2 a b c) (w64 (d+1)))
 else z197_k1
def z197_k3 (N:Nat) (a:T6) (b:(List T12)):Option (Int × Bool) :=
 z197_l2 a b N 0
def z197_l4 (N:Nat) (a:T6) (b:(List T12)):Nat→Int→Option (Int × Bool)
 | 0,_=>none
 | c+1,d =>
 bif (decide (d < (a.Diffs.length:Int))) then ((idx a.Diffs d).bind fun e =>
 (z230 N b e.X).bind fun f =>
 (z230 N b e.Y).bind fun g =>
 bif (!f.2) then (some (d,true))
 else bif (!g.2) then (some (d,true))
 else bif (decide ((w64 (f.1-g.1)) > e.C)) then (some (d,true))
 else (z197_l4 N a b c) (w64 (d+1)))
 else z197_k3 N a b
def z197 (N:Nat) (a:T6) (b:(List T12)):Option (Int × Bool) :=
 z197_l4 N a b N 0
def z199_k1 (a:(List T12)):Option Int :=
 some (a.length:Int)
def z199_l2 (N:Nat) (a:(List T12)) (b:(List T12)):Nat→Int→Option Int
 | 0,_=>none
 | c+1,d =>
 bif (decide (d < (a.length:Int))) then (bif (decide (d≥(b.length:Int))) then (some d)
 else (idx a d).bind fun e =>
 (idx b d).bind fun f =>
 (z196 N e f).bind fun g =>
 bif (g != 0) then (some d)
 else (z199_l2 N a b c) (w64 (d+1)))
 else z199_k1 a
def z199 (N:Nat) (a:(List T12)) (b:(List T12)):Option Int :=
 z199_l2 N a b N 0
def z141_k1 (N:Nat) (a:T5) (b:T18) (c:T3) (d:T0):Option (Int × Int) :=
 (z198 N a.Decls c.Label c.Values b.Known).bind fun e =>
 (z197 N d.Guard e).bind fun f =>
 bif f.2 then (some (5,f.1))
 else (z199 N c.Values b.Pending).bind fun g =>
 some (6,g)
def z141_l2 (N:Nat) (a:T5) (b:T18) (c:T3) (d:T0):Nat→Int→Option (Int × Int)
 | 0,_=>none
 | e+1,f =>
 bif (decide (f < (d.Fields.length:Int))) then ((idx d.Fields f).bind fun g =>
 (idx c.Values f).bind fun h =>
 (z78 N g.Sort' h).bind fun i =>
 bif (!i) then (some (4,f))
 else (z141_l2 N a b c d e) (w64 (f+1)))
 else z141_k1 N a b c d
def z141 (N:Nat) (a:T5) (b:T18) (c:T3) (d:Int):Option (Int × Int) :=
 bif (d==12) then (some (1,0))
 else bif (d==23) then (some (2,0))
 else (idx a.Decls c.Label).bind fun e =>
 bif ((c.Values.length:Int) != (e.Fields.length:Int)) then (some (3,0))
 else z141_l2 N a b c e N 0
def z74_k1 (N:Nat) (a:T5) (b:T8) (c:(List T3)) (d:T18 × Int × Int) (e:Bool):Option (T13 × Bool × Int) :=
 bif e then (some ((⟨0,0,0,0⟩:T13),false,d.2.2))
 else (idx c d.2.1).bind fun f =>
 (z141 N a d.1 f d.2.2).bind fun g =>
 bif (g.1==1) then (some ((⟨d.2.1,g.1,g.2,f.Role⟩:T13),true,0))
 else bif f.Send then (some ((⟨d.2.1,g.1,g.2,b.Role⟩:T13),true,0))
 else some ((⟨d.2.1,g.1,g.2,f.Peer⟩:T13),true,0)
def z74 (N:Nat) (a:T5) (b:T8) (c:(List T3)):Option (T13 × Bool × Int) :=
 (z31 N a b c).bind fun d =>
 bif (d.2.2==0) then (z74_k1 N a b c d true)
 else z74_k1 N a b c d (d.2.2==1)
def z142 (N:Nat) (a:(List ByteArray)) (b:Int):Option ByteArray :=
 bif (decide (b < 0)) then (some (str [63]))
 else bif (decide (b≥(a.length:Int))) then (some (str [63]))
 else (idx a b).bind fun c =>
 some c
def z143_k1 (a:(List ByteArray)):Option (List ByteArray) :=
 some a
def z143_l2 (a:(List T0)):Nat→(List ByteArray)→Int→Option (List ByteArray)
 | 0,_,_=>none
 | b+1,c,d =>
 bif (decide (d < (a.length:Int))) then ((idx a d).bind fun e =>
 (appL c ([e.Name]:List ByteArray)).bind fun f =>
 (z143_l2 a b) f (w64 (d+1)))
 else z143_k1 c
def z143 (N:Nat) (a:(List T0)):Option (List ByteArray) :=
 z143_l2 a N ([]:List ByteArray) 0
def z109_25 (N:Nat) (a:ByteArray):Option ByteArray :=
 some ByteArray.empty
def z200_26 (N:Nat) (a:Int) (b:ByteArray):Option (Unit × ByteArray) :=
 (z109_25 N ByteArray.empty).bind fun c =>
 (apI c ([a]:List Int)).bind fun d =>
 some ((),d)
def z109_27 (N:Nat) (a:ByteArray):Option Unit :=
 some ()
def z200_28 (N:Nat) (a:Int) (b:ByteArray):Option (Unit × ByteArray) :=
 (z109_27 N b).bind fun c =>
 (apI b ([a]:List Int)).bind fun d =>
 some ((),d)
def z53_29 (N:Nat) (a:ByteArray):Option ByteArray :=
 (gdB a).bind fun b =>
 (gdB a).bind fun c =>
 some a
def z145_k1 (N:Nat) (a:ByteArray):Option ByteArray :=
 (z200_28 N 34 a).bind fun b =>
 (z53_29 N b.2).bind fun c =>
 some c
def z145_l2 (N:Nat) (a:T12):Nat→ByteArray→Int→Option ByteArray
 | 0,_,_=>none
 | b+1,c,d =>
 bif (decide (d < (a.S.size:Int))) then ((sidx a.S d).bind fun e =>
 bif (e==34) then ((z200_28 N 92 c).bind fun f =>
 (sidx a.S d).bind fun g =>
 (z200_28 N g f.2).bind fun h =>
 (z145_l2 N a b) h.2 (w64 (d+1)))
 else (sidx a.S d).bind fun i =>
 bif (i==92) then ((z200_28 N 92 c).bind fun j =>
 (sidx a.S d).bind fun k =>
 (z200_28 N k j.2).bind fun l =>
 (z145_l2 N a b) l.2 (w64 (d+1)))
 else (sidx a.S d).bind fun m =>
 (z200_28 N m c).bind fun o =>
 (z145_l2 N a b) o.2 (w64 (d+1)))
 else z145_k1 N c
def z145 (N:Nat) (a:T12):Option ByteArray :=
 (z148 N a).bind fun b =>
 bif (!b) then (some (str [63]))
 else bif (a.Kind==1) then ((z48 N a.N).bind fun c =>
 some c)
 else (z200_26 N 34 ByteArray.empty).bind fun d =>
 z145_l2 N a N d.2 0
def z144_k1 (N:Nat) (a:(List ByteArray)):Option ByteArray :=
 (z25 N a (str [44,32])).bind fun b =>
 (catS (str [40]) b).bind fun c =>
 (catS c (str [41])).bind fun d =>
 some d
def z144_l2 (N:Nat) (a:(List T12)):Nat→(List ByteArray)→Int→Option ByteArray
 | 0,_,_=>none
 | b+1,c,d =>
 bif (decide (d < (a.length:Int))) then ((idx a d).bind fun e =>
 (z145 N e).bind fun f =>
 (appL c ([f]:List ByteArray)).bind fun g =>
 (z144_l2 N a b) g (w64 (d+1)))
 else z144_k1 N c
def z144 (N:Nat) (a:(List T12)):Option ByteArray :=
 z144_l2 N a N ([]:List ByteArray) 0
def z75_k1 (N:Nat) (a:T5) (b:T3) (c:ByteArray) (d:ByteArray):Option ByteArray :=
 (z142 N a.Roles b.Role).bind fun e =>
 (catS e c).bind fun f =>
 (z143 N a.Decls).bind fun g =>
 (z142 N g b.Label).bind fun h =>
 (catS f h).bind fun i =>
 (z144 N b.Values).bind fun j =>
 (catS i j).bind fun k =>
 (catS k d).bind fun l =>
 (z142 N a.Roles b.Peer).bind fun m =>
 (catS l m).bind fun o =>
 some o
def z75 (N:Nat) (a:T5) (b:T3):Option ByteArray :=
 bif b.Send then (z75_k1 N a b (str [32,115,101,110,100,115,32]) (str [32,116,111,32]))
 else z75_k1 N a b (str [32,103,101,116,115,32]) (str [32,102,114,111,109,32])
def z76 (N:Nat) (a:T5) (b:T8) (c:T13) (d:T3):Option ByteArray :=
 bif (c.Kind==1) then ((z142 N a.Roles b.Role).bind fun e =>
 (catS (str [105,115,32,110,111,116,32,97,110,32,101,118,101,110,116,32,111,102,32]) e).bind fun f =>
 some f)
 else bif (c.Kind==2) then (some (str [105,115,32,110,111,116,32,112,101,114,109,105,116,116,101,100,32,104,101,114,101]))
 else bif (c.Kind==3) then ((z48 N (d.Values.length:Int)).bind fun g =>
 (catS (str [104,97,115,32]) g).bind fun h =>
 (catS h (str [32,118,97,108,117,101,115,32,105,110,115,116,101,97,100,32,111,102,32])).bind fun i =>
 (idx a.Decls d.Label).bind fun j =>
 (z48 N (j.Fields.length:Int)).bind fun k =>
 (catS i k).bind fun l =>
 some l)
 else bif (c.Kind==4) then ((idx a.Decls d.Label).bind fun m =>
 (idx m.Fields c.Part).bind fun o =>
 (idx d.Values c.Part).bind fun p =>
 (z145 N p).bind fun q =>
 (catS (str [104,97,115,32,116,104,101,32,118,97,108,117,101,32]) q).bind fun r =>
 (catS r (str [32,102,111,114,32])).bind fun s =>
 (catS s o.Name).bind fun t =>
 (catS t (str [44,32,119,104,105,99,104,32,105,115,32,110,111,116,32,102,114,111,109,32])).bind fun u =>
 (z48 N o.Sort'.Lo).bind fun v =>
 (catS u v).bind fun w =>
 (catS w (str [32,116,111,32])).bind fun x =>
 (z48 N o.Sort'.Hi).bind fun y =>
 (catS x y).bind fun z =>
 some z)
 else bif (c.Kind==5) then ((z24 N a.Decls d.Label c.Part).bind fun A =>
 (catS (str [100,111,101,115,32,110,111,116,32,107,101,101,112,32,116,104,101,32,103,117,97,114,100,32]) A).bind fun B =>
 some B)
 else some (str [100,111,101,115,32,110,111,116,32,104,97,118,101,32,116,104,101,32,115,97,109,101,32,118,97,108,117,101,115,32,97,115,32,116,104,101,32,109,101,115,115,97,103,101,32,97,104,101,97,100])
def z32 (N:Nat) (a:T5) (b:T8) (c:(List T3)):Option (ByteArray × Int) :=
 (z74 N a b c).bind fun d =>
 bif (d.2.2 != 0) then (some ((str []),d.2.2))
 else bif (!d.2.1) then (some ((str []),d.2.2))
 else (idx c d.1.At).bind fun e =>
 (z75 N a e).bind fun f =>
 (catS f (str [32])).bind fun g =>
 (z76 N a b d.1 e).bind fun h =>
 (catS g h).bind fun i =>
 some (i,0)
def z11 (N:Nat) (a:T5) (b:T8) (c:(List T3)) (d:T3):Option (ByteArray × Int) :=
 (z31 N a b c).bind fun e =>
 bif (e.2.2==1) then (some ((str []),1))
 else bif (e.2.2 != 0) then (some ((str []),7))
 else (z33 N c).bind fun f =>
 (appL f ([d]:List T3)).bind fun g =>
 (z32 N a b g).bind fun h =>
 bif (h.2 != 0) then (some ((str []),h.2))
 else bif (h.1.toList==(str []).toList) then (some ((str []),h.2))
 else (z30 N a b e.1.At).bind fun i =>
 (z25 N i (str [59,32])).bind fun j =>
 bif (j.toList==(str []).toList) then ((catS h.1 (str [59,32,112,101,114,109,105,116,116,101,100,58,32])).bind fun k =>
 (catS k (str [110,111,116,104,105,110,103])).bind fun l =>
 some (l,0))
 else (catS h.1 (str [59,32,112,101,114,109,105,116,116,101,100,58,32])).bind fun m =>
 (catS m j).bind fun o =>
 some (o,0)
def z209 (N:Nat) (a:Int) (b:Int):Option Int :=
 bif (a==b) then (some 0)
 else bif (a==0) then (some 10000)
 else bif (b==0) then (some 10000)
 else some 20000
def z156_k1 (a:Int) (b:(List Int)):Option T26 :=
 some (⟨a,b⟩:T26)
def z156_k3 (a:Int) (b:(List Int)→Int→Option T26) (c:(List Int)):Option T26 :=
 b c (w64 (a+1))
def z156_l4 (N:Nat) (a:Int) (b:Int) (c:(List Int)→Int→Option T26):Nat→(List Int)→Int→Option T26
 | 0,_,_=>none
 | d+1,e,f =>
 bif (decide (f < (w64 (a+1)))) then ((z209 N b f).bind fun g =>
 (idx e (w64 ((w64 (b * (w64 (a+1))))+f))).bind fun h =>
 (z156_l4 N a b c d) (setL' e (w64 ((w64 (b * (w64 (a+1))))+f)) g) (w64 (f+1)))
 else z156_k3 b c e
def z156_l2 (N:Nat) (a:Int):Nat→(List Int)→Int→Option T26
 | 0,_,_=>none
 | b+1,c,d =>
 bif (decide (d < (w64 (a+1)))) then (z156_l4 N a d (z156_l2 N a b) N c 0)
 else z156_k1 a c
def z156 (N:Nat) (a:Int):Option T26 :=
 (mkL 0 (w64 ((w64 (a+1)) * (w64 (a+1)))) (w64 ((w64 (a+1)) * (w64 (a+1))))).bind fun b =>
 z156_l2 N a N b 0
def z82 (N:Nat) (a:Int):Option (T26 × Int) :=
 bif (decide (a < 0)) then (some ((⟨0,([]:List Int)⟩:T26),2))
 else bif (decide (a > 24)) then (some ((⟨0,([]:List Int)⟩:T26),2))
 else (z156 N a).bind fun b =>
 some (b,0)
def z210_k1 (a:Int):Option Int :=
 some a
def z210_l2 (a:(List Int)):Nat→Int→Int→Option Int
 | 0,_,_=>none
 | b+1,c,d =>
 bif (decide (d < (a.length:Int))) then ((idx a d).bind fun e =>
 (z210_l2 a b) (minI c e) (w64 (d+1)))
 else z210_k1 c
def z210 (N:Nat) (a:(List Int)):Option Int :=
 bif (decide ((a.length:Int) < 1)) then (dead 0)
 else (idx a 0).bind fun b =>
 z210_l2 a N b 1
def z211_k1 (a:Int):Option Int :=
 some a
def z211_l2 (a:(List Int)):Nat→Int→Int→Option Int
 | 0,_,_=>none
 | b+1,c,d =>
 bif (decide (d < (a.length:Int))) then ((idx a d).bind fun e =>
 (z211_l2 a b) (maxI c e) (w64 (d+1)))
 else z211_k1 c
def z211 (N:Nat) (a:(List Int)):Option Int :=
 bif (decide ((a.length:Int) < 1)) then (dead 0)
 else (idx a 0).bind fun b =>
 z211_l2 a N b 1
def z157 (N:Nat) (a:T26):Option Bool :=
 bif (decide (a.N≥0)) then (bif (decide (a.N≤24)) then (bif ((a.B.length:Int)==(w64 ((w64 (a.N+1)) * (w64 (a.N+1))))) then ((z210 N a.B).bind fun b =>
 bif (decide (b≥(-20001))) then ((z211 N a.B).bind fun c =>
 some (decide (c≤20000)))
 else some false)
 else some false)
 else some false)
 else some false
def z158 (N:Nat) (a:T26) (b:Int):Option Bool :=
 bif (decide (b≥(-1))) then (some (decide (b < a.N)))
 else some false
def z159 (N:Nat) (a:(List Int)):Option (List Int) :=
 (appL ([]:List Int) a).bind fun b =>
 some b
def z84 (N:Nat) (a:T26) (b:T1):Option (T26 × Int) :=
 (z157 N a).bind fun c =>
 bif (!c) then (some ((⟨0,([]:List Int)⟩:T26),1))
 else (z158 N a b.X).bind fun d =>
 bif (!d) then (some ((⟨0,([]:List Int)⟩:T26),2))
 else (z158 N a b.Y).bind fun e =>
 bif (!e) then (some ((⟨0,([]:List Int)⟩:T26),2))
 else (z159 N a.B).bind fun f =>
 (idx f (w64 ((w64 ((w64 ((w64 (b.X+1)) * (w64 (a.N+1))))+b.Y))+1))).bind fun g =>
 (idx f (w64 ((w64 ((w64 ((w64 (b.X+1)) * (w64 (a.N+1))))+b.Y))+1))).bind fun h =>
 some ((⟨a.N,(setL' f (w64 ((w64 ((w64 ((w64 (b.X+1)) * (w64 (a.N+1))))+b.Y))+1)) (minI g (maxI b.C (-20001))))⟩:T26),0)
def z160_k1 (a:T26) (b:(List Int)):Option (T26 × Bool) :=
 some ((⟨a.N,b⟩:T26),true)
def z160_k3 (a:Int) (b:(List Int)→Int→Option (T26 × Bool)) (c:(List Int)):Option (T26 × Bool) :=
 b c (w64 (a+1))
def z160_l4 (a:T26) (b:Int) (c:(List Int)→Int→Option (T26 × Bool)) (d:(List Int)):Nat→Int→Option (T26 × Bool)
 | 0,_=>none
 | e+1,f =>
 bif (decide (f < (w64 (a.N+1)))) then ((idx d (w64 ((w64 (f * (w64 (a.N+1))))+f))).bind fun g =>
 bif (decide (g < 0)) then (some ((⟨0,([]:List Int)⟩:T26),false))
 else (z160_l4 a b c d e) (w64 (f+1)))
 else z160_k3 b c d
def z160_k5 (N:Nat) (a:T26) (b:Int) (c:(List Int)→Int→Option (T26 × Bool)) (d:(List Int)):Option (T26 × Bool) :=
 z160_l4 a b c d N 0
def z160_k7 (a:Int) (b:(List Int)→Int→Option (T26 × Bool)) (c:(List Int)):Option (T26 × Bool) :=
 b c (w64 (a+1))
def z160_l8 (a:T26) (b:Int) (c:Int) (d:(List Int)→Int→Option (T26 × Bool)):Nat→(List Int)→Int→Option (T26 × Bool)
 | 0,_,_=>none
 | e+1,f,g =>
 bif (decide (g < (w64 (a.N+1)))) then ((idx f (w64 ((w64 (c * (w64 (a.N+1))))+g))).bind fun h =>
 (idx f (w64 ((w64 (c * (w64 (a.N+1))))+b))).bind fun i =>
 (idx f (w64 ((w64 (b * (w64 (a.N+1))))+g))).bind fun j =>
 (idx f (w64 ((w64 (c * (w64 (a.N+1))))+g))).bind fun k =>
 (z160_l8 a b c d e) (setL' f (w64 ((w64 (c * (w64 (a.N+1))))+g)) (minI h (w64 (i+j)))) (w64 (g+1)))
 else z160_k7 c d f
def z160_l6 (N:Nat) (a:T26) (b:Int) (c:(List Int)→Int→Option (T26 × Bool)):Nat→(List Int)→Int→Option (T26 × Bool)
 | 0,_,_=>none
 | d+1,e,f =>
 bif (decide (f < (w64 (a.N+1)))) then (z160_l8 a b f (z160_l6 N a b c d) N e 0)
 else z160_k5 N a b c e
def z160_l2 (N:Nat) (a:T26):Nat→(List Int)→Int→Option (T26 × Bool)
 | 0,_,_=>none
 | b+1,c,d =>
 bif (decide (d < (w64 (a.N+1)))) then (z160_l6 N a d (z160_l2 N a b) N c 0)
 else z160_k1 a c
def z160_k9 (N:Nat) (a:T26) (b:(List Int)):Option (T26 × Bool) :=
 z160_l2 N a N b 0
def z160_k11 (a:Int) (b:(List Int)→Int→Option (T26 × Bool)) (c:(List Int)):Option (T26 × Bool) :=
 b c (w64 (a+1))
def z160_l12 (N:Nat) (a:T26) (b:Int) (c:(List Int)→Int→Option (T26 × Bool)):Nat→(List Int)→Int→Option (T26 × Bool)
 | 0,_,_=>none
 | d+1,e,f =>
 bif (decide (f < (w64 (a.N+1)))) then ((idx e (w64 ((w64 (b * (w64 (a.N+1))))+f))).bind fun g =>
 (z209 N b f).bind fun h =>
 (idx e (w64 ((w64 (b * (w64 (a.N+1))))+f))).bind fun i =>
 (z160_l12 N a b c d) (setL' e (w64 ((w64 (b * (w64 (a.N+1))))+f)) (minI g h)) (w64 (f+1)))
 else z160_k11 b c e
def z160_l10 (N:Nat) (a:T26):Nat→(List Int)→Int→Option (T26 × Bool)
 | 0,_,_=>none
 | b+1,c,d =>
 bif (decide (d < (w64 (a.N+1)))) then (z160_l12 N a d (z160_l10 N a b) N c 0)
 else z160_k9 N a c
def z160 (N:Nat) (a:T26):Option (T26 × Bool) :=
 (z157 N a).bind fun b =>
 bif (!b) then (some ((⟨0,([]:List Int)⟩:T26),false))
 else (z159 N a.B).bind fun c =>
 z160_l10 N a N c 0
def z161 (N:Nat) (a:T26) (b:Int) (c:Int):Option Int :=
 (idx a.B (w64 ((w64 (b * (w64 (a.N+1))))+c))).bind fun d =>
 some d
def z85_k1 (a:(List Int)):Option ((List Int) × Bool) :=
 some (a,true)
def z85_k3 (a:(List Int)) (b:Int) (c:(List Int)→Int→Option ((List Int) × Bool)) (d:Int):Option ((List Int) × Bool) :=
 (appL a ([d]:List Int)).bind fun e =>
 c e (w64 (b+1))
def z85_l4 (N:Nat) (a:T26 × Bool) (b:(List Int)) (c:Int) (d:(List Int)→Int→Option ((List Int) × Bool)):Nat→Int→Int→Option ((List Int) × Bool)
 | 0,_,_=>none
 | e+1,f,g =>
 bif (decide (g < (b.length:Int))) then ((idx b g).bind fun h =>
 (z161 N a.1 (w64 (g+1)) (w64 (c+1))).bind fun i =>
 (z85_l4 N a b c d e) (maxI f (w64 (h-i))) (w64 (g+1)))
 else z85_k3 b c d f
def z85_l2 (N:Nat) (a:T26) (b:T26 × Bool):Nat→(List Int)→Int→Option ((List Int) × Bool)
 | 0,_,_=>none
 | c+1,d,e =>
 bif (decide (e < a.N)) then ((z161 N b.1 0 (w64 (e+1))).bind fun f =>
 z85_l4 N b d e (z85_l2 N a b c) N (w64 (0-f)) 0)
 else z85_k1 d
def z85 (N:Nat) (a:T26):Option ((List Int) × Bool) :=
 (z160 N a).bind fun b =>
 bif (!b.2) then (some (([]:List Int),false))
 else z85_l2 N a b N ([]:List Int) 0
def repL (l:List UInt8):Nat→List UInt8
 | 0=>[]
 | n+1=>l++repL l n
def z86 (N:Nat) (a:ByteArray) (b:Int):Option ByteArray :=
 bif (decide (0≤b) && decide (b≤140737488355328)) && decide (a.size * b.toNat≤140737488355328) then some ⟨(repL a.data.toList b.toNat).toArray⟩ else none
def z88_k1 (a:(List T12)):Option (List T12) :=
 some a
def z88_k3 (a:(List T12)→(List Bool)→Bool→Option (List T12)) (b:(List T12)) (c:(List Bool)) (d:Bool):Option (List T12) :=
 a b c d
def z88_k5 (a:Int) (b:(List T12)→(List Bool)→Bool→Int→Option (List T12)) (c:(List T12)) (d:(List Bool)) (e:Bool):Option (List T12) :=
 b c d e (w64 (a+1))
def z88_k7 (a:(List T12)) (b:(List Bool)) (c:Bool) (d:Int) (e:(List T12)→(List Bool)→Bool→Int→Option (List T12)) (f:Int) (g:Int):Option (List T12) :=
 (idx b g).bind fun h =>
 bif h then ((idx b f).bind fun i =>
 bif (!i) then ((idx a g).bind fun j =>
 (idx a f).bind fun k =>
 (idx b f).bind fun l =>
 e (setL' a f (⟨k.Kind,k.N,j.S⟩:T12)) (setL' b f true) true (w64 (d+1)))
 else e a b c (w64 (d+1)))
 else e a b c (w64 (d+1))
def z88_l6 (a:Int) (b:(List T12)→(List Bool)→Bool→Int→Option (List T12)) (c:(Int × Int)):Nat→(List T12)→(List Bool)→Bool→Int→Option (List T12)
 | 0,_,_,_,_=>none
 | d+1,e,f,g,h =>
 bif (decide (h < 2)) then ((idx ([c.1,c.2]:List Int) h).bind fun i =>
 bif ((w64 (1-h))==0) then (z88_k7 e f g h (z88_l6 a b c d) i c.1)
 else bif ((w64 (1-h))==1) then (z88_k7 e f g h (z88_l6 a b c d) i c.2)
 else none)
 else z88_k5 a b e f g
def z88_l4 (N:Nat) (a:T0) (b:(List T12)→(List Bool)→Bool→Option (List T12)):Nat→(List T12)→(List Bool)→Bool→Int→Option (List T12)
 | 0,_,_,_,_=>none
 | c+1,d,e,f,g =>
 bif (decide (g < (a.Guard.Equals.length:Int))) then ((idx a.Guard.Equals g).bind fun h =>
 z88_l6 g (z88_l4 N a b c) h N d e f 0)
 else z88_k3 b d e f
def z88_l2 (N:Nat) (a:T0):Nat→(List T12)→(List Bool)→Bool→Option (List T12)
 | 0,_,_,_=>none
 | b+1,c,d,e =>
 bif e then (z88_l4 N a (z88_l2 N a b) N c d false 0)
 else z88_k1 c
def z88_k8 (N:Nat) (a:T0) (b:(List T12)) (c:(List Bool)):Option (List T12) :=
 z88_l2 N a N b c true
def z88_l9 (N:Nat) (a:T0) (b:(List T12)):Nat→(List Bool)→Int→Option (List T12)
 | 0,_,_=>none
 | c+1,d,e =>
 bif (decide (e < (b.length:Int))) then (bif (decide (e < a.First)) then ((idx b e).bind fun f =>
 (idx d e).bind fun g =>
 (z88_l9 N a b c) (setL' d e (f.Kind != 0)) (w64 (e+1)))
 else bif (decide (e≥(w64 (a.First+(a.Fields.length:Int))))) then ((idx b e).bind fun h =>
 (idx d e).bind fun i =>
 (z88_l9 N a b c) (setL' d e (h.Kind != 0)) (w64 (e+1)))
 else (idx d e).bind fun j =>
 (z88_l9 N a b c) (setL' d e false) (w64 (e+1)))
 else z88_k8 N a b d
def z88 (N:Nat) (a:T0) (b:(List T12)):Option (List T12) :=
 (mkL false (b.length:Int) (b.length:Int)).bind fun c =>
 z88_l9 N a b N c 0
def z36_k1 (N:Nat) (a:(List T12)) (b:T0) (c:(List T12)):Option ((List T12) × Bool) :=
 (z87 N b c a).bind fun d =>
 (z88 N b d).bind fun e =>
 (lsl e (some b.First) (some (w64 (b.First+(b.Fields.length:Int))))).bind fun f =>
 (cpL c none none f).bind fun g =>
 (z89 N b.Guard e).bind fun h =>
 bif (!h) then (some (([]:List T12),false))
 else (z90 N b.Fields g.1).bind fun i =>
 bif (!i) then (some (([]:List T12),false))
 else some (g.1,true)
def z36_l2 (N:Nat) (a:(List T12)) (b:T0) (c:(List Int) × Bool):Nat→(List T12)→Int→Option ((List T12) × Bool)
 | 0,_,_=>none
 | d+1,e,f =>
 bif (decide (f < (b.Fields.length:Int))) then ((idx b.Fields f).bind fun g =>
 (idx c.1 f).bind fun h =>
 (idx e f).bind fun i =>
 bif (g.Sort'.Kind==2) then ((idx c.1 f).bind fun j =>
 (z86 N (str [97]) j).bind fun k =>
 (idx (setL' e f (⟨g.Sort'.Kind,h,(str [])⟩:T12)) f).bind fun l =>
 (z36_l2 N a b c d) (setL' (setL' e f (⟨g.Sort'.Kind,h,(str [])⟩:T12)) f (⟨2,0,k⟩:T12)) (w64 (f+1)))
 else (z36_l2 N a b c d) (setL' e f (⟨g.Sort'.Kind,h,(str [])⟩:T12)) (w64 (f+1)))
 else z36_k1 N a b e
def z36_k3 (N:Nat) (a:(List T12)) (b:T0) (c:Int) (d:(List Int)):Option ((List T12) × Bool) :=
 (z85 N (⟨c,d⟩:T26)).bind fun e =>
 bif (!e.2) then (some (([]:List T12),false))
 else (mkL (⟨0,0,(str [])⟩:T12) (b.Fields.length:Int) (b.Fields.length:Int)).bind fun f =>
 z36_l2 N a b e N f 0
def z36_k5 (N:Nat) (a:Int) (b:(List Int)) (c:Int) (d:Int→(List Int)→Int→Option ((List T12) × Bool)) (e:Int) (f:Int) (g:Int):Option ((List T12) × Bool) :=
 (z84 N (⟨a,b⟩:T26) (⟨f,g,e⟩:T1)).bind fun h =>
 d h.1.N h.1.B (w64 (c+1))
def z36_k7 (N:Nat) (a:(List T12)) (b:T0) (c:Int) (d:Int) (e:Int) (f:Int) (g:Int→Int→Int→Int→Option ((List T12) × Bool)) (h:Int) (i:Bool):Option ((List T12) × Bool) :=
 bif i then (bif (f==0) then (g c (w64 (h-b.First)) e (w64 (f+1)))
 else bif (f==1) then (g c d (w64 (h-b.First)) (w64 (f+1)))
 else none)
 else (idx a h).bind fun j =>
 bif (j.Kind==0) then (some (([]:List T12),false))
 else bif (f==0) then ((idx a h).bind fun k =>
 (z83 N k).bind fun l =>
 g (w64 (c-l)) d e (w64 (f+1)))
 else (idx a h).bind fun m =>
 (z83 N m).bind fun o =>
 g (w64 (c+o)) d e (w64 (f+1))
def z36_l6 (N:Nat) (a:(List T12)) (b:T0) (c:Int) (d:(List Int)) (e:Int) (f:Int→(List Int)→Int→Option ((List T12) × Bool)) (g:T1):Nat→Int→Int→Int→Int→Option ((List T12) × Bool)
 | 0,_,_,_,_=>none
 | h+1,i,j,k,l =>
 bif (decide (l < 2)) then ((idx ([g.X,g.Y]:List Int) l).bind fun m =>
 bif (decide (m < 0)) then ((z36_l6 N a b c d e f g h) i j k (w64 (l+1)))
 else bif (decide (m≥b.First)) then (z36_k7 N a b i j k l (z36_l6 N a b c d e f g h) m (decide (m < (w64 (b.First+(b.Fields.length:Int))))))
 else z36_k7 N a b i j k l (z36_l6 N a b c d e f g h) m false)
 else z36_k5 N c d e f i j k
def z36_l4 (N:Nat) (a:(List T12)) (b:T0) (c:(List T1)):Nat→Int→(List Int)→Int→Option ((List T12) × Bool)
 | 0,_,_,_=>none
 | d+1,e,f,g =>
 bif (decide (g < (c.length:Int))) then ((idx c g).bind fun h =>
 z36_l6 N a b e f g (z36_l4 N a b c d) h N h.C (-1) (-1) 0)
 else z36_k3 N a b e f
def z36 (N:Nat) (a:(List T0)) (b:Int) (c:(List T12)):Option ((List T12) × Bool) :=
 (z81 N a b c).bind fun d =>
 bif (!d) then (some (([]:List T12),false))
 else (idx a b).bind fun e =>
 (z82 N (e.Fields.length:Int)).bind fun f =>
 (z47 N e).bind fun g =>
 z36_l4 N c e g N f.1.N f.1.B 0
def z12_k1 (a:(List T3)):Option (List T3) :=
 some a
def z12_k3 (a:T8) (b:(List T3)) (c:Int) (d:(List T3)→Int→Option (List T3)) (e:T9) (f:(List T12)) (g:Bool):Option (List T3) :=
 bif g then ((appL b ([(⟨a.Role,e.Send,e.Peer,e.Label,f⟩:T3)]:List T3)).bind fun h =>
 d h (w64 (c+1)))
 else d b (w64 (c+1))
def z12_l2 (N:Nat) (a:T5) (b:T8) (c:T18) (d:(List Int)):Nat→(List T3)→Int→Option (List T3)
 | 0,_,_=>none
 | e+1,f,g =>
 bif (decide (g < (d.length:Int))) then ((idx d g).bind fun h =>
 (idx b.Moves h).bind fun i =>
 (z36 N a.Decls i.Label c.Known).bind fun j =>
 bif i.Again then ((z37 N c.Pending).bind fun k =>
 (z38 N a.Decls i.Label c.Pending c.Known).bind fun l =>
 z12_k3 b f g (z12_l2 N a b c d e) i k l)
 else z12_k3 b f g (z12_l2 N a b c d e) i j.1 j.2)
 else z12_k1 f
def z12 (N:Nat) (a:T5) (b:T8) (c:T18):Option (List T3) :=
 (z34 N a b c).bind fun d =>
 bif (!d) then (some ([]:List T3))
 else (z35 N b c.At).bind fun e =>
 z12_l2 N a b c e N ([]:List T3) 0
def z14_k1:Option Bool :=
 some true
def z14_l2 (a:(List ByteArray)) (b:(List ByteArray)):Nat→Int→Option Bool
 | 0,_=>none
 | c+1,d =>
 bif (decide (d < (a.length:Int))) then ((idx a d).bind fun e =>
 (idx b d).bind fun f =>
 bif (!(e.toList==f.toList)) then (some false)
 else (z14_l2 a b c) (w64 (d+1)))
 else z14_k1
def z14 (N:Nat) (a:(List ByteArray)) (b:(List ByteArray)):Option Bool :=
 bif ((a.length:Int) != (b.length:Int)) then (some false)
 else z14_l2 a b N 0
def z16 (N:Nat) (a:Int):Option T12 :=
 some (⟨1,a,(str [])⟩:T12)
def z15_k1:Option Bool :=
 some true
def z15_l2 (a:(List T12)) (b:(List T12)):Nat→Int→Option Bool
 | 0,_=>none
 | c+1,d =>
 bif (decide (d < (a.length:Int))) then ((idx a d).bind fun e =>
 (idx b d).bind fun f =>
 bif (!((e.Kind==f.Kind) && ((e.N==f.N) && ((e.S.toList==f.S.toList) && true)))) then (some false)
 else (z15_l2 a b c) (w64 (d+1)))
 else z15_k1
def z15 (N:Nat) (a:(List T12)) (b:(List T12)):Option Bool :=
 bif ((a.length:Int) != (b.length:Int)) then (some false)
 else z15_l2 a b N 0
def z4 (N:Nat):Option Bool :=
 (z10 N (⟨(str [80]),([(str [97]),(str [98])]:List ByteArray),([(⟨(str [97,115,107]),([(⟨(str [110]),(⟨1,0,9⟩:T10)⟩:T4)]:List T4),0,(⟨([]:List T1),([]:List (Int × Int))⟩:T6)⟩:T0)]:List T0),2,0,1,([(⟨0,(⟨0,1,0⟩:T7),1,false⟩:T2)]:List T2),([]:List T11)⟩:T5) (⟨0,2,0,([false,true]:List Bool),([(⟨0,true,1,0,1,false⟩:T9)]:List T9),([]:List T11)⟩:T8) 0).bind fun a =>
 (z11 N (⟨(str [80]),([(str [97]),(str [98])]:List ByteArray),([(⟨(str [97,115,107]),([(⟨(str [110]),(⟨1,0,9⟩:T10)⟩:T4)]:List T4),0,(⟨([]:List T1),([]:List (Int × Int))⟩:T6)⟩:T0)]:List T0),2,0,1,([(⟨0,(⟨0,1,0⟩:T7),1,false⟩:T2)]:List T2),([]:List T11)⟩:T5) (⟨0,2,0,([false,true]:List Bool),([(⟨0,true,1,0,1,false⟩:T9)]:List T9),([]:List T11)⟩:T8) ([]:List T3) (⟨0,true,1,0,([]:List T12)⟩:T3)).bind fun b =>
 (z13 N (⟨(str [80]),([(str [97]),(str [98])]:List ByteArray),([(⟨(str [97,115,107]),([(⟨(str [110]),(⟨1,0,9⟩:T10)⟩:T4)]:List T4),0,(⟨([]:List T1),([]:List (Int × Int))⟩:T6)⟩:T0)]:List T0),2,0,1,([(⟨0,(⟨0,1,0⟩:T7),1,false⟩:T2)]:List T2),([]:List T11)⟩:T5) (⟨0,2,0,([false,true]:List Bool),([(⟨0,true,1,0,1,false⟩:T9)]:List T9),([]:List T11)⟩:T8)).bind fun c =>
 (z12 N (⟨(str [80]),([(str [97]),(str [98])]:List ByteArray),([(⟨(str [97,115,107]),([(⟨(str [110]),(⟨1,0,9⟩:T10)⟩:T4)]:List T4),0,(⟨([]:List T1),([]:List (Int × Int))⟩:T6)⟩:T0)]:List T0),2,0,1,([(⟨0,(⟨0,1,0⟩:T7),1,false⟩:T2)]:List T2),([]:List T11)⟩:T5) (⟨0,2,0,([false,true]:List Bool),([(⟨0,true,1,0,1,false⟩:T9)]:List T9),([]:List T11)⟩:T8) c).bind fun d =>
 bif (a.2==0) then (bif (b.2==0) then ((z14 N a.1 ([(str [115,101,110,100,32,97,115,107,40,110,58,32,105,110,116,32,48,32,46,46,32,57,41,32,116,111,32,98])]:List ByteArray)).bind fun e =>
 bif e then (bif (b.1.toList==(str [97,32,115,101,110,100,115,32,97,115,107,40,41,32,116,111,32,98,32,104,97,115,32,48,32,118,97,108,117,101,115,32,105,110,115,116,101,97,100,32,111,102,32,49,59,32,112,101,114,109,105,116,116,101,100,58,32,115,101,110,100,32,97,115,107,40,110,58,32,105,110,116,32,48,32,46,46,32,57,41,32,116,111,32,98]).toList) then (bif ((d.length:Int)==1) then ((idx d 0).bind fun f =>
 (z16 N 0).bind fun g =>
 (z15 N f.Values ([g]:List T12)).bind fun h =>
 some h)
 else some false)
 else some false)
 else some false)
 else some false)
 else some false
def z5_k1 (a:(List T0)) (b:Int):Option Bool :=
 bif (decide ((a.length:Int)≤60)) then (some (decide (b≤100)))
 else some false
def z5_l2 (a:(List T0)):Nat→Int→Int→Option Bool
 | 0,_,_=>none
 | b+1,c,d =>
 bif (decide (d < (a.length:Int))) then ((idx a d).bind fun e =>
 (idx a d).bind fun f =>
 (idx a d).bind fun g =>
 (z5_l2 a b) (w64 (c+(w64 ((w64 ((e.Fields.length:Int)+(f.Guard.Diffs.length:Int)))+(g.Guard.Equals.length:Int))))) (w64 (d+1)))
 else z5_k1 a c
def z5 (N:Nat) (a:(List T0)):Option Bool :=
 z5_l2 a N 0 0
def z17_k1 (a:Int):Option Int :=
 some a
def z17_l2 (a:(List T0)):Nat→Int→Int→Option Int
 | 0,_,_=>none
 | b+1,c,d =>
 bif (decide (d < (a.length:Int))) then ((idx a d).bind fun e =>
 (z17_l2 a b) (w64 (c+(e.Fields.length:Int))) (w64 (d+1)))
 else z17_k1 c
def z17 (N:Nat) (a:(List T0)):Option Int :=
 z17_l2 a N 0 0
def z18_k1 (a:T10) (b:Int) (c:Int):Option Bool :=
 bif (a.Kind==1) then (bif (decide (a.Lo≥b)) then (bif (decide (a.Hi≤c)) then (some (decide (a.Lo≤a.Hi)))
 else some false)
 else some false)
 else bif (a.Kind==2) then (bif (decide (a.Lo≥b)) then (bif (decide (a.Hi≤c)) then (some (decide (a.Lo≤a.Hi)))
 else some false)
 else some false)
 else some false
def z18 (N:Nat) (a:T10):Option Bool :=
 bif (a.Kind==2) then (z18_k1 a 0 40)
 else z18_k1 a (-1000) 1000
def z95 (N:Nat) (a:Int):Option Bool :=
 bif (decide (a≥97)) then (bif (decide (a≤122)) then (some true)
 else bif (decide (a≥65)) then (some (decide (a≤90)))
 else some false)
 else bif (decide (a≥65)) then (some (decide (a≤90)))
 else some false
def z171 (N:Nat) (a:Int):Option Bool :=
 bif (decide (a≥48)) then (some (decide (a≤57)))
 else some false
def z96 (N:Nat) (a:Int):Option Bool :=
 (z95 N a).bind fun b =>
 bif b then (some true)
 else (z171 N a).bind fun c =>
 bif c then (some true)
 else some (a==95)
def z41_k1:Option Bool :=
 some true
def z41_l2 (N:Nat) (a:ByteArray):Nat→Int→Option Bool
 | 0,_=>none
 | b+1,c =>
 bif (decide (c < (a.size:Int))) then ((sidx a c).bind fun d =>
 (z96 N d).bind fun e =>
 bif (!e) then (some false)
 else (z41_l2 N a b) (w64 (c+1)))
 else z41_k1
def z41 (N:Nat) (a:ByteArray):Option Bool :=
 bif (a.toList==(str []).toList) then (some false)
 else (sidx a 0).bind fun b =>
 (z95 N b).bind fun c =>
 bif (!c) then (some false)
 else bif (decide ((a.size:Int) > 16)) then (some false)
 else z41_l2 N a N 0
def z43 (N:Nat):Option (List ByteArray) :=
 some ([(str [97,103,97,105,110]),(str [97,110,100]),(str [97,115]),(str [97,116]),(str [99,97,108,108]),(str [99,104,111,105,99,101]),(str [101,108,115,101]),(str [102,114,111,109]),(str [105,102]),(str [105,110,116]),(str [108,101,110]),(str [108,111,111,112]),(str [109,101,115,115,97,103,101]),(str [111,102]),(str [111,102,102,101,114]),(str [111,110]),(str [111,114]),(str [112,97,114]),(str [112,108,97,121,115]),(str [112,114,111,116,111,99,111,108]),(str [115,101,114,118,105,99,101]),(str [116,101,120,116]),(str [116,105,109,101,115]),(str [116,111]),(str [118,97,114]),(str [119,104,101,114,101]),(str [119,104,105,108,101]),(str [119,105,116,104,105,110])]:List ByteArray)
def z42_k1:Option Bool :=
 some false
def z42_l2 (a:(List ByteArray)) (b:ByteArray):Nat→Int→Option Bool
 | 0,_=>none
 | c+1,d =>
 bif (decide (d < (a.length:Int))) then ((idx a d).bind fun e =>
 bif (e.toList==b.toList) then (some true)
 else (z42_l2 a b c) (w64 (d+1)))
 else z42_k1
def z42 (N:Nat) (a:(List ByteArray)) (b:ByteArray):Option Bool :=
 z42_l2 a b N 0
def z19 (N:Nat) (a:ByteArray):Option Bool :=
 (z41 N a).bind fun b =>
 bif b then ((z43 N).bind fun c =>
 (z42 N c a).bind fun d =>
 some (!d))
 else some false
def z44 (N:Nat) (a:ByteArray):Option Bool :=
 (z19 N a).bind fun b =>
 some b
def z20_k1 (a:ByteArray):Option Bool :=
 some (decide ((a.size:Int)≤50))
def z20_k3 (N:Nat) (a:ByteArray) (b:Int) (c:Int) (d:Int→Int→Option Bool) (e:Bool):Option Bool :=
 bif e then ((ssl a (some b) (some c)).bind fun f =>
 (z44 N f).bind fun g =>
 bif (!g) then (some false)
 else d (w64 (c+1)) (w64 (c+1)))
 else d b (w64 (c+1))
def z20_l2 (N:Nat) (a:ByteArray):Nat→Int→Int→Option Bool
 | 0,_,_=>none
 | b+1,c,d =>
 bif (decide (d≤(a.size:Int))) then (bif (d==(a.size:Int)) then (z20_k3 N a c d (z20_l2 N a b) true)
 else (sidx a d).bind fun e =>
 z20_k3 N a c d (z20_l2 N a b) (e==46))
 else z20_k1 a
def z20 (N:Nat) (a:ByteArray):Option Bool :=
 z20_l2 N a N 0 0
def z97_k1:Option T4 :=
 some (⟨(str []),(⟨0,0,0⟩:T10)⟩:T4)
def z97_l2 (a:(List T0)):Nat→Int→Int→Option T4
 | 0,_,_=>none
 | b+1,c,d =>
 bif (decide (d < (a.length:Int))) then ((idx a d).bind fun e =>
 bif (decide (c < (e.Fields.length:Int))) then ((idx a d).bind fun f =>
 (idx f.Fields c).bind fun g =>
 some g)
 else (idx a d).bind fun h =>
 (z97_l2 a b) (w64 (c-(h.Fields.length:Int))) (w64 (d+1)))
 else z97_k1
def z97 (N:Nat) (a:(List T0)) (b:Int):Option T4 :=
 z97_l2 a N b 0
def z45 (N:Nat) (a:(List T0)) (b:Int):Option Bool :=
 bif (decide (b≥0)) then ((z17 N a).bind fun c =>
 bif (decide (b < c)) then ((z97 N a b).bind fun d =>
 some (d.Sort'.Kind==2))
 else some false)
 else some false
def z21_k1 (a:T6):Option Bool :=
 bif (decide ((a.Diffs.length:Int)≤20)) then (some (decide ((a.Equals.length:Int)≤20)))
 else some false
def z21_l2 (N:Nat) (a:(List T0)) (b:T6):Nat→Int→Option Bool
 | 0,_=>none
 | c+1,d =>
 bif (decide (d < (b.Equals.length:Int))) then ((idx b.Equals d).bind fun e =>
 (z45 N a e.1).bind fun f =>
 bif (!f) then (some false)
 else (idx b.Equals d).bind fun g =>
 (z45 N a g.2).bind fun h =>
 bif (!h) then (some false)
 else (z21_l2 N a b c) (w64 (d+1)))
 else z21_k1 b
def z21_k3 (N:Nat) (a:(List T0)) (b:T6):Option Bool :=
 z21_l2 N a b N 0
def z21_l4 (N:Nat) (a:(List T0)) (b:T6) (c:Int):Nat→Int→Option Bool
 | 0,_=>none
 | d+1,e =>
 bif (decide (e < (b.Diffs.length:Int))) then ((idx b.Diffs e).bind fun f =>
 bif (decide (f.X < (-1))) then (some false)
 else bif (decide (f.X≥c)) then (some false)
 else bif (decide (f.Y < (-1))) then (some false)
 else bif (decide (f.Y≥c)) then (some false)
 else bif (decide (f.C < (-20000))) then (some false)
 else bif (decide (f.C > 20000)) then (some false)
 else (z21_l4 N a b c d) (w64 (e+1)))
 else z21_k3 N a b
def z21 (N:Nat) (a:(List T0)) (b:T6):Option Bool :=
 (z17 N a).bind fun c =>
 z21_l4 N a b c N 0
def z6_k1:Option Bool :=
 some true
def z6_k3 (N:Nat) (a:(List T0)) (b:Int) (c:Int) (d:Int→Int→Option Bool) (e:T0):Option Bool :=
 (z20 N e.Name).bind fun f =>
 bif (!f) then (some false)
 else bif (decide ((e.Fields.length:Int) > 4)) then (some false)
 else bif (e.First != b) then (some false)
 else (z21 N a e.Guard).bind fun g =>
 bif (!g) then (some false)
 else d (w64 (b+(e.Fields.length:Int))) (w64 (c+1))
def z6_k5 (a:Int) (b:Int→Option Bool):Option Bool :=
 b (w64 (a+1))
def z6_l6 (a:T0) (b:Int) (c:Int→Option Bool):Nat→Int→Option Bool
 | 0,_=>none
 | d+1,e =>
 bif (decide (e < b)) then ((idx a.Fields e).bind fun f =>
 (idx a.Fields b).bind fun g =>
 bif (f.Name.toList==g.Name.toList) then (some false)
 else (z6_l6 a b c d) (w64 (e+1)))
 else z6_k5 b c
def z6_l4 (N:Nat) (a:(List T0)) (b:Int) (c:Int) (d:Int→Int→Option Bool) (e:T0):Nat→Int→Option Bool
 | 0,_=>none
 | f+1,g =>
 bif (decide (g < (e.Fields.length:Int))) then ((idx e.Fields g).bind fun h =>
 (z18 N h.Sort').bind fun i =>
 bif (!i) then (some false)
 else (idx e.Fields g).bind fun j =>
 (z19 N j.Name).bind fun k =>
 bif (!k) then (some false)
 else z6_l6 e g (z6_l4 N a b c d e f) N 0)
 else z6_k3 N a b c d e
def z6_k7 (N:Nat) (a:(List T0)) (b:Int) (c:Int) (d:Int→Int→Option Bool) (e:T0):Option Bool :=
 z6_l4 N a b c d e N 0
def z6_l8 (N:Nat) (a:(List T0)) (b:Int) (c:Int) (d:Int→Int→Option Bool) (e:T0):Nat→Int→Option Bool
 | 0,_=>none
 | f+1,g =>
 bif (decide (g < c)) then ((idx a g).bind fun h =>
 bif (h.Name.toList==e.Name.toList) then (some false)
 else (z6_l8 N a b c d e f) (w64 (g+1)))
 else z6_k7 N a b c d e
def z6_l2 (N:Nat) (a:(List T0)):Nat→Int→Int→Option Bool
 | 0,_,_=>none
 | b+1,c,d =>
 bif (decide (d < (a.length:Int))) then ((idx a d).bind fun e =>
 z6_l8 N a c d (z6_l2 N a b) e N 0)
 else z6_k1
def z6 (N:Nat) (a:(List T0)):Option Bool :=
 bif (decide ((a.length:Int) > 40)) then (some false)
 else (z17 N a).bind fun b =>
 bif (decide (b > 24)) then (some false)
 else z6_l2 N a N 0 0
def z8 (N:Nat) (a:T0):Option Int :=
 some (w64 ((a.Guard.Diffs.length:Int)+(a.Guard.Equals.length:Int)))
def z113 (N:Nat) (a:ByteArray) (b:Int):Option Int :=
 (z181 N a b).bind fun c =>
 some c
def z221 (N:Nat) (a:Int):Option Bool :=
 bif (decide (0≤a)) then (bif (decide (a < 55296)) then (some true)
 else bif (decide (57343 < a)) then (bif (decide (a≤1114111)) then (some true)
 else some false)
 else some false)
 else bif (decide (57343 < a)) then (bif (decide (a≤1114111)) then (some true)
 else some false)
 else some false
def z179_k1 (a:Nat):Option Int :=
 some (-1)
def z179_l2 (a:ByteArray):Nat→Nat→Option Int
 | 0,_=>none
 | b+1,c =>
 bif decide (c < a.size) then (bif (((Utf8.decode a c).1:Int)==65533) then (some ((c:Nat):Int))
 else (z179_l2 a b) (c+(Utf8.decode a c).2))
 else z179_k1 c
def z179_k3:Option Int :=
 some (-1)
def z179_k5 (a:Int) (b:Int):Option Int :=
 some (w64 (b-(w64 (((Utf8.encode a).size:Int)-1))))
def z179_l6 (a:ByteArray) (b:Int) (c:Int):Nat→Int→Option Int
 | 0,_=>none
 | d+1,e =>
 bif (decide (e < ((Utf8.encode b).size:Int))) then ((sidx a (w64 (c-e))).bind fun f =>
 (sidx (Utf8.encode b) (w64 ((w64 (((Utf8.encode b).size:Int)-1))-e))).bind fun g =>
 bif (f != g) then (dead 0)
 else (z179_l6 a b c d) (w64 (e+1)))
 else z179_k5 b c
def z179_k7 (N:Nat) (a:ByteArray) (b:Int) (c:Int):Option Int :=
 z179_l6 a b c N 1
def z179_l4 (N:Nat) (a:ByteArray) (b:Int):Nat→Option Int
 | 0=>none
 | c+1 =>
 bif (decide ((w64 (((Utf8.encode b).size:Int)-1)) < (a.size:Int))) then ((sidx a (w64 (((Utf8.encode b).size:Int)-1))).bind fun d =>
 (sidx (Utf8.encode b) (w64 (((Utf8.encode b).size:Int)-1))).bind fun e =>
 bif (d != e) then ((ssl a (some (w64 ((w64 (((Utf8.encode b).size:Int)-1))+1))) none).bind fun f =>
 (sidx (Utf8.encode b) (w64 (((Utf8.encode b).size:Int)-1))).bind fun g =>
 (z113 N f g).bind fun h =>
 bif (decide (h < 0)) then (some (-1))
 else z179_k7 N a b (w64 ((w64 (((Utf8.encode b).size:Int)-1))+(w64 (h+1)))))
 else z179_k7 N a b (w64 (((Utf8.encode b).size:Int)-1)))
 else z179_k3
def z179_k8 (N:Nat) (a:ByteArray) (b:Int) (c:Bool):Option Int :=
 bif c then ((z113 N a (wk .u8 (b))).bind fun d =>
 some d)
 else bif (b==65533) then (z179_l2 a N (0:Nat))
 else (z221 N b).bind fun e =>
 bif (!e) then (some (-1))
 else z179_l4 N a b N
def z179 (N:Nat) (a:ByteArray) (b:Int):Option Int :=
 bif (decide (0≤b)) then (z179_k8 N a b (decide (b < 128)))
 else z179_k8 N a b false
def z111 (N:Nat) (a:ByteArray) (b:Int):Option Bool :=
 (z179 N a b).bind fun c =>
 some (decide (c≥0))
def z180 (N:Nat) (a:ByteArray) (b:ByteArray):Option Bool :=
 bif (decide ((a.size:Int)≥(b.size:Int))) then ((ssl a none (some (b.size:Int))).bind fun c =>
 some (c.toList==b.toList))
 else some false
def z112 (N:Nat) (a:ByteArray) (b:ByteArray):Option Bool :=
 (z180 N a b).bind fun c =>
 some c
def z54_k1 (a:T15) (vbk0_0_1_1:Int):Option T15 :=
 some (⟨a.s',vbk0_0_1_1⟩:T15)
def z54_l2 (N:Nat) (a:T15):Nat→Int→Option T15
 | 0,_=>none
 | b+1,vbk0_0_1_3 =>
 bif (decide (vbk0_0_1_3 < (a.s'.size:Int))) then ((ssl a.s' (some vbk0_0_1_3) none).bind fun c =>
 (sidx c 0).bind fun d =>
 (z111 N (str [32,9,10,13]) (wk .i32 (d))).bind fun e =>
 bif e then ((z54_l2 N a b) (w64 (vbk0_0_1_3+1)))
 else (z112 N c (str [47,47])).bind fun f =>
 bif f then ((z113 N c 10).bind fun g =>
 bif (decide (g < 0)) then ((z54_l2 N a b) (w64 (vbk0_0_1_3+(w64 ((w64 ((c.size:Int)-1))+1)))))
 else (z54_l2 N a b) (w64 (vbk0_0_1_3+(w64 (g+1)))))
 else some (⟨a.s',vbk0_0_1_3⟩:T15))
 else z54_k1 a vbk0_0_1_3
def z54 (N:Nat) (a:T15):Option T15 :=
 z54_l2 N a N a.at'
def z115_30_k1 (a:T15) (vbk0_0_1_1:Int):Option (ByteArray × T15) :=
 (ssl a.s' (some a.at') (some vbk0_0_1_1)).bind fun b =>
 some (b,(⟨a.s',vbk0_0_1_1⟩:T15))
def z115_30_l2 (N:Nat) (a:T15):Nat→Int→Option (ByteArray × T15)
 | 0,_=>none
 | b+1,vbk0_0_1_3 =>
 bif (decide (vbk0_0_1_3 < (a.s'.size:Int))) then ((sidx a.s' vbk0_0_1_3).bind fun c =>
 (z116 N c).bind fun d =>
 bif d then ((z115_30_l2 N a b) (w64 (vbk0_0_1_3+1)))
 else z115_30_k1 a vbk0_0_1_3)
 else z115_30_k1 a vbk0_0_1_3
def z115_30 (N:Nat) (a:T15):Option (ByteArray × T15) :=
 z115_30_l2 N a N a.at'
def z57 (N:Nat) (a:T15):Option (T14 × Int × T15) :=
 (z115_30 N a).bind fun b =>
 bif (decide ((b.1.size:Int) > 16)) then (some ((⟨0,(str []),0,0⟩:T14),6,b.2))
 else some ((⟨1,b.1,0,0⟩:T14),0,b.2)
def z115_31_k1 (a:T15) (vbk0_0_1_1:Int):Option (ByteArray × T15) :=
 (ssl a.s' (some a.at') (some vbk0_0_1_1)).bind fun b =>
 some (b,(⟨a.s',vbk0_0_1_1⟩:T15))
def z115_31_l2 (N:Nat) (a:T15):Nat→Int→Option (ByteArray × T15)
 | 0,_=>none
 | b+1,vbk0_0_1_3 =>
 bif (decide (vbk0_0_1_3 < (a.s'.size:Int))) then ((sidx a.s' vbk0_0_1_3).bind fun c =>
 (z58 N c).bind fun d =>
 bif d then ((z115_31_l2 N a b) (w64 (vbk0_0_1_3+1)))
 else z115_31_k1 a vbk0_0_1_3)
 else z115_31_k1 a vbk0_0_1_3
def z115_31 (N:Nat) (a:T15):Option (ByteArray × T15) :=
 z115_31_l2 N a N a.at'
def z59_k1 (a:ByteArray × T15) (b:Int):Option (T14 × Int × T15) :=
 some ((⟨2,(str []),b,0⟩:T14),0,a.2)
def z59_l2 (a:ByteArray × T15):Nat→Int→Int→Option (T14 × Int × T15)
 | 0,_,_=>none
 | b+1,c,d =>
 bif (decide (d < (a.1.size:Int))) then ((sidx a.1 d).bind fun e =>
 (z59_l2 a b) (w64 ((w64 (10 * c))+(w64 ((wk .u8 (e-48)))))) (w64 (d+1)))
 else z59_k1 a c
def z59_k3 (N:Nat) (a:ByteArray × T15) (b:Bool):Option (T14 × Int × T15) :=
 bif b then (some ((⟨0,(str []),0,0⟩:T14),2,a.2))
 else z59_l2 a N 0 0
def z59_k4 (N:Nat) (a:ByteArray × T15) (b:Bool):Option (T14 × Int × T15) :=
 bif b then (some ((⟨0,(str []),0,0⟩:T14),3,a.2))
 else bif (decide ((a.1.size:Int) > 6)) then (z59_k3 N a true)
 else bif (decide ((a.1.size:Int) > 1)) then ((sidx a.1 0).bind fun c =>
 z59_k3 N a (c==48))
 else z59_k3 N a false
def z59 (N:Nat) (a:T15):Option (T14 × Int × T15) :=
 (z115_31 N a).bind fun b =>
 bif (decide (b.2.at' < (b.2.s'.size:Int))) then ((sidx b.2.s' b.2.at').bind fun c =>
 (z116 N c).bind fun d =>
 z59_k4 N b d)
 else z59_k4 N b false
def z60_k1 (a:T15) (vbk0_0_1_1:Int):Option (T14 × Int × T15) :=
 some ((⟨0,(str []),0,0⟩:T14),3,(⟨a.s',vbk0_0_1_1⟩:T15))
def z60_k3 (a:T15) (b:(List Int)) (c:Int→(List Int)→Option (T14 × Int × T15)) (vbk0_0_1_9:Int) (d:Int):Option (T14 × Int × T15) :=
 bif (decide (d < 32)) then (some ((⟨0,(str []),0,0⟩:T14),3,(⟨a.s',vbk0_0_1_9⟩:T15)))
 else bif (decide (d > 126)) then (some ((⟨0,(str []),0,0⟩:T14),3,(⟨a.s',vbk0_0_1_9⟩:T15)))
 else (appL b ([d]:List Int)).bind fun e =>
 c (w64 (vbk0_0_1_9+1)) e
def z60_l2 (a:T15):Nat→Int→(List Int)→Option (T14 × Int × T15)
 | 0,_,_=>none
 | b+1,vbk0_0_1_6,c =>
 bif (decide (vbk0_0_1_6 < (a.s'.size:Int))) then ((sidx a.s' vbk0_0_1_6).bind fun d =>
 bif (d==34) then (bif (decide ((c.length:Int) > 40)) then (some ((⟨0,(str []),0,0⟩:T14),6,(⟨a.s',(w64 (vbk0_0_1_6+1))⟩:T15)))
 else some ((⟨3,(strOf c),0,0⟩:T14),0,(⟨a.s',(w64 (vbk0_0_1_6+1))⟩:T15)))
 else bif (d==92) then (bif ((w64 (vbk0_0_1_6+1))==(a.s'.size:Int)) then (some ((⟨0,(str []),0,0⟩:T14),3,(⟨a.s',(w64 (vbk0_0_1_6+1))⟩:T15)))
 else (sidx a.s' (w64 (vbk0_0_1_6+1))).bind fun e =>
 bif (e != 34) then ((sidx a.s' (w64 (vbk0_0_1_6+1))).bind fun f =>
 bif (f != 92) then (some ((⟨0,(str []),0,0⟩:T14),3,(⟨a.s',(w64 (vbk0_0_1_6+1))⟩:T15)))
 else (sidx a.s' (w64 (vbk0_0_1_6+1))).bind fun g =>
 z60_k3 a c (z60_l2 a b) (w64 (vbk0_0_1_6+1)) g)
 else (sidx a.s' (w64 (vbk0_0_1_6+1))).bind fun h =>
 z60_k3 a c (z60_l2 a b) (w64 (vbk0_0_1_6+1)) h)
 else z60_k3 a c (z60_l2 a b) vbk0_0_1_6 d)
 else z60_k1 a vbk0_0_1_6
def z60 (N:Nat) (a:T15):Option (T14 × Int × T15) :=
 z60_l2 a N (w64 (a.at'+1)) ([]:List Int)
def z114 (N:Nat) (a:ByteArray) (b:ByteArray):Option Bool :=
 (z182 N a b).bind fun c =>
 some (decide (c≥0))
def z55_k1 (N:Nat) (a:T15):Option (T14 × Int × T15) :=
 (ssl a.s' (some a.at') (some (w64 (a.at'+1)))).bind fun b =>
 (z114 N (str [40,41,123,125,44,59,58,46,43,45,42,47,37,60,62,61,33]) b).bind fun c =>
 bif (!c) then (some ((⟨0,(str []),0,0⟩:T14),3,a))
 else some ((⟨4,b,0,0⟩:T14),0,(⟨a.s',(w64 (a.at'+1))⟩:T15))
def z55_l2 (N:Nat) (a:T15):Nat→Int→Option (T14 × Int × T15)
 | 0,_=>none
 | b+1,c =>
 bif (decide (c < 8)) then ((idx ([(str [45,62]),(str [46,46]),(str [60,61]),(str [62,61]),(str [61,61]),(str [33,61]),(str [38,38]),(str [124,124])]:List ByteArray) c).bind fun d =>
 (ssl a.s' (some a.at') none).bind fun e =>
 (z112 N e d).bind fun f =>
 bif f then (some ((⟨4,d,0,0⟩:T14),0,(⟨a.s',(w64 (a.at'+2))⟩:T15)))
 else (z55_l2 N a b) (w64 (c+1)))
 else z55_k1 N a
def z55 (N:Nat) (a:T15):Option (T14 × Int × T15) :=
 z55_l2 N a N 0
def z26_k1 (a:(List T14)):Option ((List T14) × Int × Int) :=
 some (a,0,0)
def z26_l2 (N:Nat) (a:ByteArray):Nat→(List T14)→ByteArray→Int→Option ((List T14) × Int × Int)
 | 0,_,_,_=>none
 | b+1,c,d,e =>
 bif (decide (e < (a.size:Int))) then ((sidx a e).bind fun f =>
 (z56 N f).bind fun g =>
 bif g then ((z57 N (⟨d,e⟩:T15)).bind fun h =>
 bif (h.2.1 != 0) then (some (([]:List T14),e,h.2.1))
 else (appL c ([(⟨h.1.Kind,h.1.Text,h.1.Value,e⟩:T14)]:List T14)).bind fun i =>
 (z54 N h.2.2).bind fun j =>
 (z26_l2 N a b) i j.s' j.at')
 else (z58 N f).bind fun k =>
 bif k then ((z59 N (⟨d,e⟩:T15)).bind fun l =>
 bif (l.2.1 != 0) then (some (([]:List T14),e,l.2.1))
 else (appL c ([(⟨l.1.Kind,l.1.Text,l.1.Value,e⟩:T14)]:List T14)).bind fun m =>
 (z54 N l.2.2).bind fun o =>
 (z26_l2 N a b) m o.s' o.at')
 else bif (f==34) then ((z60 N (⟨d,e⟩:T15)).bind fun p =>
 bif (p.2.1 != 0) then (some (([]:List T14),e,p.2.1))
 else (appL c ([(⟨p.1.Kind,p.1.Text,p.1.Value,e⟩:T14)]:List T14)).bind fun q =>
 (z54 N p.2.2).bind fun r =>
 (z26_l2 N a b) q r.s' r.at')
 else (z55 N (⟨d,e⟩:T15)).bind fun s =>
 bif (s.2.1 != 0) then (some (([]:List T14),e,s.2.1))
 else (appL c ([(⟨s.1.Kind,s.1.Text,s.1.Value,e⟩:T14)]:List T14)).bind fun t =>
 (z54 N s.2.2).bind fun u =>
 (z26_l2 N a b) t u.s' u.at')
 else z26_k1 c
def z26 (N:Nat) (a:ByteArray):Option ((List T14) × Int × Int) :=
 bif (decide ((a.size:Int) > 8000)) then (some (([]:List T14),8000,6))
 else (z54 N (⟨a,0⟩:T15)).bind fun b =>
 z26_l2 N a N ([]:List T14) b.s' b.at'
def z118 (N:Nat) (a:T24):Option T14 :=
 bif (a.err' != 0) then (some (⟨0,(str []),0,0⟩:T14))
 else bif (decide (a.n'≥(a.l'.length:Int))) then (some (⟨0,(str []),0,0⟩:T14))
 else (idx a.l' a.n').bind fun b =>
 some b
def z119 (N:Nat) (a:T24) (b:ByteArray):Option Bool :=
 (z118 N a).bind fun c =>
 bif (c.Kind==4) then (some (c.Text.toList==b.toList))
 else bif (c.Kind==1) then (some (c.Text.toList==b.toList))
 else some false
def z64 (N:Nat) (a:T24) (b:ByteArray):Option (Bool × T24) :=
 (z119 N a b).bind fun c =>
 bif (!c) then (some (false,a))
 else some (true,(⟨a.l',(w64 (a.n'+1)),a.end',a.at',a.err'⟩:T24))
def z117 (N:Nat) (a:T24) (b:Int):Option T24 :=
 bif (a.err' != 0) then (some a)
 else bif (decide (a.n' < (a.l'.length:Int))) then ((idx a.l' a.n').bind fun c =>
 some (⟨a.l',a.n',a.end',c.From,b⟩:T24))
 else some (⟨a.l',a.n',a.end',a.end',b⟩:T24)
def z61 (N:Nat) (a:T24) (b:ByteArray):Option T24 :=
 (z64 N a b).bind fun c =>
 bif (!c.1) then ((z117 N c.2 3).bind fun d =>
 some d)
 else some c.2
def z62 (N:Nat) (a:T24):Option (ByteArray × T24) :=
 (z118 N a).bind fun b =>
 bif (b.Kind != 1) then ((z117 N a 3).bind fun c =>
 some ((str []),c))
 else (z67 N b.Text).bind fun d =>
 bif (!d) then ((z117 N a 3).bind fun e =>
 some ((str []),e))
 else some (b.Text,(⟨a.l',(w64 (a.n'+1)),a.end',a.at',a.err'⟩:T24))
def z63_k1 (vbk0_0_0_1:(List T14)) (vbk0_0_1_1:Int) (vbk0_0_2_1:Int) (vbk0_0_3_1:Int) (vbk0_0_4_1:Int) (a:(List ByteArray)):Option ((List ByteArray) × T24) :=
 some (a,(⟨vbk0_0_0_1,vbk0_0_1_1,vbk0_0_2_1,vbk0_0_3_1,vbk0_0_4_1⟩:T24))
def z63_l2 (N:Nat):Nat→(List T14)→Int→Int→Int→Int→(List ByteArray)→Option ((List ByteArray) × T24)
 | 0,_,_,_,_,_,_=>none
 | a+1,vbk0_0_0_3,vbk0_0_1_3,vbk0_0_2_3,vbk0_0_3_3,vbk0_0_4_3,b =>
 (z64 N (⟨vbk0_0_0_3,vbk0_0_1_3,vbk0_0_2_3,vbk0_0_3_3,vbk0_0_4_3⟩:T24) (str [44])).bind fun c =>
 bif c.1 then ((z62 N c.2).bind fun d =>
 (appL b ([d.1]:List ByteArray)).bind fun e =>
 (z63_l2 N a) d.2.l' d.2.n' d.2.end' d.2.at' d.2.err' e)
 else z63_k1 c.2.l' c.2.n' c.2.end' c.2.at' c.2.err' b
def z63 (N:Nat) (a:T24):Option ((List ByteArray) × T24) :=
 (z62 N a).bind fun b =>
 z63_l2 N N b.2.l' b.2.n' b.2.end' b.2.at' b.2.err' ([b.1]:List ByteArray)
def z120_k1 (vbk0_0_0_1:(List T14)) (vbk0_0_1_1:Int) (vbk0_0_2_1:Int) (vbk0_0_3_1:Int) (vbk0_0_4_1:Int) (a:ByteArray):Option (ByteArray × T24) :=
 some (a,(⟨vbk0_0_0_1,vbk0_0_1_1,vbk0_0_2_1,vbk0_0_3_1,vbk0_0_4_1⟩:T24))
def z120_l2 (N:Nat):Nat→(List T14)→Int→Int→Int→Int→ByteArray→Option (ByteArray × T24)
 | 0,_,_,_,_,_,_=>none
 | a+1,vbk0_0_0_3,vbk0_0_1_3,vbk0_0_2_3,vbk0_0_3_3,vbk0_0_4_3,b =>
 (z64 N (⟨vbk0_0_0_3,vbk0_0_1_3,vbk0_0_2_3,vbk0_0_3_3,vbk0_0_4_3⟩:T24) (str [46])).bind fun c =>
 bif c.1 then ((z62 N c.2).bind fun d =>
 (catS (str [46]) d.1).bind fun e =>
 (catS b e).bind fun f =>
 (z120_l2 N a) d.2.l' d.2.n' d.2.end' d.2.at' d.2.err' f)
 else z120_k1 c.2.l' c.2.n' c.2.end' c.2.at' c.2.err' b
def z120 (N:Nat) (a:T24):Option (ByteArray × T24) :=
 (z62 N a).bind fun b =>
 z120_l2 N N b.2.l' b.2.n' b.2.end' b.2.at' b.2.err' b.1
def z184 (N:Nat) (a:T24):Option (Int × T24) :=
 (z118 N a).bind fun b =>
 bif (b.Kind != 2) then ((z117 N a 3).bind fun c =>
 some (0,c))
 else some (b.Value,(⟨a.l',(w64 (a.n'+1)),a.end',a.at',a.err'⟩:T24))
def z183 (N:Nat) (a:T24):Option (Int × T24) :=
 (z64 N a (str [45])).bind fun b =>
 bif b.1 then ((z184 N b.2).bind fun c =>
 some ((w64 (0-c.1)),c.2))
 else (z184 N b.2).bind fun d =>
 some (d.1,d.2)
def z121 (N:Nat) (a:T24):Option (T4 × T24) :=
 (z62 N a).bind fun b =>
 (z61 N b.2 (str [58])).bind fun c =>
 (z64 N c (str [105,110,116])).bind fun d =>
 bif (!d.1) then ((z61 N d.2 (str [116,101,120,116])).bind fun e =>
 (z184 N e).bind fun f =>
 (z61 N f.2 (str [46,46])).bind fun g =>
 (z184 N g).bind fun h =>
 some ((⟨b.1,(⟨2,f.1,h.1⟩:T10)⟩:T4),h.2))
 else (z183 N d.2).bind fun i =>
 (z61 N i.2 (str [46,46])).bind fun j =>
 (z183 N j).bind fun k =>
 some ((⟨b.1,(⟨1,i.1,k.1⟩:T10)⟩:T4),k.2)
def z243_k1:Option Int :=
 some (-1)
def z243_l2 (a:ByteArray) (b:Int):Nat→Int→Option Int
 | 0,_=>none
 | c+1,d =>
 bif (decide (d≥0)) then ((sidx a d).bind fun e =>
 bif (e==b) then (some d)
 else (z243_l2 a b c) (w64 (d-1)))
 else z243_k1
def z243 (N:Nat) (a:ByteArray) (b:Int):Option Int :=
 z243_l2 a b N (w64 ((a.size:Int)-1))
def z226 (N:Nat) (a:ByteArray) (b:Int):Option Int :=
 (z243 N a b).bind fun c =>
 some c
def z185_k1 (N:Nat) (vbk0_0_0_1:(List T14)) (vbk0_0_1_1:Int) (vbk0_0_2_1:Int) (vbk0_0_3_1:Int) (vbk0_0_4_1:Int) (a:Int) (b:ByteArray) (c:ByteArray):Option (T23 × T24) :=
 (z64 N (⟨vbk0_0_0_1,vbk0_0_1_1,vbk0_0_2_1,vbk0_0_3_1,vbk0_0_4_1⟩:T24) (str [43])).bind fun d =>
 bif d.1 then ((z184 N d.2).bind fun e =>
 some ((⟨a,b,c,e.1⟩:T23),e.2))
 else (z64 N d.2 (str [45])).bind fun f =>
 bif f.1 then ((z184 N f.2).bind fun g =>
 some ((⟨a,b,c,(w64 (0-g.1))⟩:T23),g.2))
 else some ((⟨a,b,c,0⟩:T23),f.2)
def z185_k2 (N:Nat) (vbk0_0_0_1:(List T14)) (vbk0_0_1_1:Int) (vbk0_0_2_1:Int) (vbk0_0_3_1:Int) (vbk0_0_4_1:Int) (a:Int) (b:ByteArray):Option (T23 × T24) :=
 (z226 N b 46).bind fun c =>
 bif (decide (c≥0)) then ((ssl b none (some c)).bind fun d =>
 (ssl b (some (w64 (c+1))) none).bind fun e =>
 z185_k1 N vbk0_0_0_1 vbk0_0_1_1 vbk0_0_2_1 vbk0_0_3_1 vbk0_0_4_1 a d e)
 else z185_k1 N vbk0_0_0_1 vbk0_0_1_1 vbk0_0_2_1 vbk0_0_3_1 vbk0_0_4_1 a (str []) b
def z185 (N:Nat) (a:T24):Option (T23 × T24) :=
 (z119 N a (str [45])).bind fun b =>
 bif b then ((z183 N a).bind fun c =>
 some ((⟨1,(str []),(str []),c.1⟩:T23),c.2))
 else (z118 N a).bind fun d =>
 bif (d.Kind==2) then ((z183 N a).bind fun e =>
 some ((⟨1,(str []),(str []),e.1⟩:T23),e.2))
 else (z64 N a (str [108,101,110])).bind fun f =>
 bif f.1 then ((z61 N f.2 (str [40])).bind fun g =>
 (z120 N g).bind fun h =>
 (z61 N h.2 (str [41])).bind fun i =>
 z185_k2 N i.l' i.n' i.end' i.at' i.err' 3 h.1)
 else (z120 N f.2).bind fun j =>
 z185_k2 N j.2.l' j.2.n' j.2.end' j.2.at' j.2.err' 2 j.1
def z130 (N:Nat):Option (List ByteArray) :=
 some ([(str [60]),(str [60,61]),(str [61,61]),(str [62,61]),(str [62])]:List ByteArray)
def z122 (N:Nat) (a:T24):Option (T19 × T24) :=
 (z185 N a).bind fun b =>
 (z118 N b.2).bind fun c =>
 bif (c.Kind==4) then ((z130 N).bind fun d =>
 (z123 N d c.Text).bind fun e =>
 bif e then ((z185 N (⟨b.2.l',(w64 (b.2.n'+1)),b.2.end',b.2.at',b.2.err'⟩:T24)).bind fun f =>
 some ((⟨b.1,c.Text,f.1⟩:T19),f.2))
 else (z117 N b.2 3).bind fun g =>
 (z185 N g).bind fun h =>
 some ((⟨b.1,(str []),h.1⟩:T19),h.2))
 else (z117 N b.2 3).bind fun i =>
 (z185 N i).bind fun j =>
 some ((⟨b.1,(str []),j.1⟩:T19),j.2)
def z65_k1 (N:Nat) (a:ByteArray × T24) (b:(List T4)) (vbk0_0_0_5:(List T14)) (vbk0_0_1_5:Int) (vbk0_0_2_5:Int) (vbk0_0_3_5:Int) (vbk0_0_4_5:Int) (c:(List T19)):Option (T21 × T24) :=
 (z61 N (⟨vbk0_0_0_5,vbk0_0_1_5,vbk0_0_2_5,vbk0_0_3_5,vbk0_0_4_5⟩:T24) (str [59])).bind fun d =>
 some ((⟨a.1,b,c⟩:T21),d)
def z65_l2 (N:Nat) (a:ByteArray × T24) (b:(List T4)):Nat→(List T14)→Int→Int→Int→Int→(List T19)→Option (T21 × T24)
 | 0,_,_,_,_,_,_=>none
 | c+1,vbk0_0_0_7,vbk0_0_1_7,vbk0_0_2_7,vbk0_0_3_7,vbk0_0_4_7,d =>
 (z64 N (⟨vbk0_0_0_7,vbk0_0_1_7,vbk0_0_2_7,vbk0_0_3_7,vbk0_0_4_7⟩:T24) (str [97,110,100])).bind fun e =>
 bif e.1 then ((z122 N e.2).bind fun f =>
 (appL d ([f.1]:List T19)).bind fun g =>
 (z65_l2 N a b c) f.2.l' f.2.n' f.2.end' f.2.at' f.2.err' g)
 else z65_k1 N a b e.2.l' e.2.n' e.2.end' e.2.at' e.2.err' d
def z65_k3 (N:Nat) (a:ByteArray × T24) (vbk0_0_0_1:(List T14)) (vbk0_0_1_1:Int) (vbk0_0_2_1:Int) (vbk0_0_3_1:Int) (vbk0_0_4_1:Int) (b:(List T4)):Option (T21 × T24) :=
 (z64 N (⟨vbk0_0_0_1,vbk0_0_1_1,vbk0_0_2_1,vbk0_0_3_1,vbk0_0_4_1⟩:T24) (str [119,104,101,114,101])).bind fun c =>
 bif c.1 then ((z122 N c.2).bind fun d =>
 (appL ([]:List T19) ([d.1]:List T19)).bind fun e =>
 z65_l2 N a b N d.2.l' d.2.n' d.2.end' d.2.at' d.2.err' e)
 else (z61 N c.2 (str [59])).bind fun f =>
 some ((⟨a.1,b,([]:List T19)⟩:T21),f)
def z65_k4 (N:Nat) (a:ByteArray × T24) (vbk0_0_0_8:(List T14)) (vbk0_0_1_8:Int) (vbk0_0_2_8:Int) (vbk0_0_3_8:Int) (vbk0_0_4_8:Int) (b:(List T4)):Option (T21 × T24) :=
 (z61 N (⟨vbk0_0_0_8,vbk0_0_1_8,vbk0_0_2_8,vbk0_0_3_8,vbk0_0_4_8⟩:T24) (str [41])).bind fun c =>
 z65_k3 N a c.l' c.n' c.end' c.at' c.err' b
def z65_l5 (N:Nat) (a:ByteArray × T24):Nat→(List T14)→Int→Int→Int→Int→(List T4)→Option (T21 × T24)
 | 0,_,_,_,_,_,_=>none
 | b+1,vbk0_0_0_10,vbk0_0_1_10,vbk0_0_2_10,vbk0_0_3_10,vbk0_0_4_10,c =>
 (z64 N (⟨vbk0_0_0_10,vbk0_0_1_10,vbk0_0_2_10,vbk0_0_3_10,vbk0_0_4_10⟩:T24) (str [44])).bind fun d =>
 bif d.1 then ((z121 N d.2).bind fun e =>
 (appL c ([e.1]:List T4)).bind fun f =>
 (z65_l5 N a b) e.2.l' e.2.n' e.2.end' e.2.at' e.2.err' f)
 else z65_k4 N a d.2.l' d.2.n' d.2.end' d.2.at' d.2.err' c
def z65 (N:Nat) (a:T24):Option (T21 × T24) :=
 (z120 N a).bind fun b =>
 (z61 N b.2 (str [40])).bind fun c =>
 (z64 N c (str [41])).bind fun d =>
 bif (!d.1) then ((z121 N d.2).bind fun e =>
 (appL ([]:List T4) ([e.1]:List T4)).bind fun f =>
 z65_l5 N b N e.2.l' e.2.n' e.2.end' e.2.at' e.2.err' f)
 else z65_k3 N b d.2.l' d.2.n' d.2.end' d.2.at' d.2.err' ([]:List T4)
def z188 (N:Nat) (rc:T24→Option ((List T20) × T24)) (a:T24):Option ((List T20) × T24) :=
 (z61 N a (str [123])).bind fun b =>
 (rc b).bind fun c =>
 (z61 N c.2 (str [125])).bind fun d =>
 some (c.1,d)
def z187_k1 (N:Nat) (rc:T24→Option ((List T20) × T24)) (a:ByteArray × T24) (b:Int) (vbk0_0_0_2:(List T14)) (vbk0_0_1_2:Int) (vbk0_0_2_2:Int) (vbk0_0_3_2:Int) (vbk0_0_4_2:Int) (c:(List (List T20))):Option (T20 × T24) :=
 bif (decide (b > 0)) then ((z61 N (⟨vbk0_0_0_2,vbk0_0_1_2,vbk0_0_2_2,vbk0_0_3_2,vbk0_0_4_2⟩:T24) (str [101,108,115,101])).bind fun d =>
 (z188 N rc d).bind fun e =>
 (appL c ([e.1]:List (List T20))).bind fun f =>
 some ((⟨2,a.1,([]:List ByteArray),(str []),(str []),b,f⟩:T20),e.2))
 else some ((⟨2,a.1,([]:List ByteArray),(str []),(str []),b,c⟩:T20),(⟨vbk0_0_0_2,vbk0_0_1_2,vbk0_0_2_2,vbk0_0_3_2,vbk0_0_4_2⟩:T24))
def z187_l2 (N:Nat) (rc:T24→Option ((List T20) × T24)) (a:ByteArray × T24) (b:Int):Nat→(List T14)→Int→Int→Int→Int→(List (List T20))→Option (T20 × T24)
 | 0,_,_,_,_,_,_=>none
 | c+1,vbk0_0_0_4,vbk0_0_1_4,vbk0_0_2_4,vbk0_0_3_4,vbk0_0_4_4,d =>
 (z64 N (⟨vbk0_0_0_4,vbk0_0_1_4,vbk0_0_2_4,vbk0_0_3_4,vbk0_0_4_4⟩:T24) (str [111,114])).bind fun e =>
 bif e.1 then ((z188 N rc e.2).bind fun f =>
 (appL d ([f.1]:List (List T20))).bind fun g =>
 (z187_l2 N rc a b c) f.2.l' f.2.n' f.2.end' f.2.at' f.2.err' g)
 else z187_k1 N rc a b e.2.l' e.2.n' e.2.end' e.2.at' e.2.err' d
def z187_k3 (N:Nat) (rc:T24→Option ((List T20) × T24)) (a:ByteArray × T24) (vbk0_0_0_1:(List T14)) (vbk0_0_1_1:Int) (vbk0_0_2_1:Int) (vbk0_0_3_1:Int) (vbk0_0_4_1:Int) (b:Int):Option (T20 × T24) :=
 (z188 N rc (⟨vbk0_0_0_1,vbk0_0_1_1,vbk0_0_2_1,vbk0_0_3_1,vbk0_0_4_1⟩:T24)).bind fun c =>
 z187_l2 N rc a b N c.2.l' c.2.n' c.2.end' c.2.at' c.2.err' ([c.1]:List (List T20))
def z187 (N:Nat) (rc:T24→Option ((List T20) × T24)) (a:T24):Option (T20 × T24) :=
 (z61 N a (str [97,116])).bind fun b =>
 (z62 N b).bind fun c =>
 (z64 N c.2 (str [119,105,116,104,105,110])).bind fun d =>
 bif d.1 then ((z118 N d.2).bind fun e =>
 bif (e.Kind==2) then (bif (decide (e.Value < 1)) then ((z117 N d.2 2).bind fun f =>
 (z184 N f).bind fun g =>
 z187_k3 N rc c g.2.l' g.2.n' g.2.end' g.2.at' g.2.err' g.1)
 else bif (decide (e.Value > 1000)) then ((z117 N d.2 2).bind fun h =>
 (z184 N h).bind fun i =>
 z187_k3 N rc c i.2.l' i.2.n' i.2.end' i.2.at' i.2.err' i.1)
 else (z184 N d.2).bind fun j =>
 z187_k3 N rc c j.2.l' j.2.n' j.2.end' j.2.at' j.2.err' j.1)
 else (z184 N d.2).bind fun k =>
 z187_k3 N rc c k.2.l' k.2.n' k.2.end' k.2.at' k.2.err' k.1)
 else z187_k3 N rc c d.2.l' d.2.n' d.2.end' d.2.at' d.2.err' 0
def z124_k1 (vbk0_0_0_1:(List T14)) (vbk0_0_1_1:Int) (vbk0_0_2_1:Int) (vbk0_0_3_1:Int) (vbk0_0_4_1:Int) (a:(List (List T20))):Option (T20 × T24) :=
 some ((⟨5,(str []),([]:List ByteArray),(str []),(str []),0,a⟩:T20),(⟨vbk0_0_0_1,vbk0_0_1_1,vbk0_0_2_1,vbk0_0_3_1,vbk0_0_4_1⟩:T24))
def z124_l2 (N:Nat) (rc:T24→Option ((List T20) × T24)):Nat→(List T14)→Int→Int→Int→Int→(List (List T20))→Option (T20 × T24)
 | 0,_,_,_,_,_,_=>none
 | a+1,vbk0_0_0_3,vbk0_0_1_3,vbk0_0_2_3,vbk0_0_3_3,vbk0_0_4_3,b =>
 (z64 N (⟨vbk0_0_0_3,vbk0_0_1_3,vbk0_0_2_3,vbk0_0_3_3,vbk0_0_4_3⟩:T24) (str [97,110,100])).bind fun c =>
 bif c.1 then ((z188 N rc c.2).bind fun d =>
 (appL b ([d.1]:List (List T20))).bind fun e =>
 (z124_l2 N rc a) d.2.l' d.2.n' d.2.end' d.2.at' d.2.err' e)
 else z124_k1 c.2.l' c.2.n' c.2.end' c.2.at' c.2.err' b
def z124 (N:Nat) (rc:T24→Option ((List T20) × T24)) (a:T24):Option (T20 × T24) :=
 (z64 N a (str [99,104,111,105,99,101])).bind fun b =>
 bif b.1 then ((z187 N rc b.2).bind fun c =>
 some (c.1,c.2))
 else (z64 N b.2 (str [108,111,111,112])).bind fun d =>
 bif d.1 then ((z120 N d.2).bind fun e =>
 (z188 N rc e.2).bind fun f =>
 some ((⟨3,(str []),([]:List ByteArray),e.1,(str []),0,([f.1]:List (List T20))⟩:T20),f.2))
 else (z64 N d.2 (str [97,103,97,105,110])).bind fun g =>
 bif g.1 then ((z120 N g.2).bind fun h =>
 (z61 N h.2 (str [59])).bind fun i =>
 some ((⟨4,(str []),([]:List ByteArray),h.1,(str []),0,([]:List (List T20))⟩:T20),i))
 else (z64 N g.2 (str [112,97,114])).bind fun j =>
 bif j.1 then ((z188 N rc j.2).bind fun k =>
 (z61 N k.2 (str [97,110,100])).bind fun l =>
 (z188 N rc l).bind fun m =>
 (appL ([k.1]:List (List T20)) ([m.1]:List (List T20))).bind fun o =>
 z124_l2 N rc N m.2.l' m.2.n' m.2.end' m.2.at' m.2.err' o)
 else (z64 N j.2 (str [99,97,108,108])).bind fun p =>
 bif p.1 then ((z62 N p.2).bind fun q =>
 (z61 N q.2 (str [40])).bind fun r =>
 (z63 N r).bind fun s =>
 (z61 N s.2 (str [41])).bind fun t =>
 (z61 N t (str [97,115])).bind fun u =>
 (z62 N u).bind fun v =>
 (z61 N v.2 (str [59])).bind fun w =>
 some ((⟨6,(str []),s.1,q.1,v.1,0,([]:List (List T20))⟩:T20),w))
 else (z62 N p.2).bind fun x =>
 (z61 N x.2 (str [45,62])).bind fun y =>
 (z63 N y).bind fun z =>
 (z61 N z.2 (str [58])).bind fun A =>
 (z120 N A).bind fun B =>
 (z61 N B.2 (str [59])).bind fun C =>
 some ((⟨1,x.1,z.1,B.1,(str []),0,([]:List (List T20))⟩:T20),C)
def z66_l1 (N:Nat) (rc:T24→Option ((List T20) × T24)):Nat→(List T14)→Int→Int→Int→Int→(List T20)→Option ((List T20) × T24)
 | 0,_,_,_,_,_,_=>none
 | a+1,vbk0_0_0_1,vbk0_0_1_1,vbk0_0_2_1,vbk0_0_3_1,vbk0_0_4_1,b =>
 (z118 N (⟨vbk0_0_0_1,vbk0_0_1_1,vbk0_0_2_1,vbk0_0_3_1,vbk0_0_4_1⟩:T24)).bind fun c =>
 bif (c.Kind != 1) then (some (b,(⟨vbk0_0_0_1,vbk0_0_1_1,vbk0_0_2_1,vbk0_0_3_1,vbk0_0_4_1⟩:T24)))
 else (z67 N c.Text).bind fun d =>
 bif (!d) then ((z123 N ([(str [99,104,111,105,99,101]),(str [108,111,111,112]),(str [97,103,97,105,110]),(str [112,97,114]),(str [99,97,108,108])]:List ByteArray) c.Text).bind fun e =>
 bif (!e) then (some (b,(⟨vbk0_0_0_1,vbk0_0_1_1,vbk0_0_2_1,vbk0_0_3_1,vbk0_0_4_1⟩:T24)))
 else (z124 N rc (⟨vbk0_0_0_1,vbk0_0_1_1,vbk0_0_2_1,vbk0_0_3_1,vbk0_0_4_1⟩:T24)).bind fun f =>
 (appL b ([f.1]:List T20)).bind fun g =>
 (z66_l1 N rc a) f.2.l' f.2.n' f.2.end' f.2.at' f.2.err' g)
 else (z124 N rc (⟨vbk0_0_0_1,vbk0_0_1_1,vbk0_0_2_1,vbk0_0_3_1,vbk0_0_4_1⟩:T24)).bind fun h =>
 (appL b ([h.1]:List T20)).bind fun i =>
 (z66_l1 N rc a) h.2.l' h.2.n' h.2.end' h.2.at' h.2.err' i
def z66_b (N:Nat) (rc:T24→Option ((List T20) × T24)) (a:T24):Option ((List T20) × T24) :=
 z66_l1 N rc N a.l' a.n' a.end' a.at' a.err' ([]:List T20)
def z66_r:Nat→T24→Option ((List T20) × T24)
 | 0,_=>none
 | N+1,a0=>z66_b N (z66_r N) a0
def z66 (N:Nat) (a:T24):Option ((List T20) × T24):=z66_r N a
def z27_k1 (N:Nat) (a:ByteArray × T24) (b:(List ByteArray) × T24) (vbk0_0_0_1:(List T14)) (vbk0_0_1_1:Int) (vbk0_0_2_1:Int) (vbk0_0_3_1:Int) (vbk0_0_4_1:Int) (c:(List T21)):Option (T22 × T24) :=
 (z66 N (⟨vbk0_0_0_1,vbk0_0_1_1,vbk0_0_2_1,vbk0_0_3_1,vbk0_0_4_1⟩:T24)).bind fun d =>
 (z61 N d.2 (str [125])).bind fun e =>
 some ((⟨a.1,b.1,c,d.1⟩:T22),e)
def z27_l2 (N:Nat) (a:ByteArray × T24) (b:(List ByteArray) × T24):Nat→(List T14)→Int→Int→Int→Int→(List T21)→Option (T22 × T24)
 | 0,_,_,_,_,_,_=>none
 | c+1,vbk0_0_0_3,vbk0_0_1_3,vbk0_0_2_3,vbk0_0_3_3,vbk0_0_4_3,d =>
 (z64 N (⟨vbk0_0_0_3,vbk0_0_1_3,vbk0_0_2_3,vbk0_0_3_3,vbk0_0_4_3⟩:T24) (str [109,101,115,115,97,103,101])).bind fun e =>
 bif e.1 then ((z65 N e.2).bind fun f =>
 (appL d ([f.1]:List T21)).bind fun g =>
 (z27_l2 N a b c) f.2.l' f.2.n' f.2.end' f.2.at' f.2.err' g)
 else z27_k1 N a b e.2.l' e.2.n' e.2.end' e.2.at' e.2.err' d
def z27 (N:Nat) (a:T24):Option (T22 × T24) :=
 (z61 N a (str [112,114,111,116,111,99,111,108])).bind fun b =>
 (z62 N b).bind fun c =>
 (z61 N c.2 (str [40])).bind fun d =>
 (z63 N d).bind fun e =>
 (z61 N e.2 (str [41])).bind fun f =>
 (z61 N f (str [123])).bind fun g =>
 z27_l2 N c e N g.l' g.n' g.end' g.at' g.err' ([]:List T21)
def z127 (N:Nat) (a:ByteArray):Option Bool :=
 (z67 N a).bind fun b =>
 some (!b)
def z189_32_k1:Option Int :=
 some (-1)
def z189_32_l2 (N:Nat) (a:(List ByteArray)):Nat→Int→Option Int
 | 0,_=>none
 | b+1,c =>
 bif (decide (c < (a.length:Int))) then ((idx a c).bind fun d =>
 (z127 N d).bind fun e =>
 bif e then (some c)
 else (z189_32_l2 N a b) (w64 (c+1)))
 else z189_32_k1
def z189_32 (N:Nat) (a:(List ByteArray)):Option Int :=
 z189_32_l2 N a N 0
def z126_33 (N:Nat) (a:(List ByteArray)):Option Bool :=
 (z189_32 N a).bind fun b =>
 some (decide (b≥0))
def z68 (N:Nat) (a:(List ByteArray)) (b:Int):Option Bool :=
 bif (decide ((a.length:Int)≥1)) then (bif (decide ((a.length:Int)≤b)) then ((z126_33 N a).bind fun c =>
 some (!c))
 else some false)
 else some false
def z128_k1 (N:Nat) (a:T20) (b:Bool):Option Bool :=
 bif b then (bif (a.From.toList==(str []).toList) then (bif ((a.To.length:Int)==0) then ((z99 N a.Name).bind fun c =>
 bif c then (bif (a.As.toList==(str []).toList) then (bif (a.Ticks==0) then (bif ((a.Kind==3)==((a.Blocks.length:Int)==1)) then (some (decide ((a.Blocks.length:Int)≤1)))
 else some false)
 else some false)
 else some false)
 else some false)
 else some false)
 else some false)
 else bif (a.Kind==5) then (bif (a.From.toList==(str []).toList) then (bif ((a.To.length:Int)==0) then (bif (a.Name.toList==(str []).toList) then (bif (a.As.toList==(str []).toList) then (bif (a.Ticks==0) then (bif (decide ((a.Blocks.length:Int)≥2)) then (some (decide ((a.Blocks.length:Int)≤8)))
 else some false)
 else some false)
 else some false)
 else some false)
 else some false)
 else some false)
 else bif (a.Kind==6) then (bif (a.From.toList==(str []).toList) then ((z68 N a.To 6).bind fun d =>
 bif d then ((z67 N a.Name).bind fun e =>
 bif e then ((z67 N a.As).bind fun f =>
 bif f then (bif (a.Ticks==0) then (some ((a.Blocks.length:Int)==0))
 else some false)
 else some false)
 else some false)
 else some false)
 else some false)
 else some false
def z128 (N:Nat) (a:T20):Option Bool :=
 bif (a.Kind==1) then ((z67 N a.From).bind fun b =>
 bif b then ((z68 N a.To 5).bind fun c =>
 bif c then ((z99 N a.Name).bind fun d =>
 bif d then (bif (a.As.toList==(str []).toList) then (bif (a.Ticks==0) then (some ((a.Blocks.length:Int)==0))
 else some false)
 else some false)
 else some false)
 else some false)
 else some false)
 else bif (a.Kind==2) then ((z67 N a.From).bind fun e =>
 bif e then (bif ((a.To.length:Int)==0) then (bif (a.Name.toList==(str []).toList) then (bif (a.As.toList==(str []).toList) then (bif (decide (a.Ticks≥0)) then (bif (decide (a.Ticks≤1000)) then (bif (decide ((a.Blocks.length:Int)≥(w64 (1+(minI a.Ticks 1))))) then (some (decide ((a.Blocks.length:Int)≤8)))
 else some false)
 else some false)
 else some false)
 else some false)
 else some false)
 else some false)
 else some false)
 else bif (a.Kind==3) then (z128_k1 N a true)
 else z128_k1 N a (a.Kind==4)
def z69_k1 (vbk1_1_0_1:Int):Option (Bool × Int) :=
 some (true,vbk1_1_0_1)
def z69_k3 (a:Int) (b:Int→Int→Option (Bool × Int)) (vbk1_1_0_19:Int):Option (Bool × Int) :=
 b vbk1_1_0_19 (w64 (a+1))
def z69_l4 (rc:(List T20)→Int→Int→Option (Bool × Int)) (a:Int) (b:Int) (c:Int→Int→Option (Bool × Int)) (d:T20):Nat→Int→Int→Option (Bool × Int)
 | 0,_,_=>none
 | e+1,vbk1_1_0_21,f =>
 bif (decide (f < (d.Blocks.length:Int))) then ((idx d.Blocks f).bind fun g =>
 (rc g (w64 (a+1)) vbk1_1_0_21).bind fun h =>
 bif (!h.1) then (some (false,h.2))
 else (z69_l4 rc a b c d e) h.2 (w64 (f+1)))
 else z69_k3 b c vbk1_1_0_21
def z69_l2 (N:Nat) (rc:(List T20)→Int→Int→Option (Bool × Int)) (a:(List T20)) (b:Int):Nat→Int→Int→Option (Bool × Int)
 | 0,_,_=>none
 | c+1,vbk1_1_0_12,d =>
 bif (decide (d < (a.length:Int))) then ((idx a d).bind fun e =>
 bif (decide (b > 10)) then (some (false,(w64 (vbk1_1_0_12+1))))
 else bif (decide ((w64 (vbk1_1_0_12+1)) > 300)) then (some (false,(w64 (vbk1_1_0_12+1))))
 else (z128 N e).bind fun f =>
 bif (!f) then (some (false,(w64 (vbk1_1_0_12+1))))
 else z69_l4 rc b d (z69_l2 N rc a b c) e N (w64 (vbk1_1_0_12+1)) 0)
 else z69_k1 vbk1_1_0_12
def z69_b (N:Nat) (rc:(List T20)→Int→Int→Option (Bool × Int)) (a:(List T20)) (b:Int) (c:Int):Option (Bool × Int) :=
 z69_l2 N rc a b N c 0
def z69_r:Nat→(List T20)→Int→Int→Option (Bool × Int)
 | 0,_,_,_=>none
 | N+1,a0,a1,a2=>z69_b N (z69_r N) a0 a1 a2
def z69 (N:Nat) (a:(List T20)) (b:Int) (c:Int):Option (Bool × Int):=z69_r N a b c
def z190 (N:Nat) (a:Int):Option Bool :=
 bif (decide (a≥(-999999))) then (some (decide (a≤999999)))
 else some false
def z129_k1 (N:Nat) (a:T23) (b:Bool):Option Bool :=
 bif b then ((z67 N a.Field).bind fun c =>
 bif c then (bif (a.Message.toList==(str []).toList) then (some true)
 else (z99 N a.Message).bind fun d =>
 some d)
 else some false)
 else some false
def z129 (N:Nat) (a:T23):Option Bool :=
 (z190 N a.N).bind fun b =>
 bif (!b) then (some false)
 else bif (a.Kind==1) then (bif (a.Message.toList==(str []).toList) then (some (a.Field.toList==(str []).toList))
 else some false)
 else bif (a.Kind==2) then (z129_k1 N a true)
 else z129_k1 N a (a.Kind==3)
def z70_k1:Option Bool :=
 some true
def z70_l2 (N:Nat) (a:T21):Nat→Int→Option Bool
 | 0,_=>none
 | b+1,c =>
 bif (decide (c < (a.Where.length:Int))) then ((idx a.Where c).bind fun d =>
 (z129 N d.Left).bind fun e =>
 bif (!e) then (some false)
 else (z129 N d.Right).bind fun f =>
 bif (!f) then (some false)
 else (z130 N).bind fun g =>
 (z123 N g d.Op).bind fun h =>
 bif (!h) then (some false)
 else (z70_l2 N a b) (w64 (c+1)))
 else z70_k1
def z70_k3 (N:Nat) (a:T21):Option Bool :=
 z70_l2 N a N 0
def z70_k5 (N:Nat) (a:Int) (b:Int→Option Bool) (c:T4) (d:Int):Option Bool :=
 (z67 N c.Name).bind fun e =>
 bif (!e) then (some false)
 else bif (c.Sort'.Kind != 1) then (bif (c.Sort'.Kind != 2) then (some false)
 else bif (decide ((minI c.Sort'.Lo c.Sort'.Hi) < d)) then (some false)
 else bif (decide ((maxI c.Sort'.Lo c.Sort'.Hi) > 999999)) then (some false)
 else b (w64 (a+1)))
 else bif (decide ((minI c.Sort'.Lo c.Sort'.Hi) < d)) then (some false)
 else bif (decide ((maxI c.Sort'.Lo c.Sort'.Hi) > 999999)) then (some false)
 else b (w64 (a+1))
def z70_l4 (N:Nat) (a:T21):Nat→Int→Option Bool
 | 0,_=>none
 | b+1,c =>
 bif (decide (c < (a.Fields.length:Int))) then ((idx a.Fields c).bind fun d =>
 bif (d.Sort'.Kind==2) then (z70_k5 N c (z70_l4 N a b) d 0)
 else z70_k5 N c (z70_l4 N a b) d (-999999))
 else z70_k3 N a
def z70 (N:Nat) (a:T21):Option Bool :=
 (z99 N a.Name).bind fun b =>
 bif (!b) then (some false)
 else bif (decide ((a.Fields.length:Int) > 4)) then (some false)
 else bif (decide ((a.Where.length:Int) > 6)) then (some false)
 else z70_l4 N a N 0
def z109_34 (N:Nat) (a:T25):Option T25 :=
 some (⟨ByteArray.empty,a.depth'⟩:T25)
def z52_35 (N:Nat) (a:ByteArray) (b:T25):Option (Int × Unit × T25) :=
 (z109_34 N (⟨ByteArray.empty,b.depth'⟩:T25)).bind fun c =>
 (apB c.Builder a).bind fun d =>
 some ((a.size:Int),(),(⟨d,c.depth'⟩:T25))
def z131_36 (N:Nat) (a:(List ByteArray)) (b:T25):Option T25 :=
 (z86 N (str [9]) b.depth').bind fun c =>
 (z25 N a (str [])).bind fun d =>
 (catS c d).bind fun e =>
 (catS e (str [10])).bind fun f =>
 (z52_35 N f (⟨ByteArray.empty,b.depth'⟩:T25)).bind fun g =>
 some g.2.2
def z191_k1 (N:Nat) (a:T23) (b:ByteArray):Option ByteArray :=
 bif (decide (a.N > 0)) then ((z48 N a.N).bind fun c =>
 (catS (str [32,43,32]) c).bind fun d =>
 (catS b d).bind fun e =>
 some e)
 else bif (decide (a.N < 0)) then ((z48 N (w64 (0-a.N))).bind fun f =>
 (catS (str [32,45,32]) f).bind fun g =>
 (catS b g).bind fun h =>
 some h)
 else some b
def z191_k2 (N:Nat) (a:T23) (b:ByteArray):Option ByteArray :=
 bif (a.Kind==3) then ((catS (str [108,101,110,40]) b).bind fun c =>
 (catS c (str [41])).bind fun d =>
 z191_k1 N a d)
 else z191_k1 N a b
def z191 (N:Nat) (a:T23):Option ByteArray :=
 bif (a.Kind==1) then ((z48 N a.N).bind fun b =>
 some b)
 else bif (!(a.Message.toList==(str []).toList)) then ((catS a.Message (str [46])).bind fun c =>
 (catS c a.Field).bind fun d =>
 z191_k2 N a d)
 else z191_k2 N a a.Field
def z109_37 (N:Nat) (a:T25):Option Unit :=
 some ()
def z52_38 (N:Nat) (a:ByteArray) (b:T25):Option (Int × Unit × T25) :=
 (z109_37 N b).bind fun c =>
 (apB b.Builder a).bind fun d =>
 some ((a.size:Int),(),(⟨d,b.depth'⟩:T25))
def z131_39 (N:Nat) (a:(List ByteArray)) (b:T25):Option T25 :=
 (z86 N (str [9]) b.depth').bind fun c =>
 (z25 N a (str [])).bind fun d =>
 (catS c d).bind fun e =>
 (catS e (str [10])).bind fun f =>
 (z52_38 N f b).bind fun g =>
 some g.2.2
def z132_40_k1 (N:Nat) (a:T21) (b:T25) (c:(List ByteArray)) (d:(List ByteArray)):Option T25 :=
 bif (decide ((d.length:Int) > 0)) then ((z25 N d (str [32,97,110,100,32])).bind fun e =>
 (catS (str [32,119,104,101,114,101,32]) e).bind fun f =>
 (z25 N c (str [44,32])).bind fun g =>
 (z131_39 N ([(str [109,101,115,115,97,103,101,32]),a.Name,(str [40]),g,(str [41]),f,(str [59])]:List ByteArray) b).bind fun h =>
 some h)
 else (z25 N c (str [44,32])).bind fun i =>
 (z131_39 N ([(str [109,101,115,115,97,103,101,32]),a.Name,(str [40]),i,(str [41]),(str []),(str [59])]:List ByteArray) b).bind fun j =>
 some j
def z132_40_l2 (N:Nat) (a:T21) (b:T25) (c:(List ByteArray)):Nat→(List ByteArray)→Int→Option T25
 | 0,_,_=>none
 | d+1,e,f =>
 bif (decide (f < (a.Where.length:Int))) then ((idx a.Where f).bind fun g =>
 (z191 N g.Left).bind fun h =>
 (catS h (str [32])).bind fun i =>
 (catS i g.Op).bind fun j =>
 (catS j (str [32])).bind fun k =>
 (z191 N g.Right).bind fun l =>
 (catS k l).bind fun m =>
 (appL e ([m]:List ByteArray)).bind fun o =>
 (z132_40_l2 N a b c d) o (w64 (f+1)))
 else z132_40_k1 N a b c e
def z132_40_k3 (N:Nat) (a:T21) (b:T25) (c:(List ByteArray)):Option T25 :=
 z132_40_l2 N a b c N ([]:List ByteArray) 0
def z132_40_k5 (N:Nat) (a:(List ByteArray)) (b:Int) (c:(List ByteArray)→Int→Option T25) (d:T4) (e:ByteArray):Option T25 :=
 (catS d.Name e).bind fun f =>
 (z48 N d.Sort'.Lo).bind fun g =>
 (catS f g).bind fun h =>
 (catS h (str [46,46])).bind fun i =>
 (z48 N d.Sort'.Hi).bind fun j =>
 (catS i j).bind fun k =>
 (appL a ([k]:List ByteArray)).bind fun l =>
 c l (w64 (b+1))
def z132_40_l4 (N:Nat) (a:T21) (b:T25):Nat→(List ByteArray)→Int→Option T25
 | 0,_,_=>none
 | c+1,d,e =>
 bif (decide (e < (a.Fields.length:Int))) then ((idx a.Fields e).bind fun f =>
 bif (f.Sort'.Kind==2) then (z132_40_k5 N d e (z132_40_l4 N a b c) f (str [58,32,116,101,120,116,32]))
 else z132_40_k5 N d e (z132_40_l4 N a b c) f (str [58,32,105,110,116,32]))
 else z132_40_k3 N a b d
def z132_40 (N:Nat) (a:T21) (b:T25):Option T25 :=
 z132_40_l4 N a b N ([]:List ByteArray) 0
def z192_41_k1 (N:Nat) (vbk1_1_1_1:ByteArray) (vbk1_1_2_1:Int):Option T25 :=
 (z131_39 N ([(str [125])]:List ByteArray) (⟨vbk1_1_1_1,vbk1_1_2_1⟩:T25)).bind fun a =>
 some a
def z192_41_k3 (rc:(List T20)→T25→Option T25) (a:Int) (b:ByteArray→Int→Int→Option T25) (c:(List T20)) (vbk1_1_1_9:ByteArray) (vbk1_1_2_9:Int):Option T25 :=
 (rc c (⟨vbk1_1_1_9,(w64 (vbk1_1_2_9+1))⟩:T25)).bind fun d =>
 b d.Builder (w64 (d.depth'-1)) (w64 (a+1))
def z192_41_l2 (N:Nat) (rc:(List T20)→T25→Option T25) (a:ByteArray) (b:ByteArray) (c:ByteArray) (d:(List (List T20))):Nat→ByteArray→Int→Int→Option T25
 | 0,_,_,_=>none
 | e+1,vbk1_1_1_6,vbk1_1_2_6,f =>
 bif (decide (f < (d.length:Int))) then ((idx d f).bind fun g =>
 bif (f==0) then ((z131_39 N ([a,(str [32,123])]:List ByteArray) (⟨vbk1_1_1_6,vbk1_1_2_6⟩:T25)).bind fun h =>
 z192_41_k3 rc f (z192_41_l2 N rc a b c d e) g h.Builder h.depth')
 else bif (f==(w64 ((d.length:Int)-1))) then (bif (!(c.toList==(str []).toList)) then ((z131_39 N ([(str [125,32]),c,(str [32,123])]:List ByteArray) (⟨vbk1_1_1_6,vbk1_1_2_6⟩:T25)).bind fun i =>
 z192_41_k3 rc f (z192_41_l2 N rc a b c d e) g i.Builder i.depth')
 else (z131_39 N ([(str [125,32]),b,(str [32,123])]:List ByteArray) (⟨vbk1_1_1_6,vbk1_1_2_6⟩:T25)).bind fun j =>
 z192_41_k3 rc f (z192_41_l2 N rc a b c d e) g j.Builder j.depth')
 else (z131_39 N ([(str [125,32]),b,(str [32,123])]:List ByteArray) (⟨vbk1_1_1_6,vbk1_1_2_6⟩:T25)).bind fun k =>
 z192_41_k3 rc f (z192_41_l2 N rc a b c d e) g k.Builder k.depth')
 else z192_41_k1 N vbk1_1_1_6 vbk1_1_2_6
def z192_41 (N:Nat) (rc:(List T20)→T25→Option T25) (a:ByteArray) (b:ByteArray) (c:ByteArray) (d:(List (List T20))) (e:T25):Option T25 :=
 z192_41_l2 N rc a b c d N e.Builder e.depth' 0
def z133_42_k1 (vbk1_1_1_1:ByteArray) (vbk1_1_2_1:Int):Option T25 :=
 some (⟨vbk1_1_1_1,vbk1_1_2_1⟩:T25)
def z133_42_l2 (N:Nat) (rc:(List T20)→T25→Option T25) (a:(List T20)):Nat→ByteArray→Int→Int→Option T25
 | 0,_,_,_=>none
 | b+1,vbk1_1_1_3,vbk1_1_2_3,c =>
 bif (decide (c < (a.length:Int))) then ((idx a c).bind fun d =>
 bif (d.Kind==1) then ((z25 N d.To (str [44,32])).bind fun e =>
 (z131_39 N ([d.From,(str [32,45,62,32]),e,(str [58,32]),d.Name,(str [59])]:List ByteArray) (⟨vbk1_1_1_3,vbk1_1_2_3⟩:T25)).bind fun f =>
 (z133_42_l2 N rc a b) f.Builder f.depth' (w64 (c+1)))
 else bif (d.Kind==2) then (bif (decide (d.Ticks > 0)) then ((catS (str [99,104,111,105,99,101,32,97,116,32]) d.From).bind fun g =>
 (catS g (str [32,119,105,116,104,105,110,32])).bind fun h =>
 (z48 N d.Ticks).bind fun i =>
 (catS h i).bind fun j =>
 (z192_41 N rc j (str [111,114]) (str [101,108,115,101]) d.Blocks (⟨vbk1_1_1_3,vbk1_1_2_3⟩:T25)).bind fun k =>
 (z133_42_l2 N rc a b) k.Builder k.depth' (w64 (c+1)))
 else (catS (str [99,104,111,105,99,101,32,97,116,32]) d.From).bind fun l =>
 (z192_41 N rc l (str [111,114]) (str []) d.Blocks (⟨vbk1_1_1_3,vbk1_1_2_3⟩:T25)).bind fun m =>
 (z133_42_l2 N rc a b) m.Builder m.depth' (w64 (c+1)))
 else bif (d.Kind==3) then ((catS (str [108,111,111,112,32]) d.Name).bind fun o =>
 (z192_41 N rc o (str []) (str []) d.Blocks (⟨vbk1_1_1_3,vbk1_1_2_3⟩:T25)).bind fun p =>
 (z133_42_l2 N rc a b) p.Builder p.depth' (w64 (c+1)))
 else bif (d.Kind==4) then ((z131_39 N ([(str [97,103,97,105,110,32]),d.Name,(str [59])]:List ByteArray) (⟨vbk1_1_1_3,vbk1_1_2_3⟩:T25)).bind fun q =>
 (z133_42_l2 N rc a b) q.Builder q.depth' (w64 (c+1)))
 else bif (d.Kind==5) then ((z192_41 N rc (str [112,97,114]) (str [97,110,100]) (str []) d.Blocks (⟨vbk1_1_1_3,vbk1_1_2_3⟩:T25)).bind fun r =>
 (z133_42_l2 N rc a b) r.Builder r.depth' (w64 (c+1)))
 else bif (d.Kind==6) then ((z25 N d.To (str [44,32])).bind fun s =>
 (z131_39 N ([(str [99,97,108,108,32]),d.Name,(str [40]),s,(str [41,32,97,115,32]),d.As,(str [59])]:List ByteArray) (⟨vbk1_1_1_3,vbk1_1_2_3⟩:T25)).bind fun t =>
 (z133_42_l2 N rc a b) t.Builder t.depth' (w64 (c+1)))
 else (z133_42_l2 N rc a b) vbk1_1_1_3 vbk1_1_2_3 (w64 (c+1)))
 else z133_42_k1 vbk1_1_1_3 vbk1_1_2_3
def z133_42_b (N:Nat) (rc:(List T20)→T25→Option T25) (a:(List T20)) (b:T25):Option T25 :=
 z133_42_l2 N rc a N b.Builder b.depth' 0
def z133_42_r:Nat→(List T20)→T25→Option T25
 | 0,_,_=>none
 | N+1,a0,a1=>z133_42_b N (z133_42_r N) a0 a1
def z133_42 (N:Nat) (a:(List T20)) (b:T25):Option T25:=z133_42_r N a b
def z53_43 (N:Nat) (a:T25):Option ByteArray :=
 (gdB a.Builder).bind fun b =>
 (gdB a.Builder).bind fun c =>
 some a.Builder
def z53_44 (N:Nat) (a:T25):Option ByteArray :=
 some ByteArray.empty
def z71_k2 (N:Nat) (a:Int) (b:ByteArray→Int→Int→Option ByteArray) (c:T22) (d:ByteArray) (e:Int):Option ByteArray :=
 (z133_42 N c.Body (⟨d,e⟩:T25)).bind fun f =>
 (z131_39 N ([(str [125])]:List ByteArray) (⟨f.Builder,(w64 (f.depth'-1))⟩:T25)).bind fun g =>
 b g.Builder g.depth' (w64 (a+1))
def z71_l3 (N:Nat) (a:Int) (b:ByteArray→Int→Int→Option ByteArray) (c:T22):Nat→ByteArray→Int→Int→Option ByteArray
 | 0,_,_,_=>none
 | d+1,e,f,g =>
 bif (decide (g < (c.Messages.length:Int))) then ((idx c.Messages g).bind fun h =>
 (z132_40 N h (⟨e,f⟩:T25)).bind fun i =>
 (z71_l3 N a b c d) i.Builder i.depth' (w64 (g+1)))
 else z71_k2 N a b c e f
def z71_l1 (N:Nat) (a:(List T22)):Nat→ByteArray→Int→Int→Option ByteArray
 | 0,_,_,_=>none
 | b+1,c,d,e =>
 bif (decide (e < (a.length:Int))) then ((idx a e).bind fun f =>
 (z25 N f.Roles (str [44,32])).bind fun g =>
 (z131_39 N ([(str [112,114,111,116,111,99,111,108,32]),f.Name,(str [40]),g,(str [41,32,123])]:List ByteArray) (⟨c,d⟩:T25)).bind fun h =>
 z71_l3 N e (z71_l1 N a b) f N h.Builder (w64 (h.depth'+1)) 0)
 else (z53_43 N (⟨c,d⟩:T25)).bind fun i =>
 some i
def z71_k4 (N:Nat) (a:(List T22)) (b:T22) (c:ByteArray) (d:Int):Option ByteArray :=
 (z133_42 N b.Body (⟨c,d⟩:T25)).bind fun e =>
 (z131_39 N ([(str [125])]:List ByteArray) (⟨e.Builder,(w64 (e.depth'-1))⟩:T25)).bind fun f =>
 z71_l1 N a N f.Builder f.depth' (w64 (0+1))
def z71_l5 (N:Nat) (a:(List T22)) (b:T22):Nat→ByteArray→Int→Int→Option ByteArray
 | 0,_,_,_=>none
 | c+1,d,e,f =>
 bif (decide (f < (b.Messages.length:Int))) then ((idx b.Messages f).bind fun g =>
 (z132_40 N g (⟨d,e⟩:T25)).bind fun h =>
 (z71_l5 N a b c) h.Builder h.depth' (w64 (f+1)))
 else z71_k4 N a b d e
def z71 (N:Nat) (a:(List T22)):Option ByteArray :=
 bif (decide (0 < (a.length:Int))) then ((idx a 0).bind fun b =>
 (z25 N b.Roles (str [44,32])).bind fun c =>
 (z131_36 N ([(str [112,114,111,116,111,99,111,108,32]),b.Name,(str [40]),c,(str [41,32,123])]:List ByteArray) (⟨ByteArray.empty,0⟩:T25)).bind fun d =>
 z71_l5 N a b N d.Builder (w64 (d.depth'+1)) 0)
 else (z53_44 N (⟨ByteArray.empty,0⟩:T25)).bind fun e =>
 some e
def z28_k1 (N:Nat) (a:(List T22)):Option Bool :=
 (z71 N a).bind fun b =>
 some (decide ((b.size:Int)≤8000))
def z28_k3 (a:Int) (b:Int→Option Bool):Option Bool :=
 b (w64 (a+1))
def z28_l4 (N:Nat) (a:Int) (b:Int→Option Bool) (c:T22):Nat→Int→Option Bool
 | 0,_=>none
 | d+1,e =>
 bif (decide (e < (c.Messages.length:Int))) then ((idx c.Messages e).bind fun f =>
 (z70 N f).bind fun g =>
 bif (!g) then (some false)
 else (z28_l4 N a b c d) (w64 (e+1)))
 else z28_k3 a b
def z28_l2 (N:Nat) (a:(List T22)):Nat→Int→Option Bool
 | 0,_=>none
 | b+1,c =>
 bif (decide (c < (a.length:Int))) then ((idx a c).bind fun d =>
 (z67 N d.Name).bind fun e =>
 bif (!e) then (some false)
 else (z68 N d.Roles 6).bind fun f =>
 bif (!f) then (some false)
 else bif (decide ((d.Messages.length:Int) > 40)) then (some false)
 else (z69 N d.Body 1 0).bind fun g =>
 bif (!g.1) then (some false)
 else z28_l4 N c (z28_l2 N a b) d N 0)
 else z28_k1 N a
def z28 (N:Nat) (a:(List T22)):Option Bool :=
 bif (decide ((a.length:Int) > 10)) then (some false)
 else z28_l2 N a N 0
def z9_k1 (N:Nat) (a:(List T22)) (b:(List T14)) (c:Int) (d:Int) (e:Int) (f:Int):Option ((List T22) × Int × Int) :=
 bif (f != 0) then (some (([]:List T22),e,f))
 else (z28 N a).bind fun g =>
 bif (!g) then (some (([]:List T22),0,6))
 else some (a,0,0)
def z9_l2 (N:Nat) (a:(List T14) × Int × Int):Nat→(List T22)→(List T14)→Int→Int→Int→Int→Option ((List T22) × Int × Int)
 | 0,_,_,_,_,_,_=>none
 | b+1,c,d,e,f,g,h =>
 bif (decide (e < (a.1.length:Int))) then (bif (h==0) then ((z27 N (⟨d,e,f,g,h⟩:T24)).bind fun i =>
 (appL c ([i.1]:List T22)).bind fun j =>
 (z9_l2 N a b) j i.2.l' i.2.n' i.2.end' i.2.at' i.2.err')
 else z9_k1 N c d e f g h)
 else z9_k1 N c d e f g h
def z9 (N:Nat) (a:ByteArray):Option ((List T22) × Int × Int) :=
 (z26 N a).bind fun b =>
 bif (b.2.2 != 0) then (some (([]:List T22),b.2.1,b.2.2))
 else z9_l2 N b N ([]:List T22) b.1 0 (a.size:Int) 0 0
def law43_ExplainParsed_k1:Option Bool :=
 some true
def law43_ExplainParsed_l2 (a:T0) (b:T21):Nat→Int→Option Bool
 | 0,_=>none
 | c+1,d =>
 bif (decide (d < (a.Fields.length:Int))) then ((idx b.Fields d).bind fun e =>
 (idx a.Fields d).bind fun f =>
 bif (!((e.Name.toList==f.Name.toList) && (((e.Sort'.Kind==f.Sort'.Kind) && ((e.Sort'.Lo==f.Sort'.Lo) && ((e.Sort'.Hi==f.Sort'.Hi) && true))) && true))) then (some false)
 else (law43_ExplainParsed_l2 a b c) (w64 (d+1)))
 else law43_ExplainParsed_k1
def law43_ExplainParsed (N:Nat) (a:(List T0)) (b:Int):Option Bool :=
 (z4 N).bind fun c =>
 bif (!c) then (some false)
 else (z5 N a).bind fun d =>
 bif (!d) then (some true)
 else (z6 N a).bind fun e =>
 bif (!e) then (some true)
 else bif (decide (b < 0)) then (some true)
 else bif (decide (b≥(a.length:Int))) then (some true)
 else (idx a b).bind fun f =>
 (z7 N a b).bind fun g =>
 (z8 N f).bind fun h =>
 bif (decide (h > 6)) then (some (decide ((g.size:Int) > (f.Name.size:Int))))
 else (catS (str [112,114,111,116,111,99,111,108,32,80,40,65,41,32,123,32,109,101,115,115,97,103,101,32]) g).bind fun i =>
 (catS i (str [59,32,125])).bind fun j =>
 (z9 N j).bind fun k =>
 bif (k.2.2 != 0) then (some false)
 else bif ((k.1.length:Int) != 1) then (some false)
 else (idx k.1 0).bind fun l =>
 bif ((l.Messages.length:Int) != 1) then (some false)
 else (idx k.1 0).bind fun m =>
 (idx m.Messages 0).bind fun o =>
 bif (!(o.Name.toList==f.Name.toList)) then (some false)
 else bif ((o.Fields.length:Int) != (f.Fields.length:Int)) then (some false)
 else (z8 N f).bind fun p =>
 bif ((o.Where.length:Int) != p) then (some false)
 else law43_ExplainParsed_l2 f o N 0
end Gx
end
