/- What each function of the statement computes, as plain definitions. -/
import Derived.Test.YtdlhgdfjpilcjaaGreatDoorExplainPermitsCore4
set_option linter.all false
section
open Go Go.Kx
namespace Gx
def digN:Nat→Nat→List UInt8
 | 0,_=>[]
 | f+1,u=>bif Nat.blt u 10 then [UInt8.ofNat (48+u)] else digN f (u / 10)++[UInt8.ofNat (48+u % 10)]
def itoaS (n:Int):ByteArray:=⟨(bif decide (n < 0) then 45::digN 25 n.natAbs else digN 25 n.toNat).toArray⟩
def joinL (sep:List UInt8):List (List UInt8)→List UInt8
 | []=>[]
 | x::r=>x++(r.map (sep++·)).flatten
def quoB (b:UInt8):List UInt8:=if b=34∨b=92 then [92,b] else [b]
def quoL (l:List UInt8):List UInt8:=(l.map quoB).flatten
structure T10 where
  Kind:Int
  Lo:Int
  Hi:Int
structure T4 where
  Name:ByteArray
  Sort':T10
structure T1 where
  X:Int
  Y:Int
  C:Int
structure T6 where
  Diffs:(List T1)
  Equals:(List (Int × Int))
structure T0 where
  Name:ByteArray
  Fields:(List T4)
  First:Int
  Guard:T6
structure T7 where
  From:Int
  To:Int
  Label:Int
structure T2 where
  From:Int
  Act:T7
  To:Int
  Again:Bool
structure T11 where
  State:Int
  Ticks:Int
  Else:Int
structure T5 where
  Name:ByteArray
  Roles:(List ByteArray)
  Decls:(List T0)
  States:Int
  Start:Int
  End:Int
  Edges:(List T2)
  Timeouts:(List T11)
structure T9 where
  From:Int
  Send:Bool
  Peer:Int
  Label:Int
  To:Int
  Again:Bool
structure T8 where
  Role:Int
  States:Int
  Start:Int
  Finals:(List Bool)
  Moves:(List T9)
  Timeouts:(List T11)
structure T12 where
  Kind:Int
  N:Int
  S:ByteArray
structure T16 where
  At:Int
  Known:(List T12)
  Pending:(List T12)
structure T15 where
  Machine:T8
  out':(List (List Int))
structure T14 where
  send':Bool
  peer':Int
  label':Int
structure T3 where
  Role:Int
  Send:Bool
  Peer:Int
  Label:Int
  Values:(List T12)
structure T13 where
  At:Int
  Kind:Int
  Part:Int
  Role:Int
structure T17 where
  N:Int
  B:(List Int)
def z262 (N:Nat) (a:Int):Option Bool :=
 bif (decide (97≤a)) then (bif (decide (a≤122)) then (some true)
 else bif (decide (65≤a)) then (some (decide (a≤90)))
 else some false)
 else bif (decide (65≤a)) then (some (decide (a≤90)))
 else some false
def z284 (N:Nat) (a:Int):Option Bool :=
 bif (decide (48≤a)) then (some (decide (a≤57)))
 else some false
def z263 (N:Nat) (a:Int):Option Bool :=
 (z262 N a).bind fun b =>
 bif b then (some true)
 else (z284 N a).bind fun c =>
 bif c then (some true)
 else some (a==95)
def z220_k1:Option Bool :=
 some true
def z220_l2 (N:Nat) (a:ByteArray):Nat→Int→Option Bool
 | 0,_=>none
 | b+1,c =>
 bif (decide (c < (a.size:Int))) then ((sidx a c).bind fun d =>
 (z263 N d).bind fun e =>
 bif (!e) then (some false)
 else (z220_l2 N a b) (w64 (c+1)))
 else z220_k1
def z220 (N:Nat) (a:ByteArray):Option Bool :=
 bif (a.toList==(str []).toList) then (some false)
 else bif (decide ((a.size:Int) > 16)) then (some false)
 else (sidx a 0).bind fun b =>
 (z262 N b).bind fun c =>
 bif (!c) then (some false)
 else z220_l2 N a N 0
def z264_k1:Option Int :=
 some (-1)
def z264_l2 (a:(List ByteArray)) (b:ByteArray):Nat→Int→Option Int
 | 0,_=>none
 | c+1,d =>
 bif (decide (d < (a.length:Int))) then ((idx a d).bind fun e =>
 bif (b.toList==e.toList) then (some d)
 else (z264_l2 a b c) (w64 (d+1)))
 else z264_k1
def z264 (N:Nat) (a:(List ByteArray)) (b:ByteArray):Option Int :=
 z264_l2 a b N 0
def z221 (N:Nat) (a:(List ByteArray)) (b:ByteArray):Option Bool :=
 (z264 N a b).bind fun c =>
 some (decide (c≥0))
def z146 (N:Nat) (a:ByteArray):Option Bool :=
 (z220 N a).bind fun b =>
 bif b then ((z221 N ([(str [97,103,97,105,110]),(str [97,110,100]),(str [97,115]),(str [97,116]),(str [99,97,108,108]),(str [99,104,111,105,99,101]),(str [101,108,115,101]),(str [102,114,111,109]),(str [105,102]),(str [105,110,116]),(str [108,101,110]),(str [108,111,111,112]),(str [109,101,115,115,97,103,101]),(str [111,102]),(str [111,102,102,101,114]),(str [111,110]),(str [111,114]),(str [112,97,114]),(str [112,108,97,121,115]),(str [112,114,111,116,111,99,111,108]),(str [115,101,114,118,105,99,101]),(str [116,101,120,116]),(str [116,105,109,101,115]),(str [116,111]),(str [118,97,114]),(str [119,104,101,114,101]),(str [119,104,105,108,101]),(str [119,105,116,104,105,110])]:List ByteArray) a).bind fun c =>
 some (!c))
 else some false
def z208_k1:Option Bool :=
 some true
def z208_l2 (N:Nat) (a:T5):Nat→Int→Option Bool
 | 0,_=>none
 | b+1,c =>
 bif (decide (c < (a.Roles.length:Int))) then ((idx a.Roles c).bind fun d =>
 (z146 N d).bind fun e =>
 bif (!e) then (some false)
 else (lsl a.Roles none (some c)).bind fun f =>
 (z221 N f d).bind fun g =>
 bif g then (some false)
 else (z208_l2 N a b) (w64 (c+1)))
 else z208_k1
def z208 (N:Nat) (a:T5):Option Bool :=
 (z146 N a.Name).bind fun b =>
 bif (!b) then (some false)
 else bif (decide ((a.Roles.length:Int) < 1)) then (some false)
 else bif (decide ((a.Roles.length:Int) > 6)) then (some false)
 else z208_l2 N a N 0
def z209_k1:Option Bool :=
 some true
def z209_l2 (a:T5):Nat→Int→Option Bool
 | 0,_=>none
 | b+1,c =>
 bif (decide (c < (a.Edges.length:Int))) then ((idx a.Edges c).bind fun d =>
 bif (decide ((minI (minI (minI (minI d.From d.To) d.Act.From) d.Act.To) d.Act.Label) < 0)) then (some false)
 else bif (decide ((maxI d.From d.To)≥a.States)) then (some false)
 else bif (decide ((maxI d.Act.From d.Act.To)≥(a.Roles.length:Int))) then (some false)
 else bif (d.Act.From==d.Act.To) then (some false)
 else bif (decide (d.Act.Label≥(a.Decls.length:Int))) then (some false)
 else (z209_l2 a b) (w64 (c+1)))
 else z209_k1
def z209 (N:Nat) (a:T5):Option Bool :=
 bif (decide (a.States < 1)) then (some false)
 else bif (decide (a.States > 200)) then (some false)
 else bif (decide ((minI a.Start a.End) < 0)) then (some false)
 else bif (decide ((maxI a.Start a.End)≥a.States)) then (some false)
 else bif (decide ((a.Edges.length:Int) > 400)) then (some false)
 else z209_l2 a N 0
def z142_k1 (a:(List T4)):Option (List T4) :=
 some a
def z142_l2 (a:(List T0)):Nat→(List T4)→Int→Option (List T4)
 | 0,_,_=>none
 | b+1,c,d =>
 bif (decide (d < (a.length:Int))) then ((idx a d).bind fun e =>
 (appL c e.Fields).bind fun f =>
 (z142_l2 a b) f (w64 (d+1)))
 else z142_k1 c
def z142 (N:Nat) (a:(List T0)):Option (List T4) :=
 z142_l2 a N ([]:List T4) 0
def z297_k1 (a:Int) (b:Nat):Option Int :=
 some a
def z297_l2 (a:ByteArray):Nat→Int→Nat→Option Int
 | 0,_,_=>none
 | b+1,c,d =>
 bif decide (d < a.size) then ((z297_l2 a b) (w64 (c+1)) (d+(Utf8.decode a d).2))
 else z297_k1 c d
def z297 (N:Nat) (a:ByteArray):Option Int :=
 z297_l2 a N 0 (0:Nat)
def z306 (N:Nat) (a:ByteArray):Option (Int × Int) :=
 bif (decide ((a.size:Int) < 1)) then (some (65533,0))
 else (sidx a 0).bind fun b =>
 dead 0
def z298 (N:Nat) (a:ByteArray):Option (Int × Int) :=
 bif (!(a.toList==(str []).toList)) then ((sidx a 0).bind fun b =>
 bif (decide (b < 128)) then ((sidx a 0).bind fun c =>
 some ((wk .i32 (c)),1))
 else (z306 N a).bind fun d =>
 some (d.1,d.2))
 else (z306 N a).bind fun e =>
 some (e.1,e.2)
def z281_k1 (a:Int) (b:ByteArray) (c:(List ByteArray)):Option (List ByteArray) :=
 bif (decide (a > 0)) then ((idx c (w64 (a-1))).bind fun d =>
 some (setL' c (w64 (a-1)) b))
 else some c
def z281_l2 (N:Nat) (a:Int):Nat→ByteArray→(List ByteArray)→Int→Option (List ByteArray)
 | 0,_,_,_=>none
 | b+1,c,d,e =>
 bif (decide (e < (w64 (a-1)))) then ((z298 N c).bind fun f =>
 (ssl c none (some f.2)).bind fun g =>
 (idx d e).bind fun h =>
 (ssl c (some f.2) none).bind fun i =>
 (z281_l2 N a b) i (setL' d e g) (w64 (e+1)))
 else z281_k1 a c d
def z281_k3 (N:Nat) (a:ByteArray) (b:Int):Option (List ByteArray) :=
 (mkL (str []) b b).bind fun c =>
 z281_l2 N b N a c 0
def z281_k4 (N:Nat) (a:ByteArray) (b:Int) (c:Int) (d:Bool):Option (List ByteArray) :=
 bif d then (z281_k3 N a c)
 else z281_k3 N a b
def z281 (N:Nat) (a:ByteArray) (b:Int):Option (List ByteArray) :=
 (z297 N a).bind fun c =>
 bif (decide (b < 0)) then (z281_k4 N a b c true)
 else z281_k4 N a b c (decide (b > c))
def z307 (N:Nat) (a:ByteArray) (b:Int):Option Int :=
 some (firstB a b)
def z300 (N:Nat) (a:ByteArray) (b:ByteArray):Option Int :=
 bif ((b.size:Int)==0) then (some 0)
 else bif (b.toList==a.toList) then (some 0)
 else bif ((b.size:Int)==1) then ((sidx b 0).bind fun c =>
 (z307 N a c).bind fun d =>
 some d)
 else bif (decide ((b.size:Int)≥(a.size:Int))) then (some (-1))
 else dead 0
def z283 (N:Nat) (a:ByteArray) (b:ByteArray):Option Int :=
 (z300 N a b).bind fun c =>
 some c
def z282_l1 (N:Nat) (a:ByteArray):Nat→ByteArray→Int→Option Int
 | 0,_,_=>none
 | b+1,c,d =>
 (z283 N c a).bind fun e =>
 bif (e==(-1)) then (some d)
 else (ssl c (some (w64 (e+(a.size:Int)))) none).bind fun f =>
 (z282_l1 N a b) f (w64 (d+1))
def z282 (N:Nat) (a:ByteArray) (b:ByteArray):Option Int :=
 bif ((b.size:Int)==0) then ((z297 N a).bind fun c =>
 some (w64 (c+1)))
 else bif ((b.size:Int)==1) then ((sidx b 0).bind fun d =>
 some (countB a d))
 else z282_l1 N b N a 0
def z261_k1 (a:ByteArray) (b:(List ByteArray)) (c:Int):Option (List ByteArray) :=
 (idx b c).bind fun d =>
 (lsl (setL' b c a) none (some (w64 (c+1)))).bind fun e =>
 some e
def z261_l2 (N:Nat) (a:ByteArray) (b:ByteArray) (c:Int) (d:Int):Nat→ByteArray→(List ByteArray)→Int→Option (List ByteArray)
 | 0,_,_,_=>none
 | e+1,f,g,h =>
 bif (decide (h < (w64 ((minI d (w64 ((a.size:Int)+1)))-1)))) then ((z283 N f b).bind fun i =>
 bif (decide (i < 0)) then (z261_k1 f g h)
 else (ssl f none (some (w64 (i+c)))).bind fun j =>
 (idx g h).bind fun k =>
 (ssl f (some (w64 (i+(b.size:Int)))) none).bind fun l =>
 (z261_l2 N a b c d e) l (setL' g h j) (w64 (h+1)))
 else z261_k1 f g h
def z261_k3 (N:Nat) (a:ByteArray) (b:ByteArray) (c:Int) (d:Int):Option (List ByteArray) :=
 (mkL (str []) (minI d (w64 ((a.size:Int)+1))) (minI d (w64 ((a.size:Int)+1)))).bind fun e =>
 z261_l2 N a b c d N a e 0
def z261 (N:Nat) (a:ByteArray) (b:ByteArray) (c:Int) (d:Int):Option (List ByteArray) :=
 bif (d==0) then (some ([]:List ByteArray))
 else bif (b.toList==(str []).toList) then ((z281 N a d).bind fun e =>
 some e)
 else bif (decide (d < 0)) then ((z282 N a b).bind fun f =>
 z261_k3 N a b c (w64 (f+1)))
 else z261_k3 N a b c d
def z217 (N:Nat) (a:ByteArray) (b:ByteArray):Option (List ByteArray) :=
 (z261 N a b 0 (-1)).bind fun c =>
 some c
def z218 (N:Nat) (a:ByteArray):Option Bool :=
 (z146 N a).bind fun b =>
 some (!b)
def z260_0_k1:Option Int :=
 some (-1)
def z260_0_l2 (N:Nat) (a:(List ByteArray)):Nat→Int→Option Int
 | 0,_=>none
 | b+1,c =>
 bif (decide (c < (a.length:Int))) then ((idx a c).bind fun d =>
 (z218 N d).bind fun e =>
 bif e then (some c)
 else (z260_0_l2 N a b) (w64 (c+1)))
 else z260_0_k1
def z260_0 (N:Nat) (a:(List ByteArray)):Option Int :=
 z260_0_l2 N a N 0
def z216_1 (N:Nat) (a:(List ByteArray)):Option Bool :=
 (z260_0 N a).bind fun b =>
 some (decide (b≥0))
def z143 (N:Nat) (a:ByteArray):Option Bool :=
 bif (decide ((a.size:Int)≤50)) then ((z217 N a (str [46])).bind fun b =>
 (z216_1 N b).bind fun c =>
 some (!c))
 else some false
def z145_2 (N:Nat) (a:T0) (b:T0):Option Bool :=
 some (a.Name.toList==b.Name.toList)
def z219_3_k1:Option Int :=
 some (-1)
def z219_3_l2 (N:Nat) (a:(List T0)) (b:T0):Nat→Int→Option Int
 | 0,_=>none
 | c+1,d =>
 bif (decide (d < (a.length:Int))) then ((idx a d).bind fun e =>
 (z145_2 N e b).bind fun f =>
 bif f then (some d)
 else (z219_3_l2 N a b c) (w64 (d+1)))
 else z219_3_k1
def z219_3 (N:Nat) (a:(List T0)) (b:T0):Option Int :=
 z219_3_l2 N a b N 0
def z144_4 (N:Nat) (a:(List T0)) (b:T0):Option Bool :=
 (z219_3 N a b).bind fun c =>
 some (decide (c≥0))
def z147 (N:Nat) (a:T10):Option Bool :=
 bif (a.Kind==1) then (bif (decide (a.Lo≥(-1000))) then (bif (decide (a.Lo≤a.Hi)) then (some (decide (a.Hi≤1000)))
 else some false)
 else some false)
 else bif (a.Kind==2) then (bif (decide (a.Lo≥0)) then (bif (decide (a.Lo≤a.Hi)) then (some (decide (a.Hi≤40)))
 else some false)
 else some false)
 else some false
def z149_5 (N:Nat) (a:T4) (b:T4):Option Bool :=
 some (a.Name.toList==b.Name.toList)
def z222_6_k1:Option Int :=
 some (-1)
def z222_6_l2 (N:Nat) (a:(List T4)) (b:T4):Nat→Int→Option Int
 | 0,_=>none
 | c+1,d =>
 bif (decide (d < (a.length:Int))) then ((idx a d).bind fun e =>
 (z149_5 N e b).bind fun f =>
 bif f then (some d)
 else (z222_6_l2 N a b c) (w64 (d+1)))
 else z222_6_k1
def z222_6 (N:Nat) (a:(List T4)) (b:T4):Option Int :=
 z222_6_l2 N a b N 0
def z148_7 (N:Nat) (a:(List T4)) (b:T4):Option Bool :=
 (z222_6 N a b).bind fun c =>
 some (decide (c≥0))
def z150_k1:Option Bool :=
 some true
def z150_k3 (a:Int) (b:Int→Option Bool):Option Bool :=
 b (w64 (a+1))
def z150_l4 (a:(List T4)) (b:Int) (c:Int→Option Bool) (d:(Int × Int)):Nat→Int→Option Bool
 | 0,_=>none
 | e+1,f =>
 bif (decide (f < 2)) then ((idx ([d.1,d.2]:List Int) f).bind fun g =>
 bif (decide (g < 0)) then (some false)
 else bif (decide (g≥(a.length:Int))) then (some false)
 else (idx a g).bind fun h =>
 bif (h.Sort'.Kind != 2) then (some false)
 else (z150_l4 a b c d e) (w64 (f+1)))
 else z150_k3 b c
def z150_l2 (N:Nat) (a:T6) (b:(List T4)):Nat→Int→Option Bool
 | 0,_=>none
 | c+1,d =>
 bif (decide (d < (a.Equals.length:Int))) then ((idx a.Equals d).bind fun e =>
 z150_l4 b d (z150_l2 N a b c) e N 0)
 else z150_k1
def z150_k5 (N:Nat) (a:T6) (b:(List T4)):Option Bool :=
 z150_l2 N a b N 0
def z150_l6 (N:Nat) (a:T6) (b:(List T4)):Nat→Int→Option Bool
 | 0,_=>none
 | c+1,d =>
 bif (decide (d < (a.Diffs.length:Int))) then ((idx a.Diffs d).bind fun e =>
 bif (decide ((minI e.X e.Y) < (-1))) then (some false)
 else bif (decide ((maxI e.X e.Y)≥(b.length:Int))) then (some false)
 else bif (decide (e.C < (-20000))) then (some false)
 else bif (decide (e.C > 20000)) then (some false)
 else (z150_l6 N a b c) (w64 (d+1)))
 else z150_k5 N a b
def z150 (N:Nat) (a:T6) (b:(List T4)):Option Bool :=
 bif (decide ((a.Diffs.length:Int) > 20)) then (some false)
 else bif (decide ((a.Equals.length:Int) > 20)) then (some false)
 else z150_l6 N a b N 0
def z71_k1:Option Bool :=
 some true
def z71_k3 (N:Nat) (a:(List T4)) (b:Int) (c:Int) (d:Int→Int→Option Bool) (e:T0):Option Bool :=
 (z150 N e.Guard a).bind fun f =>
 bif (!f) then (some false)
 else d (w64 (b+(e.Fields.length:Int))) (w64 (c+1))
def z71_l4 (N:Nat) (a:(List T4)) (b:Int) (c:Int) (d:Int→Int→Option Bool) (e:T0):Nat→Int→Option Bool
 | 0,_=>none
 | f+1,g =>
 bif (decide (g < (e.Fields.length:Int))) then ((idx e.Fields g).bind fun h =>
 (z146 N h.Name).bind fun i =>
 bif (!i) then (some false)
 else (z147 N h.Sort').bind fun j =>
 bif (!j) then (some false)
 else (lsl e.Fields none (some g)).bind fun k =>
 (z148_7 N k h).bind fun l =>
 bif l then (some false)
 else (z71_l4 N a b c d e f) (w64 (g+1)))
 else z71_k3 N a b c d e
def z71_l2 (N:Nat) (a:(List T0)) (b:(List T4)):Nat→Int→Int→Option Bool
 | 0,_,_=>none
 | c+1,d,e =>
 bif (decide (e < (a.length:Int))) then ((idx a e).bind fun f =>
 (z143 N f.Name).bind fun g =>
 bif (!g) then (some false)
 else bif (decide ((f.Fields.length:Int) > 4)) then (some false)
 else bif (f.First != d) then (some false)
 else (lsl a none (some e)).bind fun h =>
 (z144_4 N h f).bind fun i =>
 bif i then (some false)
 else z71_l4 N b d e (z71_l2 N a b c) f N 0)
 else z71_k1
def z71 (N:Nat) (a:(List T0)):Option Bool :=
 bif (decide ((a.length:Int) > 40)) then (some false)
 else (z142 N a).bind fun b =>
 bif (decide ((b.length:Int) > 24)) then (some false)
 else z71_l2 N a b N 0 0
def z72_k1 (a:(List T1)):Option (List T1) :=
 some a
def z72_l2 (a:T0):Nat→(List T1)→Int→Option (List T1)
 | 0,_,_=>none
 | b+1,c,d =>
 bif (decide (d < (a.Guard.Equals.length:Int))) then ((idx a.Guard.Equals d).bind fun e =>
 (appL c ([(⟨e.1,e.2,0⟩:T1),(⟨e.2,e.1,0⟩:T1)]:List T1)).bind fun f =>
 (z72_l2 a b) f (w64 (d+1)))
 else z72_k1 c
def z72_k3 (N:Nat) (a:T0) (b:(List T1)):Option (List T1) :=
 (appL b a.Guard.Diffs).bind fun c =>
 z72_l2 a N c 0
def z72_l4 (N:Nat) (a:T0):Nat→(List T1)→Int→Option (List T1)
 | 0,_,_=>none
 | b+1,c,d =>
 bif (decide (d < (a.Fields.length:Int))) then ((idx a.Fields d).bind fun e =>
 (appL c ([(⟨(w64 (a.First+d)),(-1),e.Sort'.Hi⟩:T1),(⟨(-1),(w64 (a.First+d)),(w64 (0-e.Sort'.Lo))⟩:T1)]:List T1)).bind fun f =>
 (z72_l4 N a b) f (w64 (d+1)))
 else z72_k3 N a c
def z72 (N:Nat) (a:T0):Option (List T1) :=
 z72_l4 N a N ([]:List T1) 0
def z37 (N:Nat) (a:(List T0)) (b:Int):Option ((List T1) × Int) :=
 bif (decide (b < 0)) then (some (([]:List T1),1))
 else bif (decide (b≥(a.length:Int))) then (some (([]:List T1),1))
 else (z71 N a).bind fun c =>
 bif (!c) then (some (([]:List T1),1))
 else (idx a b).bind fun d =>
 (z72 N d).bind fun e =>
 some (e,0)
def z210 (N:Nat) (a:(List T0)):Option Bool :=
 bif ((a.length:Int)==0) then (some true)
 else (z37 N a 0).bind fun b =>
 some (b.2==0)
def z211_k1:Option Bool :=
 some true
def z211_k3 (a:Int) (b:Int→Option Bool):Option Bool :=
 b (w64 (a+1))
def z211_k5 (a:T2) (b:Int) (c:Int→Option Bool) (d:T2) (e:Bool):Option Bool :=
 bif e then (some false)
 else bif a.Again then (bif (d.To==a.From) then (bif (a.Act.From != d.Act.From) then (some false)
 else bif (a.Act.Label != d.Act.Label) then (some false)
 else c (w64 (b+1)))
 else c (w64 (b+1)))
 else c (w64 (b+1))
def z211_l4 (a:T5) (b:Int) (c:Int→Option Bool) (d:T2):Nat→Int→Option Bool
 | 0,_=>none
 | e+1,f =>
 bif (decide (f < (a.Edges.length:Int))) then ((idx a.Edges f).bind fun g =>
 bif (b != f) then (bif (d.From==g.From) then (bif ((d.Act.From==g.Act.From) && ((d.Act.To==g.Act.To) && ((d.Act.Label==g.Act.Label) && true))) then (z211_k5 d f (z211_l4 a b c d e) g true)
 else bif (d.Act.From != g.Act.From) then (z211_k5 d f (z211_l4 a b c d e) g true)
 else z211_k5 d f (z211_l4 a b c d e) g d.Again)
 else z211_k5 d f (z211_l4 a b c d e) g false)
 else z211_k5 d f (z211_l4 a b c d e) g false)
 else z211_k3 b c
def z211_k6 (N:Nat) (a:T5) (b:Int) (c:Int→Option Bool) (d:T2) (e:Bool):Option Bool :=
 bif e then (some false)
 else z211_l4 a b c d N 0
def z211_l2 (N:Nat) (a:T5):Nat→Int→Option Bool
 | 0,_=>none
 | b+1,c =>
 bif (decide (c < (a.Edges.length:Int))) then ((idx a.Edges c).bind fun d =>
 bif (d.From==a.End) then (z211_k6 N a c (z211_l2 N a b) d true)
 else bif d.Again then (z211_k6 N a c (z211_l2 N a b) d (d.From==a.Start))
 else z211_k6 N a c (z211_l2 N a b) d false)
 else z211_k1
def z211 (N:Nat) (a:T5):Option Bool :=
 z211_l2 N a N 0
def z212_k1:Option Bool :=
 some true
def z212_l2 (a:T5):Nat→Int→Int→Option Bool
 | 0,_,_=>none
 | b+1,c,d =>
 bif (decide (d < (a.Timeouts.length:Int))) then ((idx a.Timeouts d).bind fun e =>
 bif (decide (e.State≤c)) then (some false)
 else bif (decide (e.Ticks < 1)) then (some false)
 else bif (decide (e.Ticks > 1000)) then (some false)
 else bif (decide (e.Else < 0)) then (some false)
 else bif (decide (e.Else≥(a.Edges.length:Int))) then (some false)
 else (idx a.Edges e.Else).bind fun f =>
 bif (f.From != e.State) then (some false)
 else (idx a.Edges e.Else).bind fun g =>
 bif g.Again then (some false)
 else (z212_l2 a b) e.State (w64 (d+1)))
 else z212_k1
def z212 (N:Nat) (a:T5):Option Bool :=
 z212_l2 a N (-1) 0
def z252 (N:Nat) (a:Int) (b:Int):Option (Int × Int) :=
 (binO .and .u64 a 4294967295).bind fun c =>
 (binO .shr .u64 a 32).bind fun d =>
 (binO .and .u64 b 4294967295).bind fun e =>
 (binO .shr .u64 b 32).bind fun f =>
 (binO .shr .u64 (wk .u64 (c * e)) 32).bind fun g =>
 (binO .and .u64 (wk .u64 ((wk .u64 (d * e))+g)) 4294967295).bind fun h =>
 (binO .shr .u64 (wk .u64 ((wk .u64 (d * e))+g)) 32).bind fun i =>
 (binO .shr .u64 (wk .u64 (h+(wk .u64 (c * f)))) 32).bind fun j =>
 some ((wk .u64 ((wk .u64 ((wk .u64 (d * f))+i))+j)),(wk .u64 (a * b)))
def z201 (N:Nat) (a:Int) (b:Int):Option (Int × Int) :=
 (z252 N a b).bind fun c =>
 some (c.1,c.2)
def z255_k1 (a:(List Int)):Option (List Int) :=
 some a
def z255_l2:Nat→(List Int)→Int→Option (List Int)
 | 0,_,_=>none
 | a+1,b,c =>
 bif (decide (c < (b.length:Int))) then ((lsl b (some c) none).bind fun d =>
 (lsl b none (some c)).bind fun e =>
 (cpL b (some c) none e).bind fun f =>
 (z255_l2 a) f.1 (w64 (c+f.2)))
 else z255_k1 b
def z255_k3 (N:Nat) (a:(List Int)) (b:Int × Int) (c:Bool):Option (List Int) :=
 bif c then (dead 0)
 else (mkL 0 (w64 (b.2)) (w64 (b.2))).bind fun d =>
 (cpL d none none a).bind fun e =>
 z255_l2 N e.1 e.2
def z255 (N:Nat) (a:(List Int)) (b:Int):Option (List Int) :=
 bif (decide (b < 0)) then (dead 0)
 else (z201 N (wk .u64 ((a.length:Int))) (wk .u64 (b))).bind fun c =>
 bif (decide (c.1 > 0)) then (z255_k3 N a c true)
 else z255_k3 N a c (decide (c.2 > 9223372036854775807))
def z214_k1 (a:(List Int)):Option (List Int) :=
 some a
def z214_k3 (a:(List Int)→(List Int)→Option (List Int)) (b:(List Int)) (c:(List Int)):Option (List Int) :=
 (lsl c (some 1) none).bind fun d =>
 a b d
def z214_k5 (a:(List Int)) (b:(List Int)) (c:Int) (d:(List Int)→(List Int)→Int→Option (List Int)) (e:Int) (f:Int):Option (List Int) :=
 (idx b 0).bind fun g =>
 bif (e==g) then ((idx a f).bind fun h =>
 bif (decide (h < 0)) then ((idx a e).bind fun i =>
 (idx a f).bind fun j =>
 (appL b ([f]:List Int)).bind fun k =>
 d (setL' a f (w64 (i+1))) k (w64 (c+1)))
 else d a b (w64 (c+1)))
 else d a b (w64 (c+1))
def z214_l4 (a:T5) (b:Bool) (c:(List Int)→(List Int)→Option (List Int)):Nat→(List Int)→(List Int)→Int→Option (List Int)
 | 0,_,_,_=>none
 | d+1,e,f,g =>
 bif (decide (g < (a.Edges.length:Int))) then ((idx a.Edges g).bind fun h =>
 bif b then (z214_k5 e f g (z214_l4 a b c d) h.To h.From)
 else z214_k5 e f g (z214_l4 a b c d) h.From h.To)
 else z214_k3 c e f
def z214_l2 (N:Nat) (a:T5) (b:Bool):Nat→(List Int)→(List Int)→Option (List Int)
 | 0,_,_=>none
 | c+1,d,e =>
 bif (decide ((e.length:Int) > 0)) then (z214_l4 a b (z214_l2 N a b c) N d e 0)
 else z214_k1 d
def z214 (N:Nat) (a:T5) (b:Int) (c:Bool):Option (List Int) :=
 (z255 N ([(-1)]:List Int) a.States).bind fun d =>
 (idx d b).bind fun e =>
 z214_l2 N a c N (setL' d b 0) ([b]:List Int)
def z254_k1:Option Int :=
 some (-1)
def z254_l2 (a:(List Int)) (b:Int):Nat→Int→Option Int
 | 0,_=>none
 | c+1,d =>
 bif (decide (d < (a.length:Int))) then ((idx a d).bind fun e =>
 bif (b==e) then (some d)
 else (z254_l2 a b c) (w64 (d+1)))
 else z254_k1
def z254 (N:Nat) (a:(List Int)) (b:Int):Option Int :=
 z254_l2 a b N 0
def z213 (N:Nat) (a:(List Int)) (b:Int):Option Bool :=
 (z254 N a b).bind fun c =>
 some (decide (c≥0))
def z133 (N:Nat) (a:T5):Option Bool :=
 (z208 N a).bind fun b =>
 bif b then ((z209 N a).bind fun c =>
 bif c then ((z210 N a.Decls).bind fun d =>
 bif d then ((z211 N a).bind fun e =>
 bif e then ((z212 N a).bind fun f =>
 bif f then ((z214 N a a.Start false).bind fun g =>
 (z213 N g (-1)).bind fun h =>
 bif (!h) then ((z214 N a a.End true).bind fun i =>
 (z213 N i (-1)).bind fun j =>
 some (!j))
 else some false)
 else some false)
 else some false)
 else some false)
 else some false)
 else some false
def z241 (N:Nat) (a:T8) (b:Int):Option Bool :=
 bif (decide (b≥0)) then (some (decide (b < a.States)))
 else some false
def z188_k1:Option Bool :=
 some true
def z188_l2 (N:Nat) (a:T8):Nat→Int→Option Bool
 | 0,_=>none
 | b+1,c =>
 bif (decide (c < (a.Moves.length:Int))) then ((idx a.Moves c).bind fun d =>
 (z241 N a d.From).bind fun e =>
 bif (!e) then (some false)
 else (z241 N a d.To).bind fun f =>
 bif (!f) then (some false)
 else bif (decide (d.Peer < 0)) then (some false)
 else bif (decide (d.Peer≥6)) then (some false)
 else bif (d.Peer==a.Role) then (some false)
 else bif (decide (d.Label < 0)) then (some false)
 else bif (decide (d.Label≥40)) then (some false)
 else (z188_l2 N a b) (w64 (c+1)))
 else z188_k1
def z188 (N:Nat) (a:T8):Option Bool :=
 bif (decide (a.Role < 0)) then (some false)
 else bif (decide (a.Role≥6)) then (some false)
 else bif (decide (a.States < 1)) then (some false)
 else bif (decide (a.States > 200)) then (some false)
 else (z241 N a a.Start).bind fun b =>
 bif (!b) then (some false)
 else bif ((a.Finals.length:Int) != a.States) then (some false)
 else bif (decide ((a.Moves.length:Int) > 400)) then (some false)
 else z188_l2 N a N 0
def z244 (N:Nat) (a:T9):Option T14 :=
 some (⟨a.Send,a.Peer,a.Label⟩:T14)
def z270 (N:Nat) (a:Int):Option Bool :=
 some (a != a)
def z232 (N:Nat) (a:Int) (b:Int):Option Int :=
 (z270 N a).bind fun c =>
 (z270 N b).bind fun d =>
 bif c then (bif d then (some 0)
 else some (-1))
 else bif d then (some 1)
 else bif (decide (a < b)) then (some (-1))
 else bif (decide (a > b)) then (some 1)
 else some 0
def z231_k1:Option Int :=
 some 0
def z231_l2 (a:(List Int)):Nat→Int→Option Int
 | 0,_=>none
 | b+1,c =>
 bif (decide (c < (a.length:Int))) then ((idx a c).bind fun d =>
 bif (d != 0) then (some d)
 else (z231_l2 a b) (w64 (c+1)))
 else z231_k1
def z231 (N:Nat) (a:(List Int)):Option Int :=
 z231_l2 a N 0
def z245 (N:Nat) (a:T14) (b:T14):Option Int :=
 bif (!(a.send'==b.send')) then (bif a.send' then (some (-1))
 else some 1)
 else (z232 N a.peer' b.peer').bind fun c =>
 (z232 N a.label' b.label').bind fun d =>
 (z231 N ([c,d]:List Int)).bind fun e =>
 some e
def z243_8 (N:Nat) (a:Int) (b:Int) (c:T8):Option Int :=
 (idx c.Moves a).bind fun d =>
 (z244 N d).bind fun e =>
 (idx c.Moves b).bind fun f =>
 (z244 N f).bind fun g =>
 (z245 N e g).bind fun h =>
 some h
def machine_sorted_cf (N:Nat) (a:T8) (i k:Int):Int:=(z243_8 N i k a).getD 0
def machine_sorted_ok (N:Nat) (c:T8) (xs:List Int):Bool:=(xs.all fun i=>xs.all fun k=>(z243_8 N i k c).isSome) && (swoB (fun a b=>decide (machine_sorted_cf N c a b < 0)) xs && decide (xs.length < 4611686018427387904))
def z189_l2 (N:Nat) (a:T8):Nat→List (List Int)→Int→Option T15
 | 0,_,_=>none
 | n+1,xss,j=>bif decide (j < (xss.length:Int)) then (idx xss j).bind fun xs =>
   bif machine_sorted_ok N a xs then z189_l2 N a n (xss.set j.toNat (sortP (machine_sorted_cf N a) xs)) (w64 (j+1)) else none
   else some ⟨a,xss⟩
def z189_l1 (N:Nat) (a:T8):Nat→List (List Int)→Int→Option T15
 | 0,_,_=>none
 | n+1,xss,i=>bif decide (i < (a.Moves.length:Int)) then (idx a.Moves i).bind fun x=>(idx xss x.From).bind fun xs=>(appL xs [i]).bind fun ys =>
   z189_l1 N a n (xss.set x.From.toNat ys) (w64 (i+1))
   else z189_l2 N a N xss 0
def z189 (N:Nat) (a:T8):Option T15:=(mkL () a.States a.States).bind fun us=>bif us.isEmpty then none else z189_l1 N a N (List.replicate us.length []) 0
def z190_k1:Option Bool :=
 some true
def z190_k3 (a:Int) (b:Int→Option Bool):Option Bool :=
 b (w64 (a+1))
def z190_l4 (N:Nat) (a:T15) (b:Int) (c:Int→Option Bool) (d:(List Int)):Nat→Int→Option Bool
 | 0,_=>none
 | e+1,f =>
 bif (decide (f < (d.length:Int))) then ((idx d (w64 (f-1))).bind fun g =>
 (idx a.Machine.Moves g).bind fun h =>
 (idx d f).bind fun i =>
 (idx a.Machine.Moves i).bind fun j =>
 (z244 N h).bind fun k =>
 (z244 N j).bind fun l =>
 bif ((k.send'==l.send') && ((k.peer'==l.peer') && ((k.label'==l.label') && true))) then (some false)
 else bif (!(h.Send==j.Send)) then (some false)
 else (z190_l4 N a b c d e) (w64 (f+1)))
 else z190_k3 b c
def z190_l2 (N:Nat) (a:T15):Nat→Int→Option Bool
 | 0,_=>none
 | b+1,c =>
 bif (decide (c < (a.out'.length:Int))) then ((idx a.out' c).bind fun d =>
 z190_l4 N a c (z190_l2 N a b) d N 1)
 else z190_k1
def z190 (N:Nat) (a:T15):Option Bool :=
 z190_l2 N a N 0
def z191_k1 (a:T15) (b:(List Int)):Option Bool :=
 some ((b.length:Int)==a.Machine.States)
def z191_k3 (a:Int) (b:(List Bool)→(List Int)→Int→Option Bool) (c:(List Bool)) (d:(List Int)):Option Bool :=
 b c d (w64 (a+1))
def z191_l4 (a:T15) (b:Int) (c:(List Bool)→(List Int)→Int→Option Bool) (d:(List Int)):Nat→(List Bool)→(List Int)→Int→Option Bool
 | 0,_,_,_=>none
 | e+1,f,g,h =>
 bif (decide (h < (d.length:Int))) then ((idx d h).bind fun i =>
 (idx a.Machine.Moves i).bind fun j =>
 (idx f j.To).bind fun k =>
 bif (!k) then ((idx f j.To).bind fun l =>
 (appL g ([j.To]:List Int)).bind fun m =>
 (z191_l4 a b c d e) (setL' f j.To true) m (w64 (h+1)))
 else (z191_l4 a b c d e) f g (w64 (h+1)))
 else z191_k3 b c f g
def z191_l2 (N:Nat) (a:T15):Nat→(List Bool)→(List Int)→Int→Option Bool
 | 0,_,_,_=>none
 | b+1,c,d,e =>
 bif (decide (e < (d.length:Int))) then ((idx d e).bind fun f =>
 (idx a.out' f).bind fun g =>
 z191_l4 a e (z191_l2 N a b) g N c d 0)
 else z191_k1 a d
def z191 (N:Nat) (a:T15):Option Bool :=
 (mkL false a.Machine.States a.Machine.States).bind fun b =>
 (idx b a.Machine.Start).bind fun c =>
 z191_l2 N a N (setL' b a.Machine.Start true) ([a.Machine.Start]:List Int) 0
def z192_k1:Option Bool :=
 some true
def z192_k3 (a:Int) (b:Int→Option Bool):Option Bool :=
 b (w64 (a+1))
def z192_l4 (a:T15) (b:Int) (c:Int→Option Bool) (d:T9):Nat→Int→Option Bool
 | 0,_=>none
 | e+1,f =>
 bif (decide (f < (a.Machine.Moves.length:Int))) then ((idx a.Machine.Moves f).bind fun g =>
 bif (g.To==d.From) then (bif (!g.Send) then (some false)
 else bif (g.Label != d.Label) then (some false)
 else (z192_l4 a b c d e) (w64 (f+1)))
 else (z192_l4 a b c d e) (w64 (f+1)))
 else z192_k3 b c
def z192_l2 (N:Nat) (a:T15):Nat→Int→Option Bool
 | 0,_=>none
 | b+1,c =>
 bif (decide (c < (a.Machine.Moves.length:Int))) then ((idx a.Machine.Moves c).bind fun d =>
 bif (!d.Again) then ((z192_l2 N a b) (w64 (c+1)))
 else bif (!d.Send) then (some false)
 else (idx a.out' d.From).bind fun e =>
 bif ((e.length:Int) != 1) then (some false)
 else bif (d.From==a.Machine.Start) then (some false)
 else (idx a.Machine.Finals d.From).bind fun f =>
 bif f then (some false)
 else z192_l4 a c (z192_l2 N a b) d N 0)
 else z192_k1
def z192 (N:Nat) (a:T15):Option Bool :=
 z192_l2 N a N 0
def z193_k1:Option Bool :=
 some true
def z193_k3 (a:T15) (b:Int) (c:Int→Option Bool) (d:T11) (e:Bool):Option Bool :=
 bif e then (some false)
 else (idx a.Machine.Moves d.Else).bind fun f =>
 bif (f.From != d.State) then (some false)
 else bif (!f.Send) then (some false)
 else bif f.Again then (some false)
 else c (w64 (b+1))
def z193_l2 (a:T15):Nat→Int→Option Bool
 | 0,_=>none
 | b+1,c =>
 bif (decide (c < (a.Machine.Timeouts.length:Int))) then ((idx a.Machine.Timeouts c).bind fun d =>
 bif (decide (c > 0)) then ((idx a.Machine.Timeouts (w64 (c-1))).bind fun e =>
 bif (decide (e.State≥d.State)) then (z193_k3 a c (z193_l2 a b) d true)
 else bif (decide (d.Ticks < 1)) then (z193_k3 a c (z193_l2 a b) d true)
 else bif (decide (d.Ticks > 1000)) then (z193_k3 a c (z193_l2 a b) d true)
 else bif (decide (d.Else < 0)) then (z193_k3 a c (z193_l2 a b) d true)
 else z193_k3 a c (z193_l2 a b) d (decide (d.Else≥(a.Machine.Moves.length:Int))))
 else bif (decide (d.Ticks < 1)) then (z193_k3 a c (z193_l2 a b) d true)
 else bif (decide (d.Ticks > 1000)) then (z193_k3 a c (z193_l2 a b) d true)
 else bif (decide (d.Else < 0)) then (z193_k3 a c (z193_l2 a b) d true)
 else z193_k3 a c (z193_l2 a b) d (decide (d.Else≥(a.Machine.Moves.length:Int))))
 else z193_k1
def z193 (N:Nat) (a:T15):Option Bool :=
 z193_l2 a N 0
def z107 (N:Nat) (a:T8):Option ((Option T15) × Bool) :=
 (z188 N a).bind fun b =>
 bif (!b) then (some (none,false))
 else (z189 N a).bind fun c =>
 (z190 N c).bind fun d =>
 bif d then ((z191 N c).bind fun e =>
 bif e then ((z192 N c).bind fun f =>
 bif f then ((z193 N c).bind fun g =>
 some ((some c),g))
 else some ((some c),false))
 else some ((some c),false))
 else some ((some c),false)
def z134 (N:Nat) (a:T8):Option Bool :=
 (z107 N a).bind fun b =>
 optC b.1 (some b.2) fun q2 =>
 some b.2
def z132_9 (N:Nat) (a:T9) (b:T5):Option Bool :=
 bif (decide (a.Peer≥(b.Roles.length:Int))) then (some true)
 else some (decide (a.Label≥(b.Decls.length:Int)))
def z92_10_k1:Option Int :=
 some (-1)
def z92_10_l2 (N:Nat) (a:(List T9)) (b:T5):Nat→Int→Option Int
 | 0,_=>none
 | c+1,d =>
 bif (decide (d < (a.length:Int))) then ((idx a d).bind fun e =>
 (z132_9 N e b).bind fun f =>
 bif f then (some d)
 else (z92_10_l2 N a b c) (w64 (d+1)))
 else z92_10_k1
def z92_10 (N:Nat) (a:(List T9)) (b:T5):Option Int :=
 z92_10_l2 N a b N 0
def z135_11 (N:Nat) (a:(List T9)) (b:T5):Option Bool :=
 (z92_10 N a b).bind fun c =>
 some (decide (c≥0))
def z60 (N:Nat) (a:T5) (b:T8):Option Bool :=
 (z133 N a).bind fun c =>
 bif c then ((z134 N b).bind fun d =>
 bif d then (bif (decide (b.Role < (a.Roles.length:Int))) then ((z135_11 N b.Moves a).bind fun e =>
 some (!e))
 else some false)
 else some false)
 else some false
def z61_k1 (a:(List T4)):Option (List T4) :=
 some a
def z61_l2 (a:T5):Nat→(List T4)→Int→Option (List T4)
 | 0,_,_=>none
 | b+1,c,d =>
 bif (decide (d < (a.Decls.length:Int))) then ((idx a.Decls d).bind fun e =>
 (appL c e.Fields).bind fun f =>
 (z61_l2 a b) f (w64 (d+1)))
 else z61_k1 c
def z61 (N:Nat) (a:T5):Option (List T4) :=
 z61_l2 a N ([]:List T4) 0
def z24 (N:Nat) (a:T5) (b:T8):Option T16 :=
 (z60 N a b).bind fun c =>
 bif (!c) then (some (⟨0,([]:List T12),([]:List T12)⟩:T16))
 else (z61 N a).bind fun d =>
 (mkL (⟨0,0,(str [])⟩:T12) (d.length:Int) (d.length:Int)).bind fun e =>
 some (⟨b.Start,e,([]:List T12)⟩:T16)
def z167 (N:Nat) (a:T12):Option Int :=
 bif (a.Kind==1) then (some a.N)
 else bif (a.Kind==2) then (some (a.S.size:Int))
 else some 0
def z168_k1 (a:T10) (b:Int) (c:Int):Option Bool :=
 bif (decide (b≤a.Lo)) then (bif (decide (a.Lo≤a.Hi)) then (some (decide (a.Hi≤c)))
 else some false)
 else some false
def z168 (N:Nat) (a:T10):Option Bool :=
 bif (a.Kind==1) then (z168_k1 a (-1000) 1000)
 else bif (a.Kind==2) then (z168_k1 a 0 40)
 else some false
def z269 (N:Nat) (a:Int):Option Bool :=
 bif (decide (a < 32)) then (some true)
 else some (decide (a > 126))
def z294_12_k1 (a:Nat):Option Int :=
 some (-1)
def z294_12_l2 (N:Nat) (a:ByteArray) (b:Bool):Nat→Nat→Option Int
 | 0,_=>none
 | c+1,d =>
 bif decide (d < a.size) then ((z269 N ((Utf8.decode a d).1:Int)).bind fun e =>
 bif (e==b) then (some ((d:Nat):Int))
 else (z294_12_l2 N a b c) (d+(Utf8.decode a d).2))
 else z294_12_k1 d
def z294_12 (N:Nat) (a:ByteArray) (b:Bool):Option Int :=
 z294_12_l2 N a b N (0:Nat)
def z275_13 (N:Nat) (a:ByteArray):Option Int :=
 (z294_12 N a true).bind fun b =>
 some b
def z246_14 (N:Nat) (a:ByteArray):Option Bool :=
 (z275_13 N a).bind fun b =>
 some (decide (b≥0))
def z230 (N:Nat) (a:ByteArray):Option Bool :=
 (z246_14 N a).bind fun b =>
 some (!b)
def z169 (N:Nat) (a:T12):Option Bool :=
 bif (a.Kind==1) then (bif (decide (a.N≥(-1000))) then (bif (decide (a.N≤1000)) then (some (a.S.toList==(str []).toList))
 else some false)
 else some false)
 else bif (a.Kind==2) then (bif (a.N==0) then (bif (decide ((a.S.size:Int)≤40)) then ((z230 N a.S).bind fun b =>
 some b)
 else some false)
 else some false)
 else some false
def z90 (N:Nat) (a:T10) (b:T12):Option Bool :=
 (z167 N b).bind fun c =>
 (z168 N a).bind fun d =>
 bif d then ((z169 N b).bind fun e =>
 bif e then (bif (a.Kind==b.Kind) then (bif (decide (c≥a.Lo)) then (some (decide (c≤a.Hi)))
 else some false)
 else some false)
 else some false)
 else some false
def z89 (N:Nat) (a:T4) (b:T12):Option Bool :=
 bif ((b.Kind==0) && ((b.N==0) && ((b.S.toList==(str []).toList) && true))) then (some true)
 else (z90 N a.Sort' b).bind fun c =>
 some c
def z91_15_k1:Option Bool :=
 some true
def z91_15_l2 (N:Nat) (a:(List T4)) (b:(List T12)):Nat→Int→Option Bool
 | 0,_=>none
 | c+1,d =>
 bif (decide (d < (a.length:Int))) then ((idx a d).bind fun e =>
 (idx b d).bind fun f =>
 (z89 N e f).bind fun g =>
 bif (!g) then (some false)
 else (z91_15_l2 N a b c) (w64 (d+1)))
 else z91_15_k1
def z91_15 (N:Nat) (a:(List T4)) (b:(List T12)):Option Bool :=
 bif ((a.length:Int) != (b.length:Int)) then (some false)
 else z91_15_l2 N a b N 0
def z46 (N:Nat) (a:T5) (b:T8) (c:T16):Option Bool :=
 (z60 N a b).bind fun d =>
 bif d then (bif (decide (c.At≥0)) then (bif (decide (c.At < b.States)) then ((z61 N a).bind fun e =>
 (z91_15 N e c.Known).bind fun f =>
 some f)
 else some false)
 else some false)
 else some false
def z30 (N:Nat) (a:T5) (b:T8):Option Bool :=
 (z24 N a b).bind fun c =>
 (z46 N a b c).bind fun d =>
 some d
def z53 (N:Nat) (a:T8) (b:Int):Option (List Int) :=
 (z107 N a).bind fun c =>
 optC c.1 (bif (!c.2) then (some ([]:List Int))
 else bif (decide (b < 0)) then (some ([]:List Int))
 else bif (decide (b≥a.States)) then (some ([]:List Int))
 else dead 0) fun q2 =>
 bif (!c.2) then (some ([]:List Int))
 else bif (decide (b < 0)) then (some ([]:List Int))
 else bif (decide (b≥a.States)) then (some ([]:List Int))
 else (idx q2.out' b).bind fun d =>
 some d
def z65 (N:Nat) (a:Int):Option ByteArray:=bif (decide ((-9223372036854775808)≤a) && decide (a≤9223372036854775807)) then some (itoaS a) else none
def z38_k1 (N:Nat) (a:T4) (b:ByteArray):Option ByteArray :=
 (catS a.Name (str [58,32])).bind fun c =>
 (catS c b).bind fun d =>
 (catS d (str [32])).bind fun e =>
 (z65 N a.Sort'.Lo).bind fun f =>
 (catS e f).bind fun g =>
 (catS g (str [32,46,46,32])).bind fun h =>
 (z65 N a.Sort'.Hi).bind fun i =>
 (catS h i).bind fun j =>
 some j
def z38 (N:Nat) (a:T4):Option ByteArray :=
 bif (a.Sort'.Kind==2) then (z38_k1 N a (str [116,101,120,116]))
 else z38_k1 N a (str [105,110,116])
def z152_k1:Option (T0 × T4 × Bool) :=
 some ((⟨(str []),([]:List T4),0,(⟨([]:List T1),([]:List (Int × Int))⟩:T6)⟩:T0),(⟨(str []),(⟨0,0,0⟩:T10)⟩:T4),false)
def z152_l2 (a:(List T0)):Nat→Int→Int→Option (T0 × T4 × Bool)
 | 0,_,_=>none
 | b+1,c,d =>
 bif (decide (d < (a.length:Int))) then ((idx a d).bind fun e =>
 bif (decide (c≥0)) then (bif (decide (c < (e.Fields.length:Int))) then ((idx e.Fields c).bind fun f =>
 some (e,f,true))
 else (z152_l2 a b) (w64 (c-(e.Fields.length:Int))) (w64 (d+1)))
 else (z152_l2 a b) (w64 (c-(e.Fields.length:Int))) (w64 (d+1)))
 else z152_k1
def z152 (N:Nat) (a:(List T0)) (b:Int):Option (T0 × T4 × Bool) :=
 z152_l2 a N b 0
def z74 (N:Nat) (a:(List T0)) (b:Int):Option ByteArray :=
 (z152 N a b).bind fun c =>
 (catS c.1.Name (str [46])).bind fun d =>
 (catS d c.2.1.Name).bind fun e =>
 some e
def z151 (N:Nat) (a:(List T0)) (b:Int):Option ByteArray :=
 (z152 N a b).bind fun c =>
 bif (c.2.1.Sort'.Kind==2) then ((z74 N a b).bind fun d =>
 (catS (str [108,101,110,40]) d).bind fun e =>
 (catS e (str [41])).bind fun f =>
 some f)
 else (z74 N a b).bind fun g =>
 some g
def z73_k1 (N:Nat) (a:(List T0)) (b:T1) (c:Bool):Option ByteArray :=
 bif c then ((z65 N b.C).bind fun d =>
 (catS (str [48,32,60,61,32]) d).bind fun e =>
 some e)
 else bif (decide (b.Y < 0)) then ((z151 N a b.X).bind fun f =>
 (catS f (str [32,60,61,32])).bind fun g =>
 (z65 N b.C).bind fun h =>
 (catS g h).bind fun i =>
 some i)
 else bif (decide (b.X < 0)) then ((z151 N a b.Y).bind fun j =>
 (catS j (str [32,62,61,32])).bind fun k =>
 (z65 N (w64 (0-b.C))).bind fun l =>
 (catS k l).bind fun m =>
 some m)
 else (z151 N a b.X).bind fun o =>
 (catS o (str [32,60,61,32])).bind fun p =>
 (z151 N a b.Y).bind fun q =>
 (catS p q).bind fun r =>
 bif (decide (b.C > 0)) then ((catS r (str [32,43,32])).bind fun s =>
 (z65 N b.C).bind fun t =>
 (catS s t).bind fun u =>
 some u)
 else bif (decide (b.C < 0)) then ((catS r (str [32,45,32])).bind fun v =>
 (z65 N (w64 (0-b.C))).bind fun w =>
 (catS v w).bind fun x =>
 some x)
 else some r
def z73 (N:Nat) (a:(List T0)) (b:T1):Option ByteArray :=
 bif (decide (b.X < 0)) then (z73_k1 N a b (decide (b.Y < 0)))
 else z73_k1 N a b false
def z39 (N:Nat) (a:(List T0)) (b:Int) (c:Int):Option ByteArray :=
 (z37 N a b).bind fun d =>
 bif (d.2 != 0) then (some (str []))
 else bif (decide (c < 0)) then (some (str []))
 else (idx a b).bind fun e =>
 bif (decide (c < (e.Guard.Diffs.length:Int))) then ((idx e.Guard.Diffs c).bind fun f =>
 (z73 N a f).bind fun g =>
 some g)
 else bif (decide ((w64 (c-(e.Guard.Diffs.length:Int))) < (e.Guard.Equals.length:Int))) then ((idx e.Guard.Equals (w64 (c-(e.Guard.Diffs.length:Int)))).bind fun h =>
 (z74 N a h.1).bind fun i =>
 (catS i (str [32,61,61,32])).bind fun j =>
 (idx e.Guard.Equals (w64 (c-(e.Guard.Diffs.length:Int)))).bind fun k =>
 (z74 N a k.2).bind fun l =>
 (catS j l).bind fun m =>
 some m)
 else some (str [])
def z40 (N:Nat) (a:List ByteArray) (b:ByteArray):Option ByteArray:=bif (decide (a.length≤140737488355328) && decide ((joinL b.data.toList (a.map (·.data.toList))).length≤140737488355328)) then some ⟨(joinL b.data.toList (a.map (·.data.toList))).toArray⟩ else none
def z13_k1 (N:Nat) (a:T0) (b:(List ByteArray)) (c:(List ByteArray)):Option ByteArray :=
 (catS a.Name (str [40])).bind fun d =>
 (z40 N b (str [44,32])).bind fun e =>
 (catS d e).bind fun f =>
 (catS f (str [41])).bind fun g =>
 bif (decide ((c.length:Int) > 0)) then ((z40 N c (str [32,97,110,100,32])).bind fun h =>
 (catS (str [32,119,104,101,114,101,32]) h).bind fun i =>
 (catS g i).bind fun j =>
 some j)
 else some g
def z13_l2 (N:Nat) (a:(List T0)) (b:Int) (c:T0) (d:(List ByteArray)):Nat→(List ByteArray)→Int→Option ByteArray
 | 0,_,_=>none
 | e+1,f,g =>
 bif (decide (g < (w64 ((c.Guard.Diffs.length:Int)+(c.Guard.Equals.length:Int))))) then ((z39 N a b g).bind fun h =>
 (appL f ([h]:List ByteArray)).bind fun i =>
 (z13_l2 N a b c d e) i (w64 (g+1)))
 else z13_k1 N c d f
def z13_k3 (N:Nat) (a:(List T0)) (b:Int) (c:T0) (d:(List ByteArray)):Option ByteArray :=
 z13_l2 N a b c d N ([]:List ByteArray) 0
def z13_l4 (N:Nat) (a:(List T0)) (b:Int) (c:T0):Nat→(List ByteArray)→Int→Option ByteArray
 | 0,_,_=>none
 | d+1,e,f =>
 bif (decide (f < (c.Fields.length:Int))) then ((idx c.Fields f).bind fun g =>
 (z38 N g).bind fun h =>
 (appL e ([h]:List ByteArray)).bind fun i =>
 (z13_l4 N a b c d) i (w64 (f+1)))
 else z13_k3 N a b c e
def z13 (N:Nat) (a:(List T0)) (b:Int):Option ByteArray :=
 (z37 N a b).bind fun c =>
 bif (c.2 != 0) then (some (str []))
 else (idx a b).bind fun d =>
 z13_l4 N a b d N ([]:List ByteArray) 0
def z137_16 (N:Nat) (a:T11) (b:Int):Option Bool :=
 some (a.State==b)
def z136_17_k1:Option Int :=
 some (-1)
def z136_17_l2 (N:Nat) (a:(List T11)) (b:Int):Nat→Int→Option Int
 | 0,_=>none
 | c+1,d =>
 bif (decide (d < (a.length:Int))) then ((idx a d).bind fun e =>
 (z137_16 N e b).bind fun f =>
 bif f then (some d)
 else (z136_17_l2 N a b c) (w64 (d+1)))
 else z136_17_k1
def z136_17 (N:Nat) (a:(List T11)) (b:Int):Option Int :=
 z136_17_l2 N a b N 0
def z64 (N:Nat) (a:T8) (b:Int):Option (T11 × Bool) :=
 (z134 N a).bind fun c =>
 bif (!c) then (some ((⟨0,0,0⟩:T11),false))
 else (z136_17 N a.Timeouts b).bind fun d =>
 bif (decide (d < 0)) then (some ((⟨0,0,0⟩:T11),false))
 else (idx a.Timeouts d).bind fun e =>
 some (e,true)
def z31_k1 (N:Nat) (a:T5) (b:T8) (c:Int) (d:(List ByteArray)):Option (List ByteArray) :=
 (z64 N b c).bind fun e =>
 bif e.2 then ((idx b.Moves e.1.Else).bind fun f =>
 (z65 N e.1.Ticks).bind fun g =>
 (catS (str [119,105,116,104,105,110,32]) g).bind fun h =>
 (catS h (str [32,116,105,99,107,115,44,32,111,116,104,101,114,119,105,115,101,32])).bind fun i =>
 (idx a.Decls f.Label).bind fun j =>
 (catS i j.Name).bind fun k =>
 (catS k (str [32,116,111,32])).bind fun l =>
 (idx a.Roles f.Peer).bind fun m =>
 (catS l m).bind fun o =>
 (appL d ([o]:List ByteArray)).bind fun p =>
 (idx b.Finals c).bind fun q =>
 bif q then ((appL p ([(str [116,104,101,32,101,110,100])]:List ByteArray)).bind fun r =>
 some r)
 else some p)
 else (idx b.Finals c).bind fun s =>
 bif s then ((appL d ([(str [116,104,101,32,101,110,100])]:List ByteArray)).bind fun t =>
 some t)
 else some d
def z31_l2 (N:Nat) (a:T5) (b:T8) (c:Int) (d:(List Int)):Nat→(List ByteArray)→Int→Option (List ByteArray)
 | 0,_,_=>none
 | e+1,f,g =>
 bif (decide (g < (d.length:Int))) then ((idx d g).bind fun h =>
 (idx b.Moves h).bind fun i =>
 (idx a.Roles i.Peer).bind fun j =>
 bif i.Again then ((idx a.Decls i.Label).bind fun k =>
 (catS (str [115,101,110,100,32]) k.Name).bind fun l =>
 (catS l (str [32,97,103,97,105,110,32,116,111,32])).bind fun m =>
 (catS m j).bind fun o =>
 (appL f ([o]:List ByteArray)).bind fun p =>
 (z31_l2 N a b c d e) p (w64 (g+1)))
 else bif i.Send then ((z13 N a.Decls i.Label).bind fun q =>
 (catS (str [115,101,110,100,32]) q).bind fun r =>
 (catS r (str [32,116,111,32])).bind fun s =>
 (catS s j).bind fun t =>
 (appL f ([t]:List ByteArray)).bind fun u =>
 (z31_l2 N a b c d e) u (w64 (g+1)))
 else (z13 N a.Decls i.Label).bind fun v =>
 (catS (str [114,101,99,101,105,118,101,32]) v).bind fun w =>
 (catS w (str [32,102,114,111,109,32])).bind fun x =>
 (catS x j).bind fun y =>
 (appL f ([y]:List ByteArray)).bind fun z =>
 (z31_l2 N a b c d e) z (w64 (g+1)))
 else z31_k1 N a b c f
def z31 (N:Nat) (a:T5) (b:T8) (c:Int):Option (List ByteArray) :=
 (z53 N b c).bind fun d =>
 z31_l2 N a b c d N ([]:List ByteArray) 0
def z10 (N:Nat) (a:T5) (b:T8) (c:Int):Option ((List ByteArray) × Int) :=
 (z30 N a b).bind fun d =>
 bif (!d) then (some (([]:List ByteArray),1))
 else bif (decide (c < 0)) then (some (([]:List ByteArray),1))
 else bif (decide (c≥b.States)) then (some (([]:List ByteArray),1))
 else (z31 N a b c).bind fun e =>
 some (e,0)
def z93_18 (N:Nat) (a:T9) (b:T16) (c:T3):Option Bool :=
 bif (a.From==b.At) then (bif (a.Send==c.Send) then (bif (a.Peer==c.Peer) then (some (a.Label==c.Label))
 else some false)
 else some false)
 else some false
def z92_19_k1:Option Int :=
 some (-1)
def z92_19_l2 (N:Nat) (a:(List T9)) (b:T16) (c:T3):Nat→Int→Option Int
 | 0,_=>none
 | d+1,e =>
 bif (decide (e < (a.length:Int))) then ((idx a e).bind fun f =>
 (z93_18 N f b c).bind fun g =>
 bif g then (some e)
 else (z92_19_l2 N a b c d) (w64 (e+1)))
 else z92_19_k1
def z92_19 (N:Nat) (a:(List T9)) (b:T16) (c:T3):Option Int :=
 z92_19_l2 N a b c N 0
def z170 (N:Nat) (a:T4) (b:T12):Option Bool :=
 (z90 N a.Sort' b).bind fun c =>
 some c
def z91_20_k1:Option Bool :=
 some true
def z91_20_l2 (N:Nat) (a:(List T4)) (b:(List T12)):Nat→Int→Option Bool
 | 0,_=>none
 | c+1,d =>
 bif (decide (d < (a.length:Int))) then ((idx a d).bind fun e =>
 (idx b d).bind fun f =>
 (z170 N e f).bind fun g =>
 bif (!g) then (some false)
 else (z91_20_l2 N a b c) (w64 (d+1)))
 else z91_20_k1
def z91_20 (N:Nat) (a:(List T4)) (b:(List T12)):Option Bool :=
 bif ((a.length:Int) != (b.length:Int)) then (some false)
 else z91_20_l2 N a b N 0
def z94 (N:Nat) (a:(List T4)) (b:(List T12)):Option Bool :=
 (z91_20 N a b).bind fun c =>
 some c
def z110 (N:Nat) (a:T12):Option Int :=
 bif (a.Kind==2) then (some (a.S.size:Int))
 else some a.N
def z247 (N:Nat) (a:Int):Option Bool :=
 bif (decide (a < 32)) then (some true)
 else some (decide (a > 126))
def z294_21_k1 (a:Nat):Option Int :=
 some (-1)
def z294_21_l2 (N:Nat) (a:ByteArray) (b:Bool):Nat→Nat→Option Int
 | 0,_=>none
 | c+1,d =>
 bif decide (d < a.size) then ((z247 N ((Utf8.decode a d).1:Int)).bind fun e =>
 bif (e==b) then (some ((d:Nat):Int))
 else (z294_21_l2 N a b c) (d+(Utf8.decode a d).2))
 else z294_21_k1 d
def z294_21 (N:Nat) (a:ByteArray) (b:Bool):Option Int :=
 z294_21_l2 N a b N (0:Nat)
def z275_22 (N:Nat) (a:ByteArray):Option Int :=
 (z294_21 N a true).bind fun b =>
 some b
def z246_23 (N:Nat) (a:ByteArray):Option Bool :=
 (z275_22 N a).bind fun b =>
 some (decide (b≥0))
def z194 (N:Nat) (a:T10) (b:T12):Option Bool :=
 bif (b.Kind != a.Kind) then (some false)
 else (z110 N b).bind fun c =>
 bif (decide (c < a.Lo)) then (some false)
 else (z110 N b).bind fun d =>
 bif (decide (d > a.Hi)) then (some false)
 else bif (b.Kind==1) then (some (b.S.toList==(str []).toList))
 else bif (b.N==0) then ((z246_23 N b.S).bind fun e =>
 some (!e))
 else some false
def z108_k1:Option Bool :=
 some true
def z108_l2 (N:Nat) (a:(List T12)) (b:(List T4)):Nat→Int→Option Bool
 | 0,_=>none
 | c+1,d =>
 bif (decide (d < (a.length:Int))) then ((idx a d).bind fun e =>
 bif (!((e.Kind==0) && ((e.N==0) && ((e.S.toList==(str []).toList) && true)))) then ((idx b d).bind fun f =>
 (z194 N f.Sort' e).bind fun g =>
 bif (!g) then (some false)
 else (z108_l2 N a b c) (w64 (d+1)))
 else (z108_l2 N a b c) (w64 (d+1)))
 else z108_k1
def z108 (N:Nat) (a:(List T0)) (b:Int) (c:(List T12)):Option Bool :=
 bif (decide (b < 0)) then (some false)
 else bif (decide (b≥(a.length:Int))) then (some false)
 else (z71 N a).bind fun d =>
 bif (!d) then (some false)
 else (z142 N a).bind fun e =>
 bif ((e.length:Int) != (c.length:Int)) then (some false)
 else z108_l2 N c e N 0
def z117_k1:Option Bool :=
 some true
def z117_l2 (N:Nat) (a:(List T4)) (b:(List T12)):Nat→Int→Option Bool
 | 0,_=>none
 | c+1,d =>
 bif (decide (d < (a.length:Int))) then ((idx a d).bind fun e =>
 (idx b d).bind fun f =>
 (z194 N e.Sort' f).bind fun g =>
 bif (!g) then (some false)
 else (z117_l2 N a b c) (w64 (d+1)))
 else z117_k1
def z117 (N:Nat) (a:(List T4)) (b:(List T12)):Option Bool :=
 bif ((a.length:Int) != (b.length:Int)) then (some false)
 else z117_l2 N a b N 0
def z55 (N:Nat) (a:(List T12)):Option (List T12) :=
 (appL ([]:List T12) a).bind fun b =>
 some b
def z114 (N:Nat) (a:T0) (b:(List T12)) (c:(List T12)):Option (List T12) :=
 (z55 N c).bind fun d =>
 (lsl d (some a.First) none).bind fun e =>
 (cpL d (some a.First) none b).bind fun f =>
 some f.1
def z116_k1:Option Bool :=
 some true
def z116_l2 (a:T6) (b:(List T12)):Nat→Int→Option Bool
 | 0,_=>none
 | c+1,d =>
 bif (decide (d < (a.Equals.length:Int))) then ((idx a.Equals d).bind fun e =>
 (idx b e.1).bind fun f =>
 bif (f.Kind==0) then (some false)
 else (idx b e.2).bind fun g =>
 bif (g.Kind==0) then (some false)
 else (idx b e.1).bind fun h =>
 (idx b e.2).bind fun i =>
 bif (!(h.S.toList==i.S.toList)) then (some false)
 else (z116_l2 a b c) (w64 (d+1)))
 else z116_k1
def z116_k3 (N:Nat) (a:T6) (b:(List T12)):Option Bool :=
 z116_l2 a b N 0
def z116_k5 (a:Int) (b:Int→Option Bool) (c:T1) (d:Int) (e:Int):Option Bool :=
 bif (decide ((w64 (d-e)) > c.C)) then (some false)
 else b (w64 (a+1))
def z116_l6 (N:Nat) (a:(List T12)) (b:Int) (c:Int→Option Bool) (d:T1):Nat→Int→Int→Int→Option Bool
 | 0,_,_,_=>none
 | e+1,f,g,h =>
 bif (decide (h < 2)) then ((idx ([d.X,d.Y]:List Int) h).bind fun i =>
 bif (decide (i < 0)) then ((z116_l6 N a b c d e) f g (w64 (h+1)))
 else (idx a i).bind fun j =>
 bif (j.Kind==0) then (some false)
 else (idx a i).bind fun k =>
 (z110 N k).bind fun l =>
 bif (h==0) then ((z116_l6 N a b c d e) l g (w64 (h+1)))
 else bif (h==1) then ((z116_l6 N a b c d e) f l (w64 (h+1)))
 else none)
 else z116_k5 b c d f g
def z116_l4 (N:Nat) (a:T6) (b:(List T12)):Nat→Int→Option Bool
 | 0,_=>none
 | c+1,d =>
 bif (decide (d < (a.Diffs.length:Int))) then ((idx a.Diffs d).bind fun e =>
 z116_l6 N b d (z116_l4 N a b c) e N 0 0 0)
 else z116_k3 N a b
def z116 (N:Nat) (a:T6) (b:(List T12)):Option Bool :=
 z116_l4 N a b N 0
def z56 (N:Nat) (a:(List T0)) (b:Int) (c:(List T12)) (d:(List T12)):Option Bool :=
 (z108 N a b d).bind fun e =>
 bif (!e) then (some false)
 else (idx a b).bind fun f =>
 (z117 N f.Fields c).bind fun g =>
 bif (!g) then (some false)
 else (idx a b).bind fun h =>
 (z114 N h c d).bind fun i =>
 (z116 N h.Guard i).bind fun j =>
 some j
def z271 (N:Nat) (a:ByteArray):Option Bool :=
 some (!(a.toList==a.toList))
def z233 (N:Nat) (a:ByteArray) (b:ByteArray):Option Int :=
 (z271 N a).bind fun c =>
 (z271 N b).bind fun d =>
 bif c then (bif d then (some 0)
 else some (-1))
 else bif d then (some 1)
 else bif (Op.bytesLess a.toList b.toList) then (some (-1))
 else bif (!((Op.bytesLess a.toList b.toList) || (a.toList==b.toList))) then (some 1)
 else some 0
def z173 (N:Nat) (a:T12) (b:T12):Option Int :=
 (z232 N a.Kind b.Kind).bind fun c =>
 (z232 N a.N b.N).bind fun d =>
 (z232 N (a.S.size:Int) (b.S.size:Int)).bind fun e =>
 (z233 N a.S b.S).bind fun f =>
 (z231 N ([c,d,e,f]:List Int)).bind fun g =>
 some g
def z172 (N:Nat) (a:T12) (b:T12):Option Bool :=
 (z173 N a b).bind fun c =>
 some (c==0)
def z171_24_k1:Option Bool :=
 some true
def z171_24_l2 (N:Nat) (a:(List T12)) (b:(List T12)):Nat→Int→Option Bool
 | 0,_=>none
 | c+1,d =>
 bif (decide (d < (a.length:Int))) then ((idx a d).bind fun e =>
 (idx b d).bind fun f =>
 (z172 N e f).bind fun g =>
 bif (!g) then (some false)
 else (z171_24_l2 N a b c) (w64 (d+1)))
 else z171_24_k1
def z171_24 (N:Nat) (a:(List T12)) (b:(List T12)):Option Bool :=
 bif ((a.length:Int) != (b.length:Int)) then (some false)
 else z171_24_l2 N a b N 0
def z95 (N:Nat) (a:(List T12)) (b:(List T12)):Option Bool :=
 (z171_24 N a b).bind fun c =>
 some c
def z96 (N:Nat) (a:(List T0)) (b:Int) (c:(List T12)) (d:(List T12)):Option ((List T12) × Int) :=
 (z108 N a b d).bind fun e =>
 bif (!e) then (some (([]:List T12),1))
 else (idx a b).bind fun f =>
 (z117 N f.Fields c).bind fun g =>
 bif (!g) then (some (([]:List T12),11))
 else (idx a b).bind fun h =>
 (z114 N h c d).bind fun i =>
 some (i,0)
def z47_k1 (N:Nat) (a:T5) (b:T8) (c:T16) (d:T3) (e:Int) (f:Bool):Option (T16 × Int) :=
 bif f then (some ((⟨0,([]:List T12),([]:List T12)⟩:T16),17))
 else (idx b.Moves e).bind fun g =>
 (z96 N a.Decls d.Label d.Values c.Known).bind fun h =>
 bif d.Send then ((z55 N d.Values).bind fun i =>
 some ((⟨g.To,h.1,i⟩:T16),0))
 else some ((⟨g.To,h.1,([]:List T12)⟩:T16),0)
def z47 (N:Nat) (a:T5) (b:T8) (c:T16) (d:T3):Option (T16 × Int) :=
 (z92_19 N b.Moves c d).bind fun e =>
 bif (d.Role != b.Role) then (some ((⟨0,([]:List T12),([]:List T12)⟩:T16),12))
 else bif (decide (e < 0)) then (some ((⟨0,([]:List T12),([]:List T12)⟩:T16),23))
 else (idx a.Decls d.Label).bind fun f =>
 (z94 N f.Fields d.Values).bind fun g =>
 bif (!g) then (some ((⟨0,([]:List T12),([]:List T12)⟩:T16),11))
 else (z56 N a.Decls d.Label d.Values c.Known).bind fun h =>
 bif (!h) then (z47_k1 N a b c d e true)
 else (idx b.Moves e).bind fun i =>
 bif i.Again then ((z95 N d.Values c.Pending).bind fun j =>
 z47_k1 N a b c d e (!j))
 else z47_k1 N a b c d e false
def z17_k1 (a:(List T3)) (b:Int) (c:(List T12)) (d:(List T12)):Option (T16 × Int × Int) :=
 some ((⟨b,c,d⟩:T16),(a.length:Int),0)
def z17_l2 (N:Nat) (a:T5) (b:T8) (c:(List T3)):Nat→Int→(List T12)→(List T12)→Int→Option (T16 × Int × Int)
 | 0,_,_,_,_=>none
 | d+1,e,f,g,h =>
 bif (decide (h < (c.length:Int))) then ((idx c h).bind fun i =>
 (z47 N a b (⟨e,f,g⟩:T16) i).bind fun j =>
 bif (j.2 != 0) then (some ((⟨e,f,g⟩:T16),h,j.2))
 else (z17_l2 N a b c d) j.1.At j.1.Known j.1.Pending (w64 (h+1)))
 else z17_k1 c e f g
def z17 (N:Nat) (a:T5) (b:T8) (c:(List T3)):Option (T16 × Int × Int) :=
 (z24 N a b).bind fun d =>
 (z46 N a b d).bind fun e =>
 bif (!e) then (some ((⟨0,([]:List T12),([]:List T12)⟩:T16),0,1))
 else z17_l2 N a b c N d.At d.Known d.Pending 0
def z44 (N:Nat) (a:(List T3)):Option (List T3) :=
 (appL ([]:List T3) a).bind fun b =>
 some b
def z175 (N:Nat) (a:(List T0)) (b:Int) (c:(List T12)) (d:(List T12)):Option (List T12) :=
 (appL ([]:List T12) d).bind fun e =>
 (idx a b).bind fun f =>
 (lsl e (some f.First) none).bind fun g =>
 (cpL e (some f.First) none c).bind fun h =>
 some h.1
def z234 (N:Nat) (a:(List T12)) (b:Int):Option (Int × Bool) :=
 bif (decide (b < 0)) then (some (0,true))
 else (idx a b).bind fun c =>
 (z167 N c).bind fun d =>
 (idx a b).bind fun e =>
 some (d,(e.Kind != 0))
def z174_k1:Option (Int × Bool) :=
 some (0,false)
def z174_l2 (a:T6) (b:(List T12)):Nat→Int→Option (Int × Bool)
 | 0,_=>none
 | c+1,d =>
 bif (decide (d < (a.Equals.length:Int))) then ((idx a.Equals d).bind fun e =>
 (idx b e.1).bind fun f =>
 (idx b e.2).bind fun g =>
 bif (f.Kind==0) then (some ((w64 ((a.Diffs.length:Int)+d)),true))
 else bif (g.Kind==0) then (some ((w64 ((a.Diffs.length:Int)+d)),true))
 else bif (!(f.S.toList==g.S.toList)) then (some ((w64 ((a.Diffs.length:Int)+d)),true))
 else (z174_l2 a b c) (w64 (d+1)))
 else z174_k1
def z174_k3 (N:Nat) (a:T6) (b:(List T12)):Option (Int × Bool) :=
 z174_l2 a b N 0
def z174_l4 (N:Nat) (a:T6) (b:(List T12)):Nat→Int→Option (Int × Bool)
 | 0,_=>none
 | c+1,d =>
 bif (decide (d < (a.Diffs.length:Int))) then ((idx a.Diffs d).bind fun e =>
 (z234 N b e.X).bind fun f =>
 (z234 N b e.Y).bind fun g =>
 bif (!f.2) then (some (d,true))
 else bif (!g.2) then (some (d,true))
 else bif (decide ((w64 (f.1-g.1)) > e.C)) then (some (d,true))
 else (z174_l4 N a b c) (w64 (d+1)))
 else z174_k3 N a b
def z174 (N:Nat) (a:T6) (b:(List T12)):Option (Int × Bool) :=
 z174_l4 N a b N 0
def z176_k1 (a:(List T12)):Option Int :=
 some (a.length:Int)
def z176_l2 (N:Nat) (a:(List T12)) (b:(List T12)):Nat→Int→Option Int
 | 0,_=>none
 | c+1,d =>
 bif (decide (d < (a.length:Int))) then (bif (decide (d≥(b.length:Int))) then (some d)
 else (idx a d).bind fun e =>
 (idx b d).bind fun f =>
 (z173 N e f).bind fun g =>
 bif (g != 0) then (some d)
 else (z176_l2 N a b c) (w64 (d+1)))
 else z176_k1 a
def z176 (N:Nat) (a:(List T12)) (b:(List T12)):Option Int :=
 z176_l2 N a b N 0
def z97_k1 (N:Nat) (a:T5) (b:T16) (c:T3) (d:T0):Option (Int × Int) :=
 (z175 N a.Decls c.Label c.Values b.Known).bind fun e =>
 (z174 N d.Guard e).bind fun f =>
 bif f.2 then (some (5,f.1))
 else (z176 N c.Values b.Pending).bind fun g =>
 some (6,g)
def z97_l2 (N:Nat) (a:T5) (b:T16) (c:T3) (d:T0):Nat→Int→Option (Int × Int)
 | 0,_=>none
 | e+1,f =>
 bif (decide (f < (d.Fields.length:Int))) then ((idx d.Fields f).bind fun g =>
 (idx c.Values f).bind fun h =>
 (z90 N g.Sort' h).bind fun i =>
 bif (!i) then (some (4,f))
 else (z97_l2 N a b c d e) (w64 (f+1)))
 else z97_k1 N a b c d
def z97 (N:Nat) (a:T5) (b:T16) (c:T3) (d:Int):Option (Int × Int) :=
 bif (d==12) then (some (1,0))
 else bif (d==23) then (some (2,0))
 else (idx a.Decls c.Label).bind fun e =>
 bif ((c.Values.length:Int) != (e.Fields.length:Int)) then (some (3,0))
 else z97_l2 N a b c e N 0
def z48_k1 (N:Nat) (a:T5) (b:T8) (c:(List T3)) (d:T16 × Int × Int) (e:Bool):Option (T13 × Bool × Int) :=
 bif e then (some ((⟨0,0,0,0⟩:T13),false,d.2.2))
 else (idx c d.2.1).bind fun f =>
 (z97 N a d.1 f d.2.2).bind fun g =>
 bif (g.1==1) then (some ((⟨d.2.1,g.1,g.2,f.Role⟩:T13),true,0))
 else bif f.Send then (some ((⟨d.2.1,g.1,g.2,b.Role⟩:T13),true,0))
 else some ((⟨d.2.1,g.1,g.2,f.Peer⟩:T13),true,0)
def z48 (N:Nat) (a:T5) (b:T8) (c:(List T3)):Option (T13 × Bool × Int) :=
 (z17 N a b c).bind fun d =>
 bif (d.2.2==0) then (z48_k1 N a b c d true)
 else z48_k1 N a b c d (d.2.2==1)
def z98 (N:Nat) (a:(List ByteArray)) (b:Int):Option ByteArray :=
 bif (decide (b < 0)) then (some (str [63]))
 else bif (decide (b≥(a.length:Int))) then (some (str [63]))
 else (idx a b).bind fun c =>
 some c
def z99_k1 (a:(List ByteArray)):Option (List ByteArray) :=
 some a
def z99_l2 (a:(List T0)):Nat→(List ByteArray)→Int→Option (List ByteArray)
 | 0,_,_=>none
 | b+1,c,d =>
 bif (decide (d < (a.length:Int))) then ((idx a d).bind fun e =>
 (appL c ([e.Name]:List ByteArray)).bind fun f =>
 (z99_l2 a b) f (w64 (d+1)))
 else z99_k1 c
def z99 (N:Nat) (a:(List T0)):Option (List ByteArray) :=
 z99_l2 a N ([]:List ByteArray) 0
def z153_25 (N:Nat) (a:ByteArray):Option ByteArray :=
 some ByteArray.empty
def z177_26 (N:Nat) (a:Int) (b:ByteArray):Option (Unit × ByteArray) :=
 (z153_25 N ByteArray.empty).bind fun c =>
 (apI c ([a]:List Int)).bind fun d =>
 some ((),d)
def z153_27 (N:Nat) (a:ByteArray):Option Unit :=
 some ()
def z177_28 (N:Nat) (a:Int) (b:ByteArray):Option (Unit × ByteArray) :=
 (z153_27 N b).bind fun c =>
 (apI b ([a]:List Int)).bind fun d =>
 some ((),d)
def z77_29 (N:Nat) (a:ByteArray):Option ByteArray :=
 (gdB a).bind fun b =>
 (gdB a).bind fun c =>
 some a
def z101_k1 (N:Nat) (a:ByteArray):Option ByteArray :=
 (z177_28 N 34 a).bind fun b =>
 (z77_29 N b.2).bind fun c =>
 some c
def z101_l2 (N:Nat) (a:T12):Nat→ByteArray→Int→Option ByteArray
 | 0,_,_=>none
 | b+1,c,d =>
 bif (decide (d < (a.S.size:Int))) then ((sidx a.S d).bind fun e =>
 bif (e==34) then ((z177_28 N 92 c).bind fun f =>
 (sidx a.S d).bind fun g =>
 (z177_28 N g f.2).bind fun h =>
 (z101_l2 N a b) h.2 (w64 (d+1)))
 else (sidx a.S d).bind fun i =>
 bif (i==92) then ((z177_28 N 92 c).bind fun j =>
 (sidx a.S d).bind fun k =>
 (z177_28 N k j.2).bind fun l =>
 (z101_l2 N a b) l.2 (w64 (d+1)))
 else (sidx a.S d).bind fun m =>
 (z177_28 N m c).bind fun o =>
 (z101_l2 N a b) o.2 (w64 (d+1)))
 else z101_k1 N c
def z101 (N:Nat) (a:T12):Option ByteArray :=
 (z169 N a).bind fun b =>
 bif (!b) then (some (str [63]))
 else bif (a.Kind==1) then ((z65 N a.N).bind fun c =>
 some c)
 else (z177_26 N 34 ByteArray.empty).bind fun d =>
 z101_l2 N a N d.2 0
def z100_k1 (N:Nat) (a:(List ByteArray)):Option ByteArray :=
 (z40 N a (str [44,32])).bind fun b =>
 (catS (str [40]) b).bind fun c =>
 (catS c (str [41])).bind fun d =>
 some d
def z100_l2 (N:Nat) (a:(List T12)):Nat→(List ByteArray)→Int→Option ByteArray
 | 0,_,_=>none
 | b+1,c,d =>
 bif (decide (d < (a.length:Int))) then ((idx a d).bind fun e =>
 (z101 N e).bind fun f =>
 (appL c ([f]:List ByteArray)).bind fun g =>
 (z100_l2 N a b) g (w64 (d+1)))
 else z100_k1 N c
def z100 (N:Nat) (a:(List T12)):Option ByteArray :=
 z100_l2 N a N ([]:List ByteArray) 0
def z49_k1 (N:Nat) (a:T5) (b:T3) (c:ByteArray) (d:ByteArray):Option ByteArray :=
 (z98 N a.Roles b.Role).bind fun e =>
 (catS e c).bind fun f =>
 (z99 N a.Decls).bind fun g =>
 (z98 N g b.Label).bind fun h =>
 (catS f h).bind fun i =>
 (z100 N b.Values).bind fun j =>
 (catS i j).bind fun k =>
 (catS k d).bind fun l =>
 (z98 N a.Roles b.Peer).bind fun m =>
 (catS l m).bind fun o =>
 some o
def z49 (N:Nat) (a:T5) (b:T3):Option ByteArray :=
 bif b.Send then (z49_k1 N a b (str [32,115,101,110,100,115,32]) (str [32,116,111,32]))
 else z49_k1 N a b (str [32,103,101,116,115,32]) (str [32,102,114,111,109,32])
def z50 (N:Nat) (a:T5) (b:T8) (c:T13) (d:T3):Option ByteArray :=
 bif (c.Kind==1) then ((z98 N a.Roles b.Role).bind fun e =>
 (catS (str [105,115,32,110,111,116,32,97,110,32,101,118,101,110,116,32,111,102,32]) e).bind fun f =>
 some f)
 else bif (c.Kind==2) then (some (str [105,115,32,110,111,116,32,112,101,114,109,105,116,116,101,100,32,104,101,114,101]))
 else bif (c.Kind==3) then ((z65 N (d.Values.length:Int)).bind fun g =>
 (catS (str [104,97,115,32]) g).bind fun h =>
 (catS h (str [32,118,97,108,117,101,115,32,105,110,115,116,101,97,100,32,111,102,32])).bind fun i =>
 (idx a.Decls d.Label).bind fun j =>
 (z65 N (j.Fields.length:Int)).bind fun k =>
 (catS i k).bind fun l =>
 some l)
 else bif (c.Kind==4) then ((idx a.Decls d.Label).bind fun m =>
 (idx m.Fields c.Part).bind fun o =>
 (idx d.Values c.Part).bind fun p =>
 (z101 N p).bind fun q =>
 (catS (str [104,97,115,32,116,104,101,32,118,97,108,117,101,32]) q).bind fun r =>
 (catS r (str [32,102,111,114,32])).bind fun s =>
 (catS s o.Name).bind fun t =>
 (catS t (str [44,32,119,104,105,99,104,32,105,115,32,110,111,116,32,102,114,111,109,32])).bind fun u =>
 (z65 N o.Sort'.Lo).bind fun v =>
 (catS u v).bind fun w =>
 (catS w (str [32,116,111,32])).bind fun x =>
 (z65 N o.Sort'.Hi).bind fun y =>
 (catS x y).bind fun z =>
 some z)
 else bif (c.Kind==5) then ((z39 N a.Decls d.Label c.Part).bind fun A =>
 (catS (str [100,111,101,115,32,110,111,116,32,107,101,101,112,32,116,104,101,32,103,117,97,114,100,32]) A).bind fun B =>
 some B)
 else some (str [100,111,101,115,32,110,111,116,32,104,97,118,101,32,116,104,101,32,115,97,109,101,32,118,97,108,117,101,115,32,97,115,32,116,104,101,32,109,101,115,115,97,103,101,32,97,104,101,97,100])
def z18 (N:Nat) (a:T5) (b:T8) (c:(List T3)):Option (ByteArray × Int) :=
 (z48 N a b c).bind fun d =>
 bif (d.2.2 != 0) then (some ((str []),d.2.2))
 else bif (!d.2.1) then (some ((str []),d.2.2))
 else (idx c d.1.At).bind fun e =>
 (z49 N a e).bind fun f =>
 (catS f (str [32])).bind fun g =>
 (z50 N a b d.1 e).bind fun h =>
 (catS g h).bind fun i =>
 some (i,0)
def z15 (N:Nat) (a:T5) (b:T8) (c:(List T3)) (d:T3):Option (ByteArray × Int) :=
 (z17 N a b c).bind fun e =>
 bif (e.2.2==1) then (some ((str []),1))
 else bif (e.2.2 != 0) then (some ((str []),7))
 else (z44 N c).bind fun f =>
 (appL f ([d]:List T3)).bind fun g =>
 (z18 N a b g).bind fun h =>
 bif (h.2 != 0) then (some ((str []),h.2))
 else bif (h.1.toList==(str []).toList) then (some ((str []),h.2))
 else (z31 N a b e.1.At).bind fun i =>
 (z40 N i (str [59,32])).bind fun j =>
 bif (j.toList==(str []).toList) then ((catS h.1 (str [59,32,112,101,114,109,105,116,116,101,100,58,32])).bind fun k =>
 (catS k (str [110,111,116,104,105,110,103])).bind fun l =>
 some (l,0))
 else (catS h.1 (str [59,32,112,101,114,109,105,116,116,101,100,58,32])).bind fun m =>
 (catS m j).bind fun o =>
 some (o,0)
def z248 (N:Nat) (a:Int) (b:Int):Option Int :=
 bif (a==b) then (some 0)
 else bif (a==0) then (some 10000)
 else bif (b==0) then (some 10000)
 else some 20000
def z195_k1 (a:Int) (b:(List Int)):Option T17 :=
 some (⟨a,b⟩:T17)
def z195_k3 (a:Int) (b:(List Int)→Int→Option T17) (c:(List Int)):Option T17 :=
 b c (w64 (a+1))
def z195_l4 (N:Nat) (a:Int) (b:Int) (c:(List Int)→Int→Option T17):Nat→(List Int)→Int→Option T17
 | 0,_,_=>none
 | d+1,e,f =>
 bif (decide (f < (w64 (a+1)))) then ((z248 N b f).bind fun g =>
 (idx e (w64 ((w64 (b * (w64 (a+1))))+f))).bind fun h =>
 (z195_l4 N a b c d) (setL' e (w64 ((w64 (b * (w64 (a+1))))+f)) g) (w64 (f+1)))
 else z195_k3 b c e
def z195_l2 (N:Nat) (a:Int):Nat→(List Int)→Int→Option T17
 | 0,_,_=>none
 | b+1,c,d =>
 bif (decide (d < (w64 (a+1)))) then (z195_l4 N a d (z195_l2 N a b) N c 0)
 else z195_k1 a c
def z195 (N:Nat) (a:Int):Option T17 :=
 (mkL 0 (w64 ((w64 (a+1)) * (w64 (a+1)))) (w64 ((w64 (a+1)) * (w64 (a+1))))).bind fun b =>
 z195_l2 N a N b 0
def z109 (N:Nat) (a:Int):Option (T17 × Int) :=
 bif (decide (a < 0)) then (some ((⟨0,([]:List Int)⟩:T17),2))
 else bif (decide (a > 24)) then (some ((⟨0,([]:List Int)⟩:T17),2))
 else (z195 N a).bind fun b =>
 some (b,0)
def z249_k1 (a:Int):Option Int :=
 some a
def z249_l2 (a:(List Int)):Nat→Int→Int→Option Int
 | 0,_,_=>none
 | b+1,c,d =>
 bif (decide (d < (a.length:Int))) then ((idx a d).bind fun e =>
 (z249_l2 a b) (minI c e) (w64 (d+1)))
 else z249_k1 c
def z249 (N:Nat) (a:(List Int)):Option Int :=
 bif (decide ((a.length:Int) < 1)) then (dead 0)
 else (idx a 0).bind fun b =>
 z249_l2 a N b 1
def z250_k1 (a:Int):Option Int :=
 some a
def z250_l2 (a:(List Int)):Nat→Int→Int→Option Int
 | 0,_,_=>none
 | b+1,c,d =>
 bif (decide (d < (a.length:Int))) then ((idx a d).bind fun e =>
 (z250_l2 a b) (maxI c e) (w64 (d+1)))
 else z250_k1 c
def z250 (N:Nat) (a:(List Int)):Option Int :=
 bif (decide ((a.length:Int) < 1)) then (dead 0)
 else (idx a 0).bind fun b =>
 z250_l2 a N b 1
def z196 (N:Nat) (a:T17):Option Bool :=
 bif (decide (a.N≥0)) then (bif (decide (a.N≤24)) then (bif ((a.B.length:Int)==(w64 ((w64 (a.N+1)) * (w64 (a.N+1))))) then ((z249 N a.B).bind fun b =>
 bif (decide (b≥(-20001))) then ((z250 N a.B).bind fun c =>
 some (decide (c≤20000)))
 else some false)
 else some false)
 else some false)
 else some false
def z197 (N:Nat) (a:T17) (b:Int):Option Bool :=
 bif (decide (b≥(-1))) then (some (decide (b < a.N)))
 else some false
def z198 (N:Nat) (a:(List Int)):Option (List Int) :=
 (appL ([]:List Int) a).bind fun b =>
 some b
def z111 (N:Nat) (a:T17) (b:T1):Option (T17 × Int) :=
 (z196 N a).bind fun c =>
 bif (!c) then (some ((⟨0,([]:List Int)⟩:T17),1))
 else (z197 N a b.X).bind fun d =>
 bif (!d) then (some ((⟨0,([]:List Int)⟩:T17),2))
 else (z197 N a b.Y).bind fun e =>
 bif (!e) then (some ((⟨0,([]:List Int)⟩:T17),2))
 else (z198 N a.B).bind fun f =>
 (idx f (w64 ((w64 ((w64 ((w64 (b.X+1)) * (w64 (a.N+1))))+b.Y))+1))).bind fun g =>
 (idx f (w64 ((w64 ((w64 ((w64 (b.X+1)) * (w64 (a.N+1))))+b.Y))+1))).bind fun h =>
 some ((⟨a.N,(setL' f (w64 ((w64 ((w64 ((w64 (b.X+1)) * (w64 (a.N+1))))+b.Y))+1)) (minI g (maxI b.C (-20001))))⟩:T17),0)
def z199_k1 (a:T17) (b:(List Int)):Option (T17 × Bool) :=
 some ((⟨a.N,b⟩:T17),true)
def z199_k3 (a:Int) (b:(List Int)→Int→Option (T17 × Bool)) (c:(List Int)):Option (T17 × Bool) :=
 b c (w64 (a+1))
def z199_l4 (a:T17) (b:Int) (c:(List Int)→Int→Option (T17 × Bool)) (d:(List Int)):Nat→Int→Option (T17 × Bool)
 | 0,_=>none
 | e+1,f =>
 bif (decide (f < (w64 (a.N+1)))) then ((idx d (w64 ((w64 (f * (w64 (a.N+1))))+f))).bind fun g =>
 bif (decide (g < 0)) then (some ((⟨0,([]:List Int)⟩:T17),false))
 else (z199_l4 a b c d e) (w64 (f+1)))
 else z199_k3 b c d
def z199_k5 (N:Nat) (a:T17) (b:Int) (c:(List Int)→Int→Option (T17 × Bool)) (d:(List Int)):Option (T17 × Bool) :=
 z199_l4 a b c d N 0
def z199_k7 (a:Int) (b:(List Int)→Int→Option (T17 × Bool)) (c:(List Int)):Option (T17 × Bool) :=
 b c (w64 (a+1))
def z199_l8 (a:T17) (b:Int) (c:Int) (d:(List Int)→Int→Option (T17 × Bool)):Nat→(List Int)→Int→Option (T17 × Bool)
 | 0,_,_=>none
 | e+1,f,g =>
 bif (decide (g < (w64 (a.N+1)))) then ((idx f (w64 ((w64 (c * (w64 (a.N+1))))+g))).bind fun h =>
 (idx f (w64 ((w64 (c * (w64 (a.N+1))))+b))).bind fun i =>
 (idx f (w64 ((w64 (b * (w64 (a.N+1))))+g))).bind fun j =>
 (idx f (w64 ((w64 (c * (w64 (a.N+1))))+g))).bind fun k =>
 (z199_l8 a b c d e) (setL' f (w64 ((w64 (c * (w64 (a.N+1))))+g)) (minI h (w64 (i+j)))) (w64 (g+1)))
 else z199_k7 c d f
def z199_l6 (N:Nat) (a:T17) (b:Int) (c:(List Int)→Int→Option (T17 × Bool)):Nat→(List Int)→Int→Option (T17 × Bool)
 | 0,_,_=>none
 | d+1,e,f =>
 bif (decide (f < (w64 (a.N+1)))) then (z199_l8 a b f (z199_l6 N a b c d) N e 0)
 else z199_k5 N a b c e
def z199_l2 (N:Nat) (a:T17):Nat→(List Int)→Int→Option (T17 × Bool)
 | 0,_,_=>none
 | b+1,c,d =>
 bif (decide (d < (w64 (a.N+1)))) then (z199_l6 N a d (z199_l2 N a b) N c 0)
 else z199_k1 a c
def z199_k9 (N:Nat) (a:T17) (b:(List Int)):Option (T17 × Bool) :=
 z199_l2 N a N b 0
def z199_k11 (a:Int) (b:(List Int)→Int→Option (T17 × Bool)) (c:(List Int)):Option (T17 × Bool) :=
 b c (w64 (a+1))
def z199_l12 (N:Nat) (a:T17) (b:Int) (c:(List Int)→Int→Option (T17 × Bool)):Nat→(List Int)→Int→Option (T17 × Bool)
 | 0,_,_=>none
 | d+1,e,f =>
 bif (decide (f < (w64 (a.N+1)))) then ((idx e (w64 ((w64 (b * (w64 (a.N+1))))+f))).bind fun g =>
 (z248 N b f).bind fun h =>
 (idx e (w64 ((w64 (b * (w64 (a.N+1))))+f))).bind fun i =>
 (z199_l12 N a b c d) (setL' e (w64 ((w64 (b * (w64 (a.N+1))))+f)) (minI g h)) (w64 (f+1)))
 else z199_k11 b c e
def z199_l10 (N:Nat) (a:T17):Nat→(List Int)→Int→Option (T17 × Bool)
 | 0,_,_=>none
 | b+1,c,d =>
 bif (decide (d < (w64 (a.N+1)))) then (z199_l12 N a d (z199_l10 N a b) N c 0)
 else z199_k9 N a c
def z199 (N:Nat) (a:T17):Option (T17 × Bool) :=
 (z196 N a).bind fun b =>
 bif (!b) then (some ((⟨0,([]:List Int)⟩:T17),false))
 else (z198 N a.B).bind fun c =>
 z199_l10 N a N c 0
def z200 (N:Nat) (a:T17) (b:Int) (c:Int):Option Int :=
 (idx a.B (w64 ((w64 (b * (w64 (a.N+1))))+c))).bind fun d =>
 some d
def z112_k1 (a:(List Int)):Option ((List Int) × Bool) :=
 some (a,true)
def z112_k3 (a:(List Int)) (b:Int) (c:(List Int)→Int→Option ((List Int) × Bool)) (d:Int):Option ((List Int) × Bool) :=
 (appL a ([d]:List Int)).bind fun e =>
 c e (w64 (b+1))
def z112_l4 (N:Nat) (a:T17 × Bool) (b:(List Int)) (c:Int) (d:(List Int)→Int→Option ((List Int) × Bool)):Nat→Int→Int→Option ((List Int) × Bool)
 | 0,_,_=>none
 | e+1,f,g =>
 bif (decide (g < (b.length:Int))) then ((idx b g).bind fun h =>
 (z200 N a.1 (w64 (g+1)) (w64 (c+1))).bind fun i =>
 (z112_l4 N a b c d e) (maxI f (w64 (h-i))) (w64 (g+1)))
 else z112_k3 b c d f
def z112_l2 (N:Nat) (a:T17) (b:T17 × Bool):Nat→(List Int)→Int→Option ((List Int) × Bool)
 | 0,_,_=>none
 | c+1,d,e =>
 bif (decide (e < a.N)) then ((z200 N b.1 0 (w64 (e+1))).bind fun f =>
 z112_l4 N b d e (z112_l2 N a b c) N (w64 (0-f)) 0)
 else z112_k1 d
def z112 (N:Nat) (a:T17):Option ((List Int) × Bool) :=
 (z199 N a).bind fun b =>
 bif (!b.2) then (some (([]:List Int),false))
 else z112_l2 N a b N ([]:List Int) 0
def repL (l:List UInt8):Nat→List UInt8
 | 0=>[]
 | n+1=>l++repL l n
def z113 (N:Nat) (a:ByteArray) (b:Int):Option ByteArray :=
 bif (decide (0≤b) && decide (b≤140737488355328)) && decide (a.size * b.toNat≤140737488355328) then some ⟨(repL a.data.toList b.toNat).toArray⟩ else none
def z115_k1 (a:(List T12)):Option (List T12) :=
 some a
def z115_k3 (a:(List T12)→(List Bool)→Bool→Option (List T12)) (b:(List T12)) (c:(List Bool)) (d:Bool):Option (List T12) :=
 a b c d
def z115_k5 (a:Int) (b:(List T12)→(List Bool)→Bool→Int→Option (List T12)) (c:(List T12)) (d:(List Bool)) (e:Bool):Option (List T12) :=
 b c d e (w64 (a+1))
def z115_k7 (a:(List T12)) (b:(List Bool)) (c:Bool) (d:Int) (e:(List T12)→(List Bool)→Bool→Int→Option (List T12)) (f:Int) (g:Int):Option (List T12) :=
 (idx b g).bind fun h =>
 bif h then ((idx b f).bind fun i =>
 bif (!i) then ((idx a g).bind fun j =>
 (idx a f).bind fun k =>
 (idx b f).bind fun l =>
 e (setL' a f (⟨k.Kind,k.N,j.S⟩:T12)) (setL' b f true) true (w64 (d+1)))
 else e a b c (w64 (d+1)))
 else e a b c (w64 (d+1))
def z115_l6 (a:Int) (b:(List T12)→(List Bool)→Bool→Int→Option (List T12)) (c:(Int × Int)):Nat→(List T12)→(List Bool)→Bool→Int→Option (List T12)
 | 0,_,_,_,_=>none
 | d+1,e,f,g,h =>
 bif (decide (h < 2)) then ((idx ([c.1,c.2]:List Int) h).bind fun i =>
 bif ((w64 (1-h))==0) then (z115_k7 e f g h (z115_l6 a b c d) i c.1)
 else bif ((w64 (1-h))==1) then (z115_k7 e f g h (z115_l6 a b c d) i c.2)
 else none)
 else z115_k5 a b e f g
def z115_l4 (N:Nat) (a:T0) (b:(List T12)→(List Bool)→Bool→Option (List T12)):Nat→(List T12)→(List Bool)→Bool→Int→Option (List T12)
 | 0,_,_,_,_=>none
 | c+1,d,e,f,g =>
 bif (decide (g < (a.Guard.Equals.length:Int))) then ((idx a.Guard.Equals g).bind fun h =>
 z115_l6 g (z115_l4 N a b c) h N d e f 0)
 else z115_k3 b d e f
def z115_l2 (N:Nat) (a:T0):Nat→(List T12)→(List Bool)→Bool→Option (List T12)
 | 0,_,_,_=>none
 | b+1,c,d,e =>
 bif e then (z115_l4 N a (z115_l2 N a b) N c d false 0)
 else z115_k1 c
def z115_k8 (N:Nat) (a:T0) (b:(List T12)) (c:(List Bool)):Option (List T12) :=
 z115_l2 N a N b c true
def z115_l9 (N:Nat) (a:T0) (b:(List T12)):Nat→(List Bool)→Int→Option (List T12)
 | 0,_,_=>none
 | c+1,d,e =>
 bif (decide (e < (b.length:Int))) then (bif (decide (e < a.First)) then ((idx b e).bind fun f =>
 (idx d e).bind fun g =>
 (z115_l9 N a b c) (setL' d e (f.Kind != 0)) (w64 (e+1)))
 else bif (decide (e≥(w64 (a.First+(a.Fields.length:Int))))) then ((idx b e).bind fun h =>
 (idx d e).bind fun i =>
 (z115_l9 N a b c) (setL' d e (h.Kind != 0)) (w64 (e+1)))
 else (idx d e).bind fun j =>
 (z115_l9 N a b c) (setL' d e false) (w64 (e+1)))
 else z115_k8 N a b d
def z115 (N:Nat) (a:T0) (b:(List T12)):Option (List T12) :=
 (mkL false (b.length:Int) (b.length:Int)).bind fun c =>
 z115_l9 N a b N c 0
def z54_k1 (N:Nat) (a:(List T12)) (b:T0) (c:(List T12)):Option ((List T12) × Bool) :=
 (z114 N b c a).bind fun d =>
 (z115 N b d).bind fun e =>
 (lsl e (some b.First) (some (w64 (b.First+(b.Fields.length:Int))))).bind fun f =>
 (cpL c none none f).bind fun g =>
 (z116 N b.Guard e).bind fun h =>
 bif (!h) then (some (([]:List T12),false))
 else (z117 N b.Fields g.1).bind fun i =>
 bif (!i) then (some (([]:List T12),false))
 else some (g.1,true)
def z54_l2 (N:Nat) (a:(List T12)) (b:T0) (c:(List Int) × Bool):Nat→(List T12)→Int→Option ((List T12) × Bool)
 | 0,_,_=>none
 | d+1,e,f =>
 bif (decide (f < (b.Fields.length:Int))) then ((idx b.Fields f).bind fun g =>
 (idx c.1 f).bind fun h =>
 (idx e f).bind fun i =>
 bif (g.Sort'.Kind==2) then ((idx c.1 f).bind fun j =>
 (z113 N (str [97]) j).bind fun k =>
 (idx (setL' e f (⟨g.Sort'.Kind,h,(str [])⟩:T12)) f).bind fun l =>
 (z54_l2 N a b c d) (setL' (setL' e f (⟨g.Sort'.Kind,h,(str [])⟩:T12)) f (⟨2,0,k⟩:T12)) (w64 (f+1)))
 else (z54_l2 N a b c d) (setL' e f (⟨g.Sort'.Kind,h,(str [])⟩:T12)) (w64 (f+1)))
 else z54_k1 N a b e
def z54_k3 (N:Nat) (a:(List T12)) (b:T0) (c:Int) (d:(List Int)):Option ((List T12) × Bool) :=
 (z112 N (⟨c,d⟩:T17)).bind fun e =>
 bif (!e.2) then (some (([]:List T12),false))
 else (mkL (⟨0,0,(str [])⟩:T12) (b.Fields.length:Int) (b.Fields.length:Int)).bind fun f =>
 z54_l2 N a b e N f 0
def z54_k5 (N:Nat) (a:Int) (b:(List Int)) (c:Int) (d:Int→(List Int)→Int→Option ((List T12) × Bool)) (e:Int) (f:Int) (g:Int):Option ((List T12) × Bool) :=
 (z111 N (⟨a,b⟩:T17) (⟨f,g,e⟩:T1)).bind fun h =>
 d h.1.N h.1.B (w64 (c+1))
def z54_k7 (N:Nat) (a:(List T12)) (b:T0) (c:Int) (d:Int) (e:Int) (f:Int) (g:Int→Int→Int→Int→Option ((List T12) × Bool)) (h:Int) (i:Bool):Option ((List T12) × Bool) :=
 bif i then (bif (f==0) then (g c (w64 (h-b.First)) e (w64 (f+1)))
 else bif (f==1) then (g c d (w64 (h-b.First)) (w64 (f+1)))
 else none)
 else (idx a h).bind fun j =>
 bif (j.Kind==0) then (some (([]:List T12),false))
 else bif (f==0) then ((idx a h).bind fun k =>
 (z110 N k).bind fun l =>
 g (w64 (c-l)) d e (w64 (f+1)))
 else (idx a h).bind fun m =>
 (z110 N m).bind fun o =>
 g (w64 (c+o)) d e (w64 (f+1))
def z54_l6 (N:Nat) (a:(List T12)) (b:T0) (c:Int) (d:(List Int)) (e:Int) (f:Int→(List Int)→Int→Option ((List T12) × Bool)) (g:T1):Nat→Int→Int→Int→Int→Option ((List T12) × Bool)
 | 0,_,_,_,_=>none
 | h+1,i,j,k,l =>
 bif (decide (l < 2)) then ((idx ([g.X,g.Y]:List Int) l).bind fun m =>
 bif (decide (m < 0)) then ((z54_l6 N a b c d e f g h) i j k (w64 (l+1)))
 else bif (decide (m≥b.First)) then (z54_k7 N a b i j k l (z54_l6 N a b c d e f g h) m (decide (m < (w64 (b.First+(b.Fields.length:Int))))))
 else z54_k7 N a b i j k l (z54_l6 N a b c d e f g h) m false)
 else z54_k5 N c d e f i j k
def z54_l4 (N:Nat) (a:(List T12)) (b:T0) (c:(List T1)):Nat→Int→(List Int)→Int→Option ((List T12) × Bool)
 | 0,_,_,_=>none
 | d+1,e,f,g =>
 bif (decide (g < (c.length:Int))) then ((idx c g).bind fun h =>
 z54_l6 N a b e f g (z54_l4 N a b c d) h N h.C (-1) (-1) 0)
 else z54_k3 N a b e f
def z54 (N:Nat) (a:(List T0)) (b:Int) (c:(List T12)):Option ((List T12) × Bool) :=
 (z108 N a b c).bind fun d =>
 bif (!d) then (some (([]:List T12),false))
 else (idx a b).bind fun e =>
 (z109 N (e.Fields.length:Int)).bind fun f =>
 (z72 N e).bind fun g =>
 z54_l4 N c e g N f.1.N f.1.B 0
def z20_k1 (a:(List T3)):Option (List T3) :=
 some a
def z20_k3 (a:T8) (b:(List T3)) (c:Int) (d:(List T3)→Int→Option (List T3)) (e:T9) (f:(List T12)) (g:Bool):Option (List T3) :=
 bif g then ((appL b ([(⟨a.Role,e.Send,e.Peer,e.Label,f⟩:T3)]:List T3)).bind fun h =>
 d h (w64 (c+1)))
 else d b (w64 (c+1))
def z20_l2 (N:Nat) (a:T5) (b:T8) (c:T16) (d:(List Int)):Nat→(List T3)→Int→Option (List T3)
 | 0,_,_=>none
 | e+1,f,g =>
 bif (decide (g < (d.length:Int))) then ((idx d g).bind fun h =>
 (idx b.Moves h).bind fun i =>
 (z54 N a.Decls i.Label c.Known).bind fun j =>
 bif i.Again then ((z55 N c.Pending).bind fun k =>
 (z56 N a.Decls i.Label c.Pending c.Known).bind fun l =>
 z20_k3 b f g (z20_l2 N a b c d e) i k l)
 else z20_k3 b f g (z20_l2 N a b c d e) i j.1 j.2)
 else z20_k1 f
def z20 (N:Nat) (a:T5) (b:T8) (c:T16):Option (List T3) :=
 (z46 N a b c).bind fun d =>
 bif (!d) then (some ([]:List T3))
 else (z53 N b c.At).bind fun e =>
 z20_l2 N a b c e N ([]:List T3) 0
def z12_k1:Option Bool :=
 some true
def z12_l2 (a:(List ByteArray)) (b:(List ByteArray)):Nat→Int→Option Bool
 | 0,_=>none
 | c+1,d =>
 bif (decide (d < (a.length:Int))) then ((idx a d).bind fun e =>
 (idx b d).bind fun f =>
 bif (!(e.toList==f.toList)) then (some false)
 else (z12_l2 a b c) (w64 (d+1)))
 else z12_k1
def z12 (N:Nat) (a:(List ByteArray)) (b:(List ByteArray)):Option Bool :=
 bif ((a.length:Int) != (b.length:Int)) then (some false)
 else z12_l2 a b N 0
def z26 (N:Nat) (a:Int):Option T12 :=
 some (⟨1,a,(str [])⟩:T12)
def z25_k1:Option Bool :=
 some true
def z25_l2 (a:(List T12)) (b:(List T12)):Nat→Int→Option Bool
 | 0,_=>none
 | c+1,d =>
 bif (decide (d < (a.length:Int))) then ((idx a d).bind fun e =>
 (idx b d).bind fun f =>
 bif (!((e.Kind==f.Kind) && ((e.N==f.N) && ((e.S.toList==f.S.toList) && true)))) then (some false)
 else (z25_l2 a b c) (w64 (d+1)))
 else z25_k1
def z25 (N:Nat) (a:(List T12)) (b:(List T12)):Option Bool :=
 bif ((a.length:Int) != (b.length:Int)) then (some false)
 else z25_l2 a b N 0
def z8 (N:Nat):Option Bool :=
 (z10 N (⟨(str [80]),([(str [97]),(str [98])]:List ByteArray),([(⟨(str [97,115,107]),([(⟨(str [110]),(⟨1,0,9⟩:T10)⟩:T4)]:List T4),0,(⟨([]:List T1),([]:List (Int × Int))⟩:T6)⟩:T0)]:List T0),2,0,1,([(⟨0,(⟨0,1,0⟩:T7),1,false⟩:T2)]:List T2),([]:List T11)⟩:T5) (⟨0,2,0,([false,true]:List Bool),([(⟨0,true,1,0,1,false⟩:T9)]:List T9),([]:List T11)⟩:T8) 0).bind fun a =>
 (z15 N (⟨(str [80]),([(str [97]),(str [98])]:List ByteArray),([(⟨(str [97,115,107]),([(⟨(str [110]),(⟨1,0,9⟩:T10)⟩:T4)]:List T4),0,(⟨([]:List T1),([]:List (Int × Int))⟩:T6)⟩:T0)]:List T0),2,0,1,([(⟨0,(⟨0,1,0⟩:T7),1,false⟩:T2)]:List T2),([]:List T11)⟩:T5) (⟨0,2,0,([false,true]:List Bool),([(⟨0,true,1,0,1,false⟩:T9)]:List T9),([]:List T11)⟩:T8) ([]:List T3) (⟨0,true,1,0,([]:List T12)⟩:T3)).bind fun b =>
 (z24 N (⟨(str [80]),([(str [97]),(str [98])]:List ByteArray),([(⟨(str [97,115,107]),([(⟨(str [110]),(⟨1,0,9⟩:T10)⟩:T4)]:List T4),0,(⟨([]:List T1),([]:List (Int × Int))⟩:T6)⟩:T0)]:List T0),2,0,1,([(⟨0,(⟨0,1,0⟩:T7),1,false⟩:T2)]:List T2),([]:List T11)⟩:T5) (⟨0,2,0,([false,true]:List Bool),([(⟨0,true,1,0,1,false⟩:T9)]:List T9),([]:List T11)⟩:T8)).bind fun c =>
 (z20 N (⟨(str [80]),([(str [97]),(str [98])]:List ByteArray),([(⟨(str [97,115,107]),([(⟨(str [110]),(⟨1,0,9⟩:T10)⟩:T4)]:List T4),0,(⟨([]:List T1),([]:List (Int × Int))⟩:T6)⟩:T0)]:List T0),2,0,1,([(⟨0,(⟨0,1,0⟩:T7),1,false⟩:T2)]:List T2),([]:List T11)⟩:T5) (⟨0,2,0,([false,true]:List Bool),([(⟨0,true,1,0,1,false⟩:T9)]:List T9),([]:List T11)⟩:T8) c).bind fun d =>
 bif (a.2==0) then (bif (b.2==0) then ((z12 N a.1 ([(str [115,101,110,100,32,97,115,107,40,110,58,32,105,110,116,32,48,32,46,46,32,57,41,32,116,111,32,98])]:List ByteArray)).bind fun e =>
 bif e then (bif (b.1.toList==(str [97,32,115,101,110,100,115,32,97,115,107,40,41,32,116,111,32,98,32,104,97,115,32,48,32,118,97,108,117,101,115,32,105,110,115,116,101,97,100,32,111,102,32,49,59,32,112,101,114,109,105,116,116,101,100,58,32,115,101,110,100,32,97,115,107,40,110,58,32,105,110,116,32,48,32,46,46,32,57,41,32,116,111,32,98]).toList) then (bif ((d.length:Int)==1) then ((idx d 0).bind fun f =>
 (z26 N 0).bind fun g =>
 (z25 N f.Values ([g]:List T12)).bind fun h =>
 some h)
 else some false)
 else some false)
 else some false)
 else some false)
 else some false
def z62_k1 (a:(List T0)) (b:Int):Option Bool :=
 bif (decide ((a.length:Int)≤60)) then (some (decide (b≤100)))
 else some false
def z62_l2 (a:(List T0)):Nat→Int→Int→Option Bool
 | 0,_,_=>none
 | b+1,c,d =>
 bif (decide (d < (a.length:Int))) then ((idx a d).bind fun e =>
 (idx a d).bind fun f =>
 (idx a d).bind fun g =>
 (z62_l2 a b) (w64 (c+(w64 ((w64 ((e.Fields.length:Int)+(f.Guard.Diffs.length:Int)))+(g.Guard.Equals.length:Int))))) (w64 (d+1)))
 else z62_k1 a c
def z62 (N:Nat) (a:(List T0)):Option Bool :=
 z62_l2 a N 0 0
def z27 (N:Nat) (a:T5):Option Bool :=
 bif (decide (a.States≤40)) then (bif (decide ((a.Edges.length:Int)≤80)) then (bif (decide ((a.Timeouts.length:Int)≤40)) then (bif (decide ((a.Roles.length:Int)≤10)) then ((z62 N a.Decls).bind fun b =>
 some b)
 else some false)
 else some false)
 else some false)
 else some false
def z28 (N:Nat) (a:T8):Option Bool :=
 bif (decide (a.States≤40)) then (bif (decide ((a.Finals.length:Int)≤45)) then (bif (decide ((a.Moves.length:Int)≤80)) then (some (decide ((a.Timeouts.length:Int)≤45)))
 else some false)
 else some false)
 else some false
def z63_k1 (a:(List T12)):Option Bool :=
 some (decide ((a.length:Int)≤40))
def z63_l2 (a:(List T12)):Nat→Int→Option Bool
 | 0,_=>none
 | b+1,c =>
 bif (decide (c < (a.length:Int))) then ((idx a c).bind fun d =>
 bif (decide ((d.S.size:Int) > 100)) then (some false)
 else (z63_l2 a b) (w64 (c+1)))
 else z63_k1 a
def z63 (N:Nat) (a:(List T12)):Option Bool :=
 z63_l2 a N 0
def z29_k1 (a:(List T3)):Option Bool :=
 some (decide ((a.length:Int)≤30))
def z29_l2 (N:Nat) (a:(List T3)):Nat→Int→Option Bool
 | 0,_=>none
 | b+1,c =>
 bif (decide (c < (a.length:Int))) then ((idx a c).bind fun d =>
 (z63 N d.Values).bind fun e =>
 bif (!e) then (some false)
 else (z29_l2 N a b) (w64 (c+1)))
 else z29_k1 a
def z29 (N:Nat) (a:(List T3)):Option Bool :=
 z29_l2 N a N 0
def z9 (N:Nat) (a:T5) (b:T8) (c:(List T3)):Option Bool :=
 (z27 N a).bind fun d =>
 bif d then ((z28 N b).bind fun e =>
 bif e then ((z29 N c).bind fun f =>
 some f)
 else some false)
 else some false
def ref09_letter (N:Nat) (a:Int):Option Bool :=
 bif (decide (a≥97)) then (bif (decide (a≤122)) then (some true)
 else bif (decide (a≥65)) then (some (decide (a≤90)))
 else some false)
 else bif (decide (a≥65)) then (some (decide (a≤90)))
 else some false
def ref09_digit (N:Nat) (a:Int):Option Bool :=
 bif (decide (a≥48)) then (some (decide (a≤57)))
 else some false
def ref09_inner (N:Nat) (a:Int):Option Bool :=
 (ref09_letter N a).bind fun b =>
 bif b then (some true)
 else (ref09_digit N a).bind fun c =>
 bif c then (some true)
 else some (a==95)
def ref09_IsName_k1:Option Bool :=
 some true
def ref09_IsName_l2 (N:Nat) (a:ByteArray):Nat→Int→Option Bool
 | 0,_=>none
 | b+1,c =>
 bif (decide (c < (a.size:Int))) then ((sidx a c).bind fun d =>
 (ref09_inner N d).bind fun e =>
 bif (!e) then (some false)
 else (ref09_IsName_l2 N a b) (w64 (c+1)))
 else ref09_IsName_k1
def ref09_IsName (N:Nat) (a:ByteArray):Option Bool :=
 bif (a.toList==(str []).toList) then (some false)
 else (sidx a 0).bind fun b =>
 (ref09_letter N b).bind fun c =>
 bif (!c) then (some false)
 else bif (decide ((a.size:Int) > 16)) then (some false)
 else ref09_IsName_l2 N a N 0
def ref09_Keywords (N:Nat):Option (List ByteArray) :=
 some ([(str [97,103,97,105,110]),(str [97,110,100]),(str [97,115]),(str [97,116]),(str [99,97,108,108]),(str [99,104,111,105,99,101]),(str [101,108,115,101]),(str [102,114,111,109]),(str [105,102]),(str [105,110,116]),(str [108,101,110]),(str [108,111,111,112]),(str [109,101,115,115,97,103,101]),(str [111,102]),(str [111,102,102,101,114]),(str [111,110]),(str [111,114]),(str [112,97,114]),(str [112,108,97,121,115]),(str [112,114,111,116,111,99,111,108]),(str [115,101,114,118,105,99,101]),(str [116,101,120,116]),(str [116,105,109,101,115]),(str [116,111]),(str [118,97,114]),(str [119,104,101,114,101]),(str [119,104,105,108,101]),(str [119,105,116,104,105,110])]:List ByteArray)
def ref09_in_k1:Option Bool :=
 some false
def ref09_in_l2 (a:(List ByteArray)) (b:ByteArray):Nat→Int→Option Bool
 | 0,_=>none
 | c+1,d =>
 bif (decide (d < (a.length:Int))) then ((idx a d).bind fun e =>
 bif (e.toList==b.toList) then (some true)
 else (ref09_in_l2 a b c) (w64 (d+1)))
 else ref09_in_k1
def ref09_in (N:Nat) (a:(List ByteArray)) (b:ByteArray):Option Bool :=
 ref09_in_l2 a b N 0
def ref09_IsWord (N:Nat) (a:ByteArray):Option Bool :=
 (ref09_IsName N a).bind fun b =>
 bif b then ((ref09_Keywords N).bind fun c =>
 (ref09_in N c a).bind fun d =>
 some (!d))
 else some false
def ref18_index_k1:Option Int :=
 some (-1)
def ref18_index_l2 (a:(List ByteArray)) (b:ByteArray):Nat→Int→Option Int
 | 0,_=>none
 | c+1,d =>
 bif (decide (d < (a.length:Int))) then ((idx a d).bind fun e =>
 bif (e.toList==b.toList) then (some d)
 else (ref18_index_l2 a b c) (w64 (d+1)))
 else ref18_index_k1
def ref18_index (N:Nat) (a:(List ByteArray)) (b:ByteArray):Option Int :=
 ref18_index_l2 a b N 0
def ref14_Vars_k1 (a:Int):Option Int :=
 some a
def ref14_Vars_l2 (a:(List T0)):Nat→Int→Int→Option Int
 | 0,_,_=>none
 | b+1,c,d =>
 bif (decide (d < (a.length:Int))) then ((idx a d).bind fun e =>
 (ref14_Vars_l2 a b) (w64 (c+(e.Fields.length:Int))) (w64 (d+1)))
 else ref14_Vars_k1 c
def ref14_Vars (N:Nat) (a:(List T0)):Option Int :=
 ref14_Vars_l2 a N 0 0
def ref14_goodSort_k1 (a:T10) (b:Int) (c:Int):Option Bool :=
 bif (a.Kind==1) then (bif (decide (a.Lo≥b)) then (bif (decide (a.Hi≤c)) then (some (decide (a.Lo≤a.Hi)))
 else some false)
 else some false)
 else bif (a.Kind==2) then (bif (decide (a.Lo≥b)) then (bif (decide (a.Hi≤c)) then (some (decide (a.Lo≤a.Hi)))
 else some false)
 else some false)
 else some false
def ref14_goodSort (N:Nat) (a:T10):Option Bool :=
 bif (a.Kind==2) then (ref14_goodSort_k1 a 0 40)
 else ref14_goodSort_k1 a (-1000) 1000
def ref10_word (N:Nat) (a:ByteArray):Option Bool :=
 (ref09_IsWord N a).bind fun b =>
 some b
def ref10_IsPath_k1 (a:ByteArray):Option Bool :=
 some (decide ((a.size:Int)≤50))
def ref10_IsPath_k3 (N:Nat) (a:ByteArray) (b:Int) (c:Int) (d:Int→Int→Option Bool) (e:Bool):Option Bool :=
 bif e then ((ssl a (some b) (some c)).bind fun f =>
 (ref10_word N f).bind fun g =>
 bif (!g) then (some false)
 else d (w64 (c+1)) (w64 (c+1)))
 else d b (w64 (c+1))
def ref10_IsPath_l2 (N:Nat) (a:ByteArray):Nat→Int→Int→Option Bool
 | 0,_,_=>none
 | b+1,c,d =>
 bif (decide (d≤(a.size:Int))) then (bif (d==(a.size:Int)) then (ref10_IsPath_k3 N a c d (ref10_IsPath_l2 N a b) true)
 else (sidx a d).bind fun e =>
 ref10_IsPath_k3 N a c d (ref10_IsPath_l2 N a b) (e==46))
 else ref10_IsPath_k1 a
def ref10_IsPath (N:Nat) (a:ByteArray):Option Bool :=
 ref10_IsPath_l2 N a N 0 0
def ref14_Field_k1:Option T4 :=
 some (⟨(str []),(⟨0,0,0⟩:T10)⟩:T4)
def ref14_Field_l2 (a:(List T0)):Nat→Int→Int→Option T4
 | 0,_,_=>none
 | b+1,c,d =>
 bif (decide (d < (a.length:Int))) then ((idx a d).bind fun e =>
 bif (decide (c < (e.Fields.length:Int))) then ((idx a d).bind fun f =>
 (idx f.Fields c).bind fun g =>
 some g)
 else (idx a d).bind fun h =>
 (ref14_Field_l2 a b) (w64 (c-(h.Fields.length:Int))) (w64 (d+1)))
 else ref14_Field_k1
def ref14_Field (N:Nat) (a:(List T0)) (b:Int):Option T4 :=
 ref14_Field_l2 a N b 0
def ref14_text (N:Nat) (a:(List T0)) (b:Int):Option Bool :=
 bif (decide (b≥0)) then ((ref14_Vars N a).bind fun c =>
 bif (decide (b < c)) then ((ref14_Field N a b).bind fun d =>
 some (d.Sort'.Kind==2))
 else some false)
 else some false
def ref14_goodGuard_k1 (a:T6):Option Bool :=
 bif (decide ((a.Diffs.length:Int)≤20)) then (some (decide ((a.Equals.length:Int)≤20)))
 else some false
def ref14_goodGuard_l2 (N:Nat) (a:(List T0)) (b:T6):Nat→Int→Option Bool
 | 0,_=>none
 | c+1,d =>
 bif (decide (d < (b.Equals.length:Int))) then ((idx b.Equals d).bind fun e =>
 (ref14_text N a e.1).bind fun f =>
 bif (!f) then (some false)
 else (idx b.Equals d).bind fun g =>
 (ref14_text N a g.2).bind fun h =>
 bif (!h) then (some false)
 else (ref14_goodGuard_l2 N a b c) (w64 (d+1)))
 else ref14_goodGuard_k1 b
def ref14_goodGuard_k3 (N:Nat) (a:(List T0)) (b:T6):Option Bool :=
 ref14_goodGuard_l2 N a b N 0
def ref14_goodGuard_l4 (N:Nat) (a:(List T0)) (b:T6) (c:Int):Nat→Int→Option Bool
 | 0,_=>none
 | d+1,e =>
 bif (decide (e < (b.Diffs.length:Int))) then ((idx b.Diffs e).bind fun f =>
 bif (decide (f.X < (-1))) then (some false)
 else bif (decide (f.X≥c)) then (some false)
 else bif (decide (f.Y < (-1))) then (some false)
 else bif (decide (f.Y≥c)) then (some false)
 else bif (decide (f.C < (-20000))) then (some false)
 else bif (decide (f.C > 20000)) then (some false)
 else (ref14_goodGuard_l4 N a b c d) (w64 (e+1)))
 else ref14_goodGuard_k3 N a b
def ref14_goodGuard (N:Nat) (a:(List T0)) (b:T6):Option Bool :=
 (ref14_Vars N a).bind fun c =>
 ref14_goodGuard_l4 N a b c N 0
def ref14_Valid_k1:Option Bool :=
 some true
def ref14_Valid_k3 (N:Nat) (a:(List T0)) (b:Int) (c:Int) (d:Int→Int→Option Bool) (e:T0):Option Bool :=
 (ref10_IsPath N e.Name).bind fun f =>
 bif (!f) then (some false)
 else bif (decide ((e.Fields.length:Int) > 4)) then (some false)
 else bif (e.First != b) then (some false)
 else (ref14_goodGuard N a e.Guard).bind fun g =>
 bif (!g) then (some false)
 else d (w64 (b+(e.Fields.length:Int))) (w64 (c+1))
def ref14_Valid_k5 (a:Int) (b:Int→Option Bool):Option Bool :=
 b (w64 (a+1))
def ref14_Valid_l6 (a:T0) (b:Int) (c:Int→Option Bool):Nat→Int→Option Bool
 | 0,_=>none
 | d+1,e =>
 bif (decide (e < b)) then ((idx a.Fields e).bind fun f =>
 (idx a.Fields b).bind fun g =>
 bif (f.Name.toList==g.Name.toList) then (some false)
 else (ref14_Valid_l6 a b c d) (w64 (e+1)))
 else ref14_Valid_k5 b c
def ref14_Valid_l4 (N:Nat) (a:(List T0)) (b:Int) (c:Int) (d:Int→Int→Option Bool) (e:T0):Nat→Int→Option Bool
 | 0,_=>none
 | f+1,g =>
 bif (decide (g < (e.Fields.length:Int))) then ((idx e.Fields g).bind fun h =>
 (ref14_goodSort N h.Sort').bind fun i =>
 bif (!i) then (some false)
 else (idx e.Fields g).bind fun j =>
 (ref09_IsWord N j.Name).bind fun k =>
 bif (!k) then (some false)
 else ref14_Valid_l6 e g (ref14_Valid_l4 N a b c d e f) N 0)
 else ref14_Valid_k3 N a b c d e
def ref14_Valid_k7 (N:Nat) (a:(List T0)) (b:Int) (c:Int) (d:Int→Int→Option Bool) (e:T0):Option Bool :=
 ref14_Valid_l4 N a b c d e N 0
def ref14_Valid_l8 (N:Nat) (a:(List T0)) (b:Int) (c:Int) (d:Int→Int→Option Bool) (e:T0):Nat→Int→Option Bool
 | 0,_=>none
 | f+1,g =>
 bif (decide (g < c)) then ((idx a g).bind fun h =>
 bif (h.Name.toList==e.Name.toList) then (some false)
 else (ref14_Valid_l8 N a b c d e f) (w64 (g+1)))
 else ref14_Valid_k7 N a b c d e
def ref14_Valid_l2 (N:Nat) (a:(List T0)):Nat→Int→Int→Option Bool
 | 0,_,_=>none
 | b+1,c,d =>
 bif (decide (d < (a.length:Int))) then ((idx a d).bind fun e =>
 ref14_Valid_l8 N a c d (ref14_Valid_l2 N a b) e N 0)
 else ref14_Valid_k1
def ref14_Valid (N:Nat) (a:(List T0)):Option Bool :=
 bif (decide ((a.length:Int) > 40)) then (some false)
 else (ref14_Vars N a).bind fun b =>
 bif (decide (b > 24)) then (some false)
 else ref14_Valid_l2 N a N 0 0
def ref18_names_k1 (N:Nat) (a:T5):Option Bool :=
 (ref09_IsWord N a.Name).bind fun b =>
 bif b then (bif (decide ((a.Roles.length:Int)≥1)) then (bif (decide ((a.Roles.length:Int)≤6)) then ((ref14_Valid N a.Decls).bind fun c =>
 some c)
 else some false)
 else some false)
 else some false
def ref18_names_l2 (N:Nat) (a:T5):Nat→Int→Option Bool
 | 0,_=>none
 | b+1,c =>
 bif (decide (c < (a.Roles.length:Int))) then ((idx a.Roles c).bind fun d =>
 (ref09_IsWord N d).bind fun e =>
 bif (!e) then (some false)
 else (idx a.Roles c).bind fun f =>
 (ref18_index N a.Roles f).bind fun g =>
 bif (decide (g < c)) then (some false)
 else (ref18_names_l2 N a b) (w64 (c+1)))
 else ref18_names_k1 N a
def ref18_names (N:Nat) (a:T5):Option Bool :=
 ref18_names_l2 N a N 0
def ref18_state (N:Nat) (a:T5) (b:Int):Option Bool :=
 bif (decide (b≥0)) then (some (decide (b < a.States)))
 else some false
def ref18_numbers_k1 (N:Nat) (a:T5):Option Bool :=
 bif (decide (a.States≥1)) then (bif (decide (a.States≤200)) then ((ref18_state N a a.Start).bind fun b =>
 bif b then ((ref18_state N a a.End).bind fun c =>
 bif c then (some (decide ((a.Edges.length:Int)≤400)))
 else some false)
 else some false)
 else some false)
 else some false
def ref18_numbers_l2 (N:Nat) (a:T5):Nat→Int→Option Bool
 | 0,_=>none
 | b+1,c =>
 bif (decide (c < (a.Edges.length:Int))) then ((idx a.Edges c).bind fun d =>
 (ref18_state N a d.From).bind fun e =>
 bif (!e) then (some false)
 else (ref18_state N a d.To).bind fun f =>
 bif (!f) then (some false)
 else bif (decide (d.Act.From < 0)) then (some false)
 else bif (decide (d.Act.From≥(a.Roles.length:Int))) then (some false)
 else bif (decide (d.Act.To < 0)) then (some false)
 else bif (decide (d.Act.To≥(a.Roles.length:Int))) then (some false)
 else bif (d.Act.From==d.Act.To) then (some false)
 else bif (decide (d.Act.Label < 0)) then (some false)
 else bif (decide (d.Act.Label≥(a.Decls.length:Int))) then (some false)
 else (ref18_numbers_l2 N a b) (w64 (c+1)))
 else ref18_numbers_k1 N a
def ref18_numbers (N:Nat) (a:T5):Option Bool :=
 ref18_numbers_l2 N a N 0
def ref18_apart_k1:Option Bool :=
 some true
def ref18_apart_k3 (a:Int) (b:Int→Option Bool):Option Bool :=
 b (w64 (a+1))
def ref18_apart_k5 (a:T2) (b:Int) (c:Int→Option Bool) (d:T2) (e:Bool):Option Bool :=
 bif e then (some false)
 else bif a.Again then (bif (d.To==a.From) then (bif (d.Act.From != a.Act.From) then (some false)
 else bif (d.Act.Label != a.Act.Label) then (some false)
 else c (w64 (b+1)))
 else c (w64 (b+1)))
 else c (w64 (b+1))
def ref18_apart_l4 (a:T5) (b:Int) (c:Int→Option Bool) (d:T2):Nat→Int→Option Bool
 | 0,_=>none
 | e+1,f =>
 bif (decide (f < (a.Edges.length:Int))) then ((idx a.Edges f).bind fun g =>
 bif (f != b) then (bif (d.From==g.From) then (bif ((d.Act.From==g.Act.From) && ((d.Act.To==g.Act.To) && ((d.Act.Label==g.Act.Label) && true))) then (ref18_apart_k5 d f (ref18_apart_l4 a b c d e) g true)
 else bif (d.Act.From != g.Act.From) then (ref18_apart_k5 d f (ref18_apart_l4 a b c d e) g true)
 else ref18_apart_k5 d f (ref18_apart_l4 a b c d e) g d.Again)
 else ref18_apart_k5 d f (ref18_apart_l4 a b c d e) g false)
 else ref18_apart_k5 d f (ref18_apart_l4 a b c d e) g false)
 else ref18_apart_k3 b c
def ref18_apart_k6 (N:Nat) (a:T5) (b:Int) (c:Int→Option Bool) (d:T2) (e:Bool):Option Bool :=
 bif e then (some false)
 else ref18_apart_l4 a b c d N 0
def ref18_apart_l2 (N:Nat) (a:T5):Nat→Int→Option Bool
 | 0,_=>none
 | b+1,c =>
 bif (decide (c < (a.Edges.length:Int))) then ((idx a.Edges c).bind fun d =>
 bif d.Again then (ref18_apart_k6 N a c (ref18_apart_l2 N a b) d (d.From==a.Start))
 else ref18_apart_k6 N a c (ref18_apart_l2 N a b) d false)
 else ref18_apart_k1
def ref18_apart (N:Nat) (a:T5):Option Bool :=
 ref18_apart_l2 N a N 0
def ref18_ends_k1 (a:(List Int)):Option (List Int) :=
 some a
def ref18_ends_k3 (a:Int) (b:(List Int)→Int→Option (List Int)) (c:(List Int)):Option (List Int) :=
 b c (w64 (a+1))
def ref18_ends_l4 (a:T5) (b:Int) (c:(List Int)→Int→Option (List Int)):Nat→(List Int)→Int→Option (List Int)
 | 0,_,_=>none
 | d+1,e,f =>
 bif (decide (f < (a.Edges.length:Int))) then ((idx a.Edges f).bind fun g =>
 (idx e g.To).bind fun h =>
 bif (h==b) then ((idx e g.From).bind fun i =>
 bif (decide (i < 0)) then ((idx e g.From).bind fun j =>
 (ref18_ends_l4 a b c d) (setL' e g.From (w64 (b+1))) (w64 (f+1)))
 else (ref18_ends_l4 a b c d) e (w64 (f+1)))
 else (ref18_ends_l4 a b c d) e (w64 (f+1)))
 else ref18_ends_k3 b c e
def ref18_ends_l2 (N:Nat) (a:T5):Nat→(List Int)→Int→Option (List Int)
 | 0,_,_=>none
 | b+1,c,d =>
 bif (decide (d < a.States)) then (ref18_ends_l4 a d (ref18_ends_l2 N a b) N c 0)
 else ref18_ends_k1 c
def ref18_ends_k5 (N:Nat) (a:T5) (b:(List Int)):Option (List Int) :=
 (idx b a.End).bind fun c =>
 ref18_ends_l2 N a N (setL' b a.End 0) 0
def ref18_ends_l6 (N:Nat) (a:T5):Nat→(List Int)→Int→Option (List Int)
 | 0,_,_=>none
 | b+1,c,d =>
 bif (decide (d < a.States)) then ((idx c d).bind fun e =>
 (ref18_ends_l6 N a b) (setL' c d (-1)) (w64 (d+1)))
 else ref18_ends_k5 N a c
def ref18_ends (N:Nat) (a:T5):Option (List Int) :=
 (mkL 0 a.States a.States).bind fun b =>
 ref18_ends_l6 N a N b 0
def ref18_before (N:Nat) (a:T5) (b:Int) (c:Int):Option Bool :=
 (idx a.Edges b).bind fun d =>
 (idx a.Edges c).bind fun e =>
 bif (d.Act.To != e.Act.To) then (some (decide (d.Act.To < e.Act.To)))
 else bif (d.Act.Label != e.Act.Label) then (some (decide (d.Act.Label < e.Act.Label)))
 else some (decide (b < c))
def ref18_Edges_k1 (a:(List Int)):Option (List Int) :=
 some a
def ref18_Edges_k3 (a:(List Int)) (b:Int) (c:(List Int)→Int→Option (List Int)) (d:Int):Option (List Int) :=
 (lsl a none (some d)).bind fun e =>
 (lsl a (some d) none).bind fun f =>
 (appL ([b]:List Int) f).bind fun g =>
 (appL e g).bind fun h =>
 c h (w64 (b+1))
def ref18_Edges_l4 (N:Nat) (a:T5) (b:(List Int)) (c:Int) (d:(List Int)→Int→Option (List Int)):Nat→Int→Option (List Int)
 | 0,_=>none
 | e+1,f =>
 bif (decide (f < (b.length:Int))) then ((idx b f).bind fun g =>
 (ref18_before N a g c).bind fun h =>
 bif h then ((ref18_Edges_l4 N a b c d e) (w64 (f+1)))
 else ref18_Edges_k3 b c d f)
 else ref18_Edges_k3 b c d f
def ref18_Edges_l2 (N:Nat) (a:T5) (b:Int):Nat→(List Int)→Int→Option (List Int)
 | 0,_,_=>none
 | c+1,d,e =>
 bif (decide (e < (a.Edges.length:Int))) then ((idx a.Edges e).bind fun f =>
 bif (f.From != b) then ((ref18_Edges_l2 N a b c) d (w64 (e+1)))
 else ref18_Edges_l4 N a d e (ref18_Edges_l2 N a b c) N 0)
 else ref18_Edges_k1 d
def ref18_Edges (N:Nat) (a:T5) (b:Int):Option (List Int) :=
 ref18_Edges_l2 N a b N ([]:List Int) 0
def ref18_connected_k1 (N:Nat) (a:T5):Option Bool :=
 (ref18_Edges N a a.End).bind fun b =>
 some ((b.length:Int)==0)
def ref18_connected_l2 (N:Nat) (a:T5) (b:(List Bool)) (c:(List Int)):Nat→Int→Option Bool
 | 0,_=>none
 | d+1,e =>
 bif (decide (e < a.States)) then ((idx b e).bind fun f =>
 bif (!f) then (some false)
 else (idx c e).bind fun g =>
 bif (decide (g < 0)) then (some false)
 else (ref18_connected_l2 N a b c d) (w64 (e+1)))
 else ref18_connected_k1 N a
def ref18_connected_k3 (N:Nat) (a:T5) (b:(List Bool)):Option Bool :=
 (ref18_ends N a).bind fun c =>
 ref18_connected_l2 N a b c N 0
def ref18_connected_k5 (a:Int) (b:(List Bool)→Int→Option Bool) (c:(List Bool)):Option Bool :=
 b c (w64 (a+1))
def ref18_connected_l6 (a:T5) (b:Int) (c:(List Bool)→Int→Option Bool):Nat→(List Bool)→Int→Option Bool
 | 0,_,_=>none
 | d+1,e,f =>
 bif (decide (f < (a.Edges.length:Int))) then ((idx a.Edges f).bind fun g =>
 (idx a.Edges f).bind fun h =>
 (idx e h.To).bind fun i =>
 bif i then ((idx e g.To).bind fun j =>
 (ref18_connected_l6 a b c d) (setL' e g.To true) (w64 (f+1)))
 else (idx a.Edges f).bind fun k =>
 (idx e k.From).bind fun l =>
 (idx e g.To).bind fun m =>
 (ref18_connected_l6 a b c d) (setL' e g.To l) (w64 (f+1)))
 else ref18_connected_k5 b c e
def ref18_connected_l4 (N:Nat) (a:T5):Nat→(List Bool)→Int→Option Bool
 | 0,_,_=>none
 | b+1,c,d =>
 bif (decide (d < a.States)) then (ref18_connected_l6 a d (ref18_connected_l4 N a b) N c 0)
 else ref18_connected_k3 N a c
def ref18_connected (N:Nat) (a:T5):Option Bool :=
 (mkL false a.States a.States).bind fun b =>
 (idx b a.Start).bind fun c =>
 ref18_connected_l4 N a N (setL' b a.Start true) 0
def ref18_timed_k1:Option Bool :=
 some true
def ref18_timed_l2 (N:Nat) (a:T5):Nat→Int→Option Bool
 | 0,_=>none
 | b+1,c =>
 bif (decide (c < (a.Timeouts.length:Int))) then ((idx a.Timeouts c).bind fun d =>
 (ref18_state N a d.State).bind fun e =>
 bif (!e) then (some false)
 else bif (decide (c > 0)) then ((idx a.Timeouts (w64 (c-1))).bind fun f =>
 bif (decide (d.State≤f.State)) then (some false)
 else bif (decide (d.Ticks < 1)) then (some false)
 else bif (decide (d.Ticks > 1000)) then (some false)
 else bif (decide (d.Else < 0)) then (some false)
 else bif (decide (d.Else≥(a.Edges.length:Int))) then (some false)
 else (idx a.Edges d.Else).bind fun g =>
 bif (g.From != d.State) then (some false)
 else (idx a.Edges d.Else).bind fun h =>
 bif h.Again then (some false)
 else (ref18_timed_l2 N a b) (w64 (c+1)))
 else bif (decide (d.Ticks < 1)) then (some false)
 else bif (decide (d.Ticks > 1000)) then (some false)
 else bif (decide (d.Else < 0)) then (some false)
 else bif (decide (d.Else≥(a.Edges.length:Int))) then (some false)
 else (idx a.Edges d.Else).bind fun i =>
 bif (i.From != d.State) then (some false)
 else (idx a.Edges d.Else).bind fun j =>
 bif j.Again then (some false)
 else (ref18_timed_l2 N a b) (w64 (c+1)))
 else ref18_timed_k1
def ref18_timed (N:Nat) (a:T5):Option Bool :=
 ref18_timed_l2 N a N 0
def ref18_Valid (N:Nat) (a:T5):Option Bool :=
 (ref18_names N a).bind fun b =>
 bif b then ((ref18_numbers N a).bind fun c =>
 bif c then ((ref18_apart N a).bind fun d =>
 bif d then ((ref18_connected N a).bind fun e =>
 bif e then ((ref18_timed N a).bind fun f =>
 some f)
 else some false)
 else some false)
 else some false)
 else some false
def ref26_numbers_k1:Option Bool :=
 some true
def ref26_numbers_l2 (a:T8):Nat→Int→Option Bool
 | 0,_=>none
 | b+1,c =>
 bif (decide (c < (a.Moves.length:Int))) then ((idx a.Moves c).bind fun d =>
 bif (decide (d.From < 0)) then (some false)
 else bif (decide (d.From≥a.States)) then (some false)
 else bif (decide (d.To < 0)) then (some false)
 else bif (decide (d.To≥a.States)) then (some false)
 else bif (decide (d.Peer < 0)) then (some false)
 else bif (decide (d.Peer≥6)) then (some false)
 else bif (d.Peer==a.Role) then (some false)
 else bif (decide (d.Label < 0)) then (some false)
 else bif (decide (d.Label≥40)) then (some false)
 else (ref26_numbers_l2 a b) (w64 (c+1)))
 else ref26_numbers_k1
def ref26_numbers (N:Nat) (a:T8):Option Bool :=
 bif (decide (a.Role < 0)) then (some false)
 else bif (decide (a.Role≥6)) then (some false)
 else bif (decide (a.States < 1)) then (some false)
 else bif (decide (a.States > 200)) then (some false)
 else bif (decide (a.Start < 0)) then (some false)
 else bif (decide (a.Start≥a.States)) then (some false)
 else bif ((a.Finals.length:Int) != a.States) then (some false)
 else bif (decide ((a.Moves.length:Int) > 400)) then (some false)
 else ref26_numbers_l2 a N 0
def ref26_apart_k1:Option Bool :=
 some true
def ref26_apart_k3 (a:Int) (b:Int→Option Bool):Option Bool :=
 b (w64 (a+1))
def ref26_apart_k5 (a:T9) (b:Int) (c:Int→Option Bool) (d:T9) (e:Bool):Option Bool :=
 bif e then (some false)
 else bif a.Again then (bif (d.To==a.From) then (bif (!d.Send) then (some false)
 else bif (d.Label != a.Label) then (some false)
 else c (w64 (b+1)))
 else c (w64 (b+1)))
 else c (w64 (b+1))
def ref26_apart_l4 (a:T8) (b:Int) (c:Int→Option Bool) (d:T9):Nat→Int→Option Bool
 | 0,_=>none
 | e+1,f =>
 bif (decide (f < (a.Moves.length:Int))) then ((idx a.Moves f).bind fun g =>
 bif (f != b) then (bif (d.From==g.From) then (bif (!(d.Send==g.Send)) then (ref26_apart_k5 d f (ref26_apart_l4 a b c d e) g true)
 else bif (d.Peer==g.Peer) then (bif (d.Label==g.Label) then (ref26_apart_k5 d f (ref26_apart_l4 a b c d e) g true)
 else ref26_apart_k5 d f (ref26_apart_l4 a b c d e) g d.Again)
 else ref26_apart_k5 d f (ref26_apart_l4 a b c d e) g d.Again)
 else ref26_apart_k5 d f (ref26_apart_l4 a b c d e) g false)
 else ref26_apart_k5 d f (ref26_apart_l4 a b c d e) g false)
 else ref26_apart_k3 b c
def ref26_apart_k6 (N:Nat) (a:T8) (b:Int) (c:Int→Option Bool) (d:T9) (e:Bool):Option Bool :=
 bif e then (some false)
 else ref26_apart_l4 a b c d N 0
def ref26_apart_l2 (N:Nat) (a:T8):Nat→Int→Option Bool
 | 0,_=>none
 | b+1,c =>
 bif (decide (c < (a.Moves.length:Int))) then ((idx a.Moves c).bind fun d =>
 bif d.Again then (bif (!d.Send) then (ref26_apart_k6 N a c (ref26_apart_l2 N a b) d true)
 else bif (d.From==a.Start) then (ref26_apart_k6 N a c (ref26_apart_l2 N a b) d true)
 else (idx a.Finals d.From).bind fun e =>
 ref26_apart_k6 N a c (ref26_apart_l2 N a b) d e)
 else ref26_apart_k6 N a c (ref26_apart_l2 N a b) d false)
 else ref26_apart_k1
def ref26_apart (N:Nat) (a:T8):Option Bool :=
 ref26_apart_l2 N a N 0
def ref26_timed_k1:Option Bool :=
 some true
def ref26_timed_k3 (a:T8) (b:Int) (c:Int→Option Bool) (d:T11) (e:Bool):Option Bool :=
 bif e then (some false)
 else (idx a.Moves d.Else).bind fun f =>
 bif (f.From != d.State) then (some false)
 else bif (!f.Send) then (some false)
 else bif f.Again then (some false)
 else c (w64 (b+1))
def ref26_timed_l2 (a:T8):Nat→Int→Option Bool
 | 0,_=>none
 | b+1,c =>
 bif (decide (c < (a.Timeouts.length:Int))) then ((idx a.Timeouts c).bind fun d =>
 bif (decide (d.Ticks < 1)) then (ref26_timed_k3 a c (ref26_timed_l2 a b) d true)
 else bif (decide (d.Ticks > 1000)) then (ref26_timed_k3 a c (ref26_timed_l2 a b) d true)
 else bif (decide (d.Else < 0)) then (ref26_timed_k3 a c (ref26_timed_l2 a b) d true)
 else bif (decide (d.Else≥(a.Moves.length:Int))) then (ref26_timed_k3 a c (ref26_timed_l2 a b) d true)
 else bif (decide (c > 0)) then ((idx a.Timeouts (w64 (c-1))).bind fun e =>
 ref26_timed_k3 a c (ref26_timed_l2 a b) d (decide (d.State≤e.State)))
 else ref26_timed_k3 a c (ref26_timed_l2 a b) d false)
 else ref26_timed_k1
def ref26_timed (N:Nat) (a:T8):Option Bool :=
 ref26_timed_l2 a N 0
def ref03_Has_k1:Option Bool :=
 some false
def ref03_Has_l2 (a:(List Int)) (b:Int):Nat→Int→Option Bool
 | 0,_=>none
 | c+1,d =>
 bif (decide (d < (a.length:Int))) then ((idx a d).bind fun e =>
 bif (e==b) then (some true)
 else (ref03_Has_l2 a b c) (w64 (d+1)))
 else ref03_Has_k1
def ref03_Has (N:Nat) (a:(List Int)) (b:Int):Option Bool :=
 ref03_Has_l2 a b N 0
def ref03_With_k1 (a:Int) (b:(List Int)) (c:Bool):Option (List Int) :=
 bif (!c) then ((appL b ([a]:List Int)).bind fun d =>
 some d)
 else some b
def ref03_With_l2 (a:(List Int)) (b:Int):Nat→(List Int)→Bool→Int→Option (List Int)
 | 0,_,_,_=>none
 | c+1,d,e,f =>
 bif (decide (f < (a.length:Int))) then (bif (!e) then ((idx a f).bind fun g =>
 bif (decide (g≥b)) then ((idx a f).bind fun h =>
 bif (decide (h > b)) then ((appL d ([b]:List Int)).bind fun i =>
 (idx a f).bind fun j =>
 (appL i ([j]:List Int)).bind fun k =>
 (ref03_With_l2 a b c) k true (w64 (f+1)))
 else (idx a f).bind fun l =>
 (appL d ([l]:List Int)).bind fun m =>
 (ref03_With_l2 a b c) m true (w64 (f+1)))
 else (idx a f).bind fun o =>
 (appL d ([o]:List Int)).bind fun p =>
 (ref03_With_l2 a b c) p e (w64 (f+1)))
 else (idx a f).bind fun q =>
 (appL d ([q]:List Int)).bind fun r =>
 (ref03_With_l2 a b c) r e (w64 (f+1)))
 else ref03_With_k1 b d e
def ref03_With (N:Nat) (a:(List Int)) (b:Int):Option (List Int) :=
 ref03_With_l2 a b N ([]:List Int) false 0
def ref26_Reached_k1 (a:(List Int)):Option (List Int) :=
 some a
def ref26_Reached_k3 (a:Int) (b:(List Int)→Int→Option (List Int)) (c:(List Int)):Option (List Int) :=
 b c (w64 (a+1))
def ref26_Reached_l4 (N:Nat) (a:T8) (b:Int) (c:(List Int)→Int→Option (List Int)):Nat→(List Int)→Int→Option (List Int)
 | 0,_,_=>none
 | d+1,e,f =>
 bif (decide (f < (a.Moves.length:Int))) then ((idx a.Moves f).bind fun g =>
 (ref03_Has N e g.From).bind fun h =>
 bif h then ((idx a.Moves f).bind fun i =>
 (ref03_With N e i.To).bind fun j =>
 (ref26_Reached_l4 N a b c d) j (w64 (f+1)))
 else (ref26_Reached_l4 N a b c d) e (w64 (f+1)))
 else ref26_Reached_k3 b c e
def ref26_Reached_l2 (N:Nat) (a:T8):Nat→(List Int)→Int→Option (List Int)
 | 0,_,_=>none
 | b+1,c,d =>
 bif (decide (d < a.States)) then (ref26_Reached_l4 N a d (ref26_Reached_l2 N a b) N c 0)
 else ref26_Reached_k1 c
def ref26_Reached (N:Nat) (a:T8):Option (List Int) :=
 ref26_Reached_l2 N a N ([a.Start]:List Int) 0
def ref26_Valid (N:Nat) (a:T8):Option Bool :=
 (ref26_numbers N a).bind fun b =>
 bif b then ((ref26_apart N a).bind fun c =>
 bif c then ((ref26_timed N a).bind fun d =>
 bif d then ((ref26_Reached N a).bind fun e =>
 some ((e.length:Int)==a.States))
 else some false)
 else some false)
 else some false
def ref40_together_k1:Option Bool :=
 some true
def ref40_together_l2 (a:T5) (b:T8):Nat→Int→Option Bool
 | 0,_=>none
 | c+1,d =>
 bif (decide (d < (b.Moves.length:Int))) then ((idx b.Moves d).bind fun e =>
 bif (decide (e.Peer≥(a.Roles.length:Int))) then (some false)
 else (idx b.Moves d).bind fun f =>
 bif (decide (f.Label≥(a.Decls.length:Int))) then (some false)
 else (ref40_together_l2 a b c) (w64 (d+1)))
 else ref40_together_k1
def ref40_together (N:Nat) (a:T5) (b:T8):Option Bool :=
 (ref18_Valid N a).bind fun c =>
 bif (!c) then (some false)
 else (ref26_Valid N b).bind fun d =>
 bif (!d) then (some false)
 else bif (decide (b.Role≥(a.Roles.length:Int))) then (some false)
 else ref40_together_l2 a b N 0
def ref14_Nothing (N:Nat) (a:(List T0)):Option (List T12) :=
 (ref14_Vars N a).bind fun b =>
 (mkL (⟨0,0,(str [])⟩:T12) b b).bind fun c =>
 some c
def ref40_New (N:Nat) (a:T5) (b:T8):Option T16 :=
 (ref40_together N a b).bind fun c =>
 bif (!c) then (some (⟨0,([]:List T12),([]:List T12)⟩:T16))
 else (ref14_Nothing N a.Decls).bind fun d =>
 some (⟨b.Start,d,([]:List T12)⟩:T16)
def ref14_Number (N:Nat) (a:T12):Option Int :=
 bif (a.Kind==2) then (some (a.S.size:Int))
 else some a.N
def ref14_Fits_k1 (N:Nat) (a:T10) (b:T12) (c:Bool):Option Bool :=
 bif c then (some false)
 else bif (b.Kind==a.Kind) then ((ref14_Number N b).bind fun d =>
 bif (decide (d≥a.Lo)) then ((ref14_Number N b).bind fun e =>
 some (decide (e≤a.Hi)))
 else some false)
 else some false
def ref14_Fits_k2 (N:Nat) (a:T10) (b:T12):Option Bool :=
 bif (b.Kind==2) then (bif (b.N != 0) then (ref14_Fits_k1 N a b true)
 else bif (b.Kind==1) then (ref14_Fits_k1 N a b (!(b.S.toList==(str []).toList)))
 else ref14_Fits_k1 N a b false)
 else bif (b.Kind==1) then (ref14_Fits_k1 N a b (!(b.S.toList==(str []).toList)))
 else ref14_Fits_k1 N a b false
def ref14_Fits_l3 (N:Nat) (a:T10) (b:T12):Nat→Int→Option Bool
 | 0,_=>none
 | c+1,d =>
 bif (decide (d < (b.S.size:Int))) then ((sidx b.S d).bind fun e =>
 bif (decide (e < 32)) then (some false)
 else (sidx b.S d).bind fun f =>
 bif (decide (f > 126)) then (some false)
 else (ref14_Fits_l3 N a b c) (w64 (d+1)))
 else ref14_Fits_k2 N a b
def ref14_Fits (N:Nat) (a:T10) (b:T12):Option Bool :=
 ref14_Fits_l3 N a b N 0
def ref14_Known_k1:Option Bool :=
 some true
def ref14_Known_l2 (N:Nat) (a:(List T0)) (b:(List T12)):Nat→Int→Option Bool
 | 0,_=>none
 | c+1,d =>
 bif (decide (d < (b.length:Int))) then ((idx b d).bind fun e =>
 bif (!((e.Kind==0) && ((e.N==0) && ((e.S.toList==(str []).toList) && true)))) then ((ref14_Field N a d).bind fun f =>
 (idx b d).bind fun g =>
 (ref14_Fits N f.Sort' g).bind fun h =>
 bif (!h) then (some false)
 else (ref14_Known_l2 N a b c) (w64 (d+1)))
 else (ref14_Known_l2 N a b c) (w64 (d+1)))
 else ref14_Known_k1
def ref14_Known (N:Nat) (a:(List T0)) (b:(List T12)):Option Bool :=
 (ref14_Vars N a).bind fun c =>
 bif ((b.length:Int) != c) then (some false)
 else ref14_Known_l2 N a b N 0
def ref40_Fits (N:Nat) (a:T5) (b:T8) (c:T16):Option Bool :=
 (ref40_together N a b).bind fun d =>
 bif d then (bif (decide (c.At≥0)) then (bif (decide (c.At < b.States)) then ((ref14_Known N a.Decls c.Known).bind fun e =>
 some e)
 else some false)
 else some false)
 else some false
def ref26_Good (N:Nat) (a:T8) (b:Int):Option Bool :=
 (ref26_Valid N a).bind fun c =>
 bif c then (bif (decide (b≥0)) then (some (decide (b < a.States)))
 else some false)
 else some false
def ref25_Before (N:Nat) (a:T9) (b:T9):Option Bool :=
 bif (!(a.Send==b.Send)) then (some a.Send)
 else bif (a.Peer != b.Peer) then (some (decide (a.Peer < b.Peer)))
 else some (decide (a.Label < b.Label))
def ref25_Out_k1 (a:(List Int)):Option (List Int) :=
 some a
def ref25_Out_k3 (a:(List Int)) (b:Int) (c:(List Int)→Int→Option (List Int)) (d:Int):Option (List Int) :=
 (lsl a none (some d)).bind fun e =>
 (appL ([]:List Int) e).bind fun f =>
 (appL f ([b]:List Int)).bind fun g =>
 (lsl a (some d) none).bind fun h =>
 (appL g h).bind fun i =>
 c i (w64 (b+1))
def ref25_Out_l4 (N:Nat) (a:T8) (b:(List Int)) (c:Int) (d:(List Int)→Int→Option (List Int)):Nat→Int→Option (List Int)
 | 0,_=>none
 | e+1,f =>
 bif (decide (f < (b.length:Int))) then ((idx a.Moves c).bind fun g =>
 (idx b f).bind fun h =>
 (idx a.Moves h).bind fun i =>
 (ref25_Before N g i).bind fun j =>
 bif (!j) then ((ref25_Out_l4 N a b c d e) (w64 (f+1)))
 else ref25_Out_k3 b c d f)
 else ref25_Out_k3 b c d f
def ref25_Out_l2 (N:Nat) (a:T8) (b:Int):Nat→(List Int)→Int→Option (List Int)
 | 0,_,_=>none
 | c+1,d,e =>
 bif (decide (e < (a.Moves.length:Int))) then ((idx a.Moves e).bind fun f =>
 bif (f.From != b) then ((ref25_Out_l2 N a b c) d (w64 (e+1)))
 else ref25_Out_l4 N a d e (ref25_Out_l2 N a b c) N 0)
 else ref25_Out_k1 d
def ref25_Out (N:Nat) (a:T8) (b:Int):Option (List Int) :=
 ref25_Out_l2 N a b N ([]:List Int) 0
def ref26_Moves (N:Nat) (a:T8) (b:Int):Option (List Int) :=
 (ref26_Good N a b).bind fun c =>
 bif (!c) then (some ([]:List Int))
 else (ref25_Out N a b).bind fun d =>
 some d
def ref09_Digits_b (N:Nat) (rc_ref09_Digits:Int→Option ByteArray) (a:Int):Option ByteArray :=
 bif (decide (a < (-9))) then ((rc_ref09_Digits (w64 (a.tdiv 10))).bind fun b =>
 (catS b (Utf8.encode (wk .i32 ((w64 (48-(a.tmod 10))))))).bind fun c =>
 some c)
 else bif (decide (a < 0)) then ((catS (str [45]) (Utf8.encode (wk .i32 ((w64 (48-a)))))).bind fun d =>
 some d)
 else bif (decide (a < 10)) then (some (Utf8.encode (wk .i32 ((w64 (48+a))))))
 else (rc_ref09_Digits (w64 (a.tdiv 10))).bind fun e =>
 (catS e (Utf8.encode (wk .i32 ((w64 (48+(a.tmod 10))))))).bind fun f =>
 some f
def ref09_Digits_r:Nat→Int→Option ByteArray
 | 0,_=>none
 | N+1,a0=>ref09_Digits_b N (ref09_Digits_r N) a0
def ref09_Digits (N:Nat) (a:Int):Option ByteArray:=ref09_Digits_r N a
def ref41_Parts (N:Nat) (a:T0):Option Int :=
 some (w64 ((a.Guard.Diffs.length:Int)+(a.Guard.Equals.length:Int)))
def ref41_name_k1:Option (ByteArray × Bool) :=
 some ((str []),false)
def ref41_name_l2 (a:(List T0)) (b:Int):Nat→Int→Option (ByteArray × Bool)
 | 0,_=>none
 | c+1,d =>
 bif (decide (d < (a.length:Int))) then ((idx a d).bind fun e =>
 bif (decide (b≥e.First)) then (bif (decide (b < (w64 (e.First+(e.Fields.length:Int))))) then ((idx e.Fields (w64 (b-e.First))).bind fun f =>
 (catS e.Name (str [46])).bind fun g =>
 (catS g f.Name).bind fun h =>
 some (h,(f.Sort'.Kind==2)))
 else (ref41_name_l2 a b c) (w64 (d+1)))
 else (ref41_name_l2 a b c) (w64 (d+1)))
 else ref41_name_k1
def ref41_name (N:Nat) (a:(List T0)) (b:Int):Option (ByteArray × Bool) :=
 ref41_name_l2 a b N 0
def ref41_number (N:Nat) (a:(List T0)) (b:Int):Option ByteArray :=
 (ref41_name N a b).bind fun c =>
 bif c.2 then ((catS (str [108,101,110,40]) c.1).bind fun d =>
 (catS d (str [41])).bind fun e =>
 some e)
 else some c.1
def ref41_Atom (N:Nat) (a:(List T0)) (b:Int) (c:Int):Option ByteArray :=
 (ref14_Valid N a).bind fun d =>
 bif (!d) then (some (str []))
 else bif (decide (b < 0)) then (some (str []))
 else bif (decide (b≥(a.length:Int))) then (some (str []))
 else bif (decide (c < 0)) then (some (str []))
 else (idx a b).bind fun e =>
 (ref41_Parts N e).bind fun f =>
 bif (decide (c≥f)) then (some (str []))
 else (idx a b).bind fun g =>
 bif (decide (c≥(g.Guard.Diffs.length:Int))) then ((idx a b).bind fun h =>
 (idx h.Guard.Equals (w64 (c-(g.Guard.Diffs.length:Int)))).bind fun i =>
 (ref41_name N a i.1).bind fun j =>
 (ref41_name N a i.2).bind fun k =>
 (catS j.1 (str [32,61,61,32])).bind fun l =>
 (catS l k.1).bind fun m =>
 some m)
 else (idx a b).bind fun o =>
 (idx o.Guard.Diffs c).bind fun p =>
 bif (decide (p.X < 0)) then (bif (decide (p.Y < 0)) then ((ref09_Digits N p.C).bind fun q =>
 (catS (str [48,32,60,61,32]) q).bind fun r =>
 some r)
 else bif (decide (p.Y < 0)) then ((ref41_number N a p.X).bind fun s =>
 (catS s (str [32,60,61,32])).bind fun t =>
 (ref09_Digits N p.C).bind fun u =>
 (catS t u).bind fun v =>
 some v)
 else bif (decide (p.X < 0)) then ((ref41_number N a p.Y).bind fun w =>
 (catS w (str [32,62,61,32])).bind fun x =>
 (ref09_Digits N (w64 (0-p.C))).bind fun y =>
 (catS x y).bind fun z =>
 some z)
 else (ref41_number N a p.X).bind fun A =>
 (catS A (str [32,60,61,32])).bind fun B =>
 (ref41_number N a p.Y).bind fun D =>
 (catS B D).bind fun E =>
 bif (decide (p.C > 0)) then ((catS E (str [32,43,32])).bind fun F =>
 (ref09_Digits N p.C).bind fun G =>
 (catS F G).bind fun H =>
 some H)
 else bif (decide (p.C < 0)) then ((catS E (str [32,45,32])).bind fun I =>
 (ref09_Digits N (w64 (0-p.C))).bind fun J =>
 (catS I J).bind fun K =>
 some K)
 else some E)
 else bif (decide (p.Y < 0)) then ((ref41_number N a p.X).bind fun L =>
 (catS L (str [32,60,61,32])).bind fun M =>
 (ref09_Digits N p.C).bind fun O =>
 (catS M O).bind fun P =>
 some P)
 else bif (decide (p.X < 0)) then ((ref41_number N a p.Y).bind fun Q =>
 (catS Q (str [32,62,61,32])).bind fun R =>
 (ref09_Digits N (w64 (0-p.C))).bind fun S =>
 (catS R S).bind fun T =>
 some T)
 else (ref41_number N a p.X).bind fun U =>
 (catS U (str [32,60,61,32])).bind fun V =>
 (ref41_number N a p.Y).bind fun W =>
 (catS V W).bind fun Z =>
 bif (decide (p.C > 0)) then ((catS Z (str [32,43,32])).bind fun a0 =>
 (ref09_Digits N p.C).bind fun b0 =>
 (catS a0 b0).bind fun c0 =>
 some c0)
 else bif (decide (p.C < 0)) then ((catS Z (str [32,45,32])).bind fun d0 =>
 (ref09_Digits N (w64 (0-p.C))).bind fun e0 =>
 (catS d0 e0).bind fun f0 =>
 some f0)
 else some Z
def ref43_Decl_k1 (a:ByteArray):Option ByteArray :=
 some a
def ref43_Decl_l2 (N:Nat) (a:(List T0)) (b:Int) (c:T0):Nat→ByteArray→Int→Option ByteArray
 | 0,_,_=>none
 | d+1,e,f =>
 (ref41_Parts N c).bind fun g =>
 bif (decide (f < g)) then (bif (f==0) then ((catS e (str [32,119,104,101,114,101,32])).bind fun h =>
 (ref41_Atom N a b f).bind fun i =>
 (catS h i).bind fun j =>
 (ref43_Decl_l2 N a b c d) j (w64 (f+1)))
 else (catS e (str [32,97,110,100,32])).bind fun k =>
 (ref41_Atom N a b f).bind fun l =>
 (catS k l).bind fun m =>
 (ref43_Decl_l2 N a b c d) m (w64 (f+1)))
 else ref43_Decl_k1 e
def ref43_Decl_k3 (N:Nat) (a:(List T0)) (b:Int) (c:T0) (d:ByteArray):Option ByteArray :=
 (catS d (str [41])).bind fun e =>
 ref43_Decl_l2 N a b c N e 0
def ref43_Decl_k5 (N:Nat) (a:Int) (b:ByteArray→Int→Option ByteArray) (c:T4) (d:ByteArray):Option ByteArray :=
 (ref09_Digits N c.Sort'.Lo).bind fun e =>
 (catS e (str [32,46,46,32])).bind fun f =>
 (ref09_Digits N c.Sort'.Hi).bind fun g =>
 (catS f g).bind fun h =>
 (catS d h).bind fun i =>
 b i (w64 (a+1))
def ref43_Decl_k6 (N:Nat) (a:Int) (b:ByteArray→Int→Option ByteArray) (c:T4) (d:ByteArray):Option ByteArray :=
 (catS c.Name (str [58,32])).bind fun e =>
 (catS d e).bind fun f =>
 bif (c.Sort'.Kind==2) then ((catS f (str [116,101,120,116,32])).bind fun g =>
 ref43_Decl_k5 N a b c g)
 else (catS f (str [105,110,116,32])).bind fun h =>
 ref43_Decl_k5 N a b c h
def ref43_Decl_l4 (N:Nat) (a:(List T0)) (b:Int) (c:T0):Nat→ByteArray→Int→Option ByteArray
 | 0,_,_=>none
 | d+1,e,f =>
 bif (decide (f < (c.Fields.length:Int))) then ((idx c.Fields f).bind fun g =>
 bif (decide (f > 0)) then ((catS e (str [44,32])).bind fun h =>
 ref43_Decl_k6 N f (ref43_Decl_l4 N a b c d) g h)
 else ref43_Decl_k6 N f (ref43_Decl_l4 N a b c d) g e)
 else ref43_Decl_k3 N a b c e
def ref43_Decl (N:Nat) (a:(List T0)) (b:Int):Option ByteArray :=
 (ref14_Valid N a).bind fun c =>
 bif (!c) then (some (str []))
 else bif (decide (b < 0)) then (some (str []))
 else bif (decide (b≥(a.length:Int))) then (some (str []))
 else (idx a b).bind fun d =>
 (catS d.Name (str [40])).bind fun e =>
 ref43_Decl_l4 N a b d N e 0
def ref25_Limit_k1:Option Int :=
 some (-1)
def ref25_Limit_l2 (a:T8) (b:Int):Nat→Int→Option Int
 | 0,_=>none
 | c+1,d =>
 bif (decide (d < (a.Timeouts.length:Int))) then ((idx a.Timeouts d).bind fun e =>
 bif (e.State==b) then (some d)
 else (ref25_Limit_l2 a b c) (w64 (d+1)))
 else ref25_Limit_k1
def ref25_Limit (N:Nat) (a:T8) (b:Int):Option Int :=
 ref25_Limit_l2 a b N 0
def ref26_Timeout (N:Nat) (a:T8) (b:Int):Option (T11 × Bool) :=
 (ref26_Good N a b).bind fun c =>
 bif (!c) then (some ((⟨0,0,0⟩:T11),false))
 else (ref25_Limit N a b).bind fun d =>
 bif (decide (d≥0)) then ((idx a.Timeouts d).bind fun e =>
 some (e,true))
 else some ((⟨0,0,0⟩:T11),false)
def ref43_Permitted_k1 (N:Nat) (a:T5) (b:T8) (c:Int) (d:(List ByteArray)):Option ((List ByteArray) × Int) :=
 (ref26_Timeout N b c).bind fun e =>
 bif e.2 then ((idx b.Moves e.1.Else).bind fun f =>
 (ref09_Digits N e.1.Ticks).bind fun g =>
 (catS (str [119,105,116,104,105,110,32]) g).bind fun h =>
 (catS h (str [32,116,105,99,107,115,44,32,111,116,104,101,114,119,105,115,101,32])).bind fun i =>
 (idx a.Decls f.Label).bind fun j =>
 (catS i j.Name).bind fun k =>
 (catS k (str [32,116,111,32])).bind fun l =>
 (idx a.Roles f.Peer).bind fun m =>
 (catS l m).bind fun o =>
 (appL d ([o]:List ByteArray)).bind fun p =>
 (idx b.Finals c).bind fun q =>
 bif q then ((appL p ([(str [116,104,101,32,101,110,100])]:List ByteArray)).bind fun r =>
 some (r,0))
 else some (p,0))
 else (idx b.Finals c).bind fun s =>
 bif s then ((appL d ([(str [116,104,101,32,101,110,100])]:List ByteArray)).bind fun t =>
 some (t,0))
 else some (d,0)
def ref43_Permitted_l2 (N:Nat) (a:T5) (b:T8) (c:Int) (d:(List Int)):Nat→(List ByteArray)→Int→Option ((List ByteArray) × Int)
 | 0,_,_=>none
 | e+1,f,g =>
 bif (decide (g < (d.length:Int))) then ((idx d g).bind fun h =>
 (idx b.Moves h).bind fun i =>
 bif i.Again then ((idx a.Decls i.Label).bind fun j =>
 (catS (str [115,101,110,100,32]) j.Name).bind fun k =>
 (catS k (str [32,97,103,97,105,110,32,116,111,32])).bind fun l =>
 (idx a.Roles i.Peer).bind fun m =>
 (catS l m).bind fun o =>
 (appL f ([o]:List ByteArray)).bind fun p =>
 (ref43_Permitted_l2 N a b c d e) p (w64 (g+1)))
 else bif i.Send then ((ref43_Decl N a.Decls i.Label).bind fun q =>
 (catS (str [115,101,110,100,32]) q).bind fun r =>
 (catS r (str [32,116,111,32])).bind fun s =>
 (idx a.Roles i.Peer).bind fun t =>
 (catS s t).bind fun u =>
 (appL f ([u]:List ByteArray)).bind fun v =>
 (ref43_Permitted_l2 N a b c d e) v (w64 (g+1)))
 else (ref43_Decl N a.Decls i.Label).bind fun w =>
 (catS (str [114,101,99,101,105,118,101,32]) w).bind fun x =>
 (catS x (str [32,102,114,111,109,32])).bind fun y =>
 (idx a.Roles i.Peer).bind fun z =>
 (catS y z).bind fun A =>
 (appL f ([A]:List ByteArray)).bind fun B =>
 (ref43_Permitted_l2 N a b c d e) B (w64 (g+1)))
 else ref43_Permitted_k1 N a b c f
def ref43_Permitted (N:Nat) (a:T5) (b:T8) (c:Int):Option ((List ByteArray) × Int) :=
 (ref40_New N a b).bind fun d =>
 (ref40_Fits N a b d).bind fun e =>
 bif (!e) then (some (([]:List ByteArray),1))
 else bif (decide (c < 0)) then (some (([]:List ByteArray),1))
 else bif (decide (c≥b.States)) then (some (([]:List ByteArray),1))
 else (ref26_Moves N b c).bind fun f =>
 ref43_Permitted_l2 N a b c f N ([]:List ByteArray) 0
def ref40_Move_k1:Option Int :=
 some (-1)
def ref40_Move_l2 (a:T8) (b:Int) (c:T3):Nat→Int→Option Int
 | 0,_=>none
 | d+1,e =>
 bif (decide (e < (a.Moves.length:Int))) then ((idx a.Moves e).bind fun f =>
 bif (f.From==b) then (bif (f.Send==c.Send) then (bif (f.Peer==c.Peer) then (bif (f.Label==c.Label) then (some e)
 else (ref40_Move_l2 a b c d) (w64 (e+1)))
 else (ref40_Move_l2 a b c d) (w64 (e+1)))
 else (ref40_Move_l2 a b c d) (w64 (e+1)))
 else (ref40_Move_l2 a b c d) (w64 (e+1)))
 else ref40_Move_k1
def ref40_Move (N:Nat) (a:T8) (b:Int) (c:T3):Option Int :=
 ref40_Move_l2 a b c N 0
def ref15_ValidSort (N:Nat) (a:T10):Option Bool :=
 bif (a.Kind==1) then (bif (decide ((-1000)≤a.Lo)) then (bif (decide (a.Lo≤a.Hi)) then (some (decide (a.Hi≤1000)))
 else some false)
 else some false)
 else bif (a.Kind==2) then (bif (decide (0≤a.Lo)) then (bif (decide (a.Lo≤a.Hi)) then (some (decide (a.Hi≤40)))
 else some false)
 else some false)
 else some false
def ref15_plain_k1:Option Bool :=
 some true
def ref15_plain_l2 (a:ByteArray):Nat→Int→Option Bool
 | 0,_=>none
 | b+1,c =>
 bif (decide (c < (a.size:Int))) then ((sidx a c).bind fun d =>
 bif (decide (d < 32)) then (some false)
 else (sidx a c).bind fun e =>
 bif (decide (e > 126)) then (some false)
 else (ref15_plain_l2 a b) (w64 (c+1)))
 else ref15_plain_k1
def ref15_plain (N:Nat) (a:ByteArray):Option Bool :=
 ref15_plain_l2 a N 0
def ref15_Valid (N:Nat) (a:T12):Option Bool :=
 bif (a.Kind==1) then (bif (decide (a.N≥(-1000))) then (bif (decide (a.N≤1000)) then (some (a.S.toList==(str []).toList))
 else some false)
 else some false)
 else bif (a.Kind==2) then (bif (a.N==0) then (bif (decide ((a.S.size:Int)≤40)) then ((ref15_plain N a.S).bind fun b =>
 some b)
 else some false)
 else some false)
 else some false
def ref15_Number (N:Nat) (a:T12):Option Int :=
 bif (a.Kind==1) then (some a.N)
 else bif (a.Kind==2) then (some (a.S.size:Int))
 else some 0
def ref15_Fits (N:Nat) (a:T10) (b:T12):Option Bool :=
 (ref15_ValidSort N a).bind fun c =>
 bif c then ((ref15_Valid N b).bind fun d =>
 bif d then (bif (a.Kind==b.Kind) then ((ref15_Number N b).bind fun e =>
 bif (decide (e≥a.Lo)) then ((ref15_Number N b).bind fun f =>
 some (decide (f≤a.Hi)))
 else some false)
 else some false)
 else some false)
 else some false
def ref15_FitsAll_k1:Option Bool :=
 some true
def ref15_FitsAll_l2 (N:Nat) (a:(List T4)) (b:(List T12)):Nat→Int→Option Bool
 | 0,_=>none
 | c+1,d =>
 bif (decide (d < (a.length:Int))) then ((idx a d).bind fun e =>
 (idx b d).bind fun f =>
 (ref15_Fits N e.Sort' f).bind fun g =>
 bif (!g) then (some false)
 else (ref15_FitsAll_l2 N a b c) (w64 (d+1)))
 else ref15_FitsAll_k1
def ref15_FitsAll (N:Nat) (a:(List T4)) (b:(List T12)):Option Bool :=
 bif ((a.length:Int) != (b.length:Int)) then (some false)
 else ref15_FitsAll_l2 N a b N 0
def ref40_fitting (N:Nat) (a:T0) (b:(List T12)):Option Bool :=
 (ref15_FitsAll N a.Fields b).bind fun c =>
 some c
def ref14_exists (N:Nat) (a:(List T0)) (b:Int):Option Bool :=
 (ref14_Valid N a).bind fun c =>
 bif c then (bif (decide (b≥0)) then (some (decide (b < (a.length:Int))))
 else some false)
 else some false
def ref14_fit_k1 (a:T0) (b:(List T12)):Option Bool :=
 some ((b.length:Int)==(a.Fields.length:Int))
def ref14_fit_l2 (N:Nat) (a:T0) (b:(List T12)):Nat→Int→Option Bool
 | 0,_=>none
 | c+1,d =>
 bif (decide (d < (b.length:Int))) then (bif (decide (d < (a.Fields.length:Int))) then ((idx a.Fields d).bind fun e =>
 (idx b d).bind fun f =>
 (ref14_Fits N e.Sort' f).bind fun g =>
 bif (!g) then (some false)
 else (ref14_fit_l2 N a b c) (w64 (d+1)))
 else ref14_fit_k1 a b)
 else ref14_fit_k1 a b
def ref14_fit (N:Nat) (a:T0) (b:(List T12)):Option Bool :=
 ref14_fit_l2 N a b N 0
def ref14_learned_k1 (a:(List T12)):Option (List T12) :=
 some a
def ref14_learned_l2 (a:T0) (b:(List T12)):Nat→(List T12)→Int→Option (List T12)
 | 0,_,_=>none
 | c+1,d,e =>
 bif (decide (e < (b.length:Int))) then ((idx b e).bind fun f =>
 (idx d (w64 (a.First+e))).bind fun g =>
 (ref14_learned_l2 a b c) (setL' d (w64 (a.First+e)) f) (w64 (e+1)))
 else ref14_learned_k1 d
def ref14_learned (N:Nat) (a:T0) (b:(List T12)) (c:(List T12)):Option (List T12) :=
 (appL ([]:List T12) c).bind fun d =>
 ref14_learned_l2 a b N d 0
def ref14_keeps_k1:Option Bool :=
 some true
def ref14_keeps_l2 (a:T6) (b:(List T12)):Nat→Int→Option Bool
 | 0,_=>none
 | c+1,d =>
 bif (decide (d < (a.Equals.length:Int))) then ((idx a.Equals d).bind fun e =>
 (idx b e.1).bind fun f =>
 (idx a.Equals d).bind fun g =>
 (idx b g.2).bind fun h =>
 bif (f.Kind==0) then (some false)
 else bif (h.Kind==0) then (some false)
 else bif (!(f.S.toList==h.S.toList)) then (some false)
 else (ref14_keeps_l2 a b c) (w64 (d+1)))
 else ref14_keeps_k1
def ref14_keeps_k3 (N:Nat) (a:T6) (b:(List T12)):Option Bool :=
 ref14_keeps_l2 a b N 0
def ref14_keeps_k5 (a:(List T12)) (b:Int) (c:Int→Option Bool) (d:T1) (e:Int) (f:Int):Option Bool :=
 bif (decide (d.X≥0)) then ((idx a d.X).bind fun g =>
 bif (g.Kind==0) then (some false)
 else bif (decide (d.Y≥0)) then ((idx a d.Y).bind fun h =>
 bif (h.Kind==0) then (some false)
 else bif (decide ((w64 (e-f)) > d.C)) then (some false)
 else c (w64 (b+1)))
 else bif (decide ((w64 (e-f)) > d.C)) then (some false)
 else c (w64 (b+1)))
 else bif (decide (d.Y≥0)) then ((idx a d.Y).bind fun i =>
 bif (i.Kind==0) then (some false)
 else bif (decide ((w64 (e-f)) > d.C)) then (some false)
 else c (w64 (b+1)))
 else bif (decide ((w64 (e-f)) > d.C)) then (some false)
 else c (w64 (b+1))
def ref14_keeps_k6 (N:Nat) (a:(List T12)) (b:Int) (c:Int→Option Bool) (d:T1) (e:Int):Option Bool :=
 bif (decide (d.Y≥0)) then ((idx a d.Y).bind fun f =>
 (ref14_Number N f).bind fun g =>
 ref14_keeps_k5 a b c d e g)
 else ref14_keeps_k5 a b c d e 0
def ref14_keeps_l4 (N:Nat) (a:T6) (b:(List T12)):Nat→Int→Option Bool
 | 0,_=>none
 | c+1,d =>
 bif (decide (d < (a.Diffs.length:Int))) then ((idx a.Diffs d).bind fun e =>
 bif (decide (e.X≥0)) then ((idx b e.X).bind fun f =>
 (ref14_Number N f).bind fun g =>
 ref14_keeps_k6 N b d (ref14_keeps_l4 N a b c) e g)
 else ref14_keeps_k6 N b d (ref14_keeps_l4 N a b c) e 0)
 else ref14_keeps_k3 N a b
def ref14_keeps (N:Nat) (a:T6) (b:(List T12)):Option Bool :=
 ref14_keeps_l4 N a b N 0
def ref14_Check (N:Nat) (a:(List T0)) (b:Int) (c:(List T12)) (d:(List T12)):Option Bool :=
 (ref14_exists N a b).bind fun e =>
 bif (!e) then (some false)
 else (ref14_Known N a d).bind fun f =>
 bif (!f) then (some false)
 else (idx a b).bind fun g =>
 (ref14_fit N g c).bind fun h =>
 bif (!h) then (some false)
 else (idx a b).bind fun i =>
 (idx a b).bind fun j =>
 (ref14_learned N j c d).bind fun k =>
 (ref14_keeps N i.Guard k).bind fun l =>
 some l
def ref14_Learn (N:Nat) (a:(List T0)) (b:Int) (c:(List T12)) (d:(List T12)):Option ((List T12) × Int) :=
 (ref14_exists N a b).bind fun e =>
 bif (!e) then (some (([]:List T12),1))
 else (ref14_Known N a d).bind fun f =>
 bif (!f) then (some (([]:List T12),1))
 else (idx a b).bind fun g =>
 (ref14_fit N g c).bind fun h =>
 bif (!h) then (some (([]:List T12),11))
 else (idx a b).bind fun i =>
 (ref14_learned N i c d).bind fun j =>
 some (j,0)
def ref40_Step_k1 (N:Nat) (a:T5) (b:T8) (c:T16) (d:T3) (e:Int) (f:Bool):Option (T16 × Int) :=
 bif f then (some ((⟨0,([]:List T12),([]:List T12)⟩:T16),17))
 else (idx b.Moves e).bind fun g =>
 (ref14_Learn N a.Decls d.Label d.Values c.Known).bind fun h =>
 bif d.Send then ((appL ([]:List T12) d.Values).bind fun i =>
 some ((⟨g.To,h.1,i⟩:T16),0))
 else some ((⟨g.To,h.1,([]:List T12)⟩:T16),0)
def ref40_Step (N:Nat) (a:T5) (b:T8) (c:T16) (d:T3):Option (T16 × Int) :=
 (ref40_Fits N a b c).bind fun e =>
 bif (!e) then (some ((⟨0,([]:List T12),([]:List T12)⟩:T16),1))
 else (ref40_Move N b c.At d).bind fun f =>
 bif (d.Role != b.Role) then (some ((⟨0,([]:List T12),([]:List T12)⟩:T16),12))
 else bif (decide (f < 0)) then (some ((⟨0,([]:List T12),([]:List T12)⟩:T16),23))
 else (idx a.Decls d.Label).bind fun g =>
 (ref40_fitting N g d.Values).bind fun h =>
 bif (!h) then (some ((⟨0,([]:List T12),([]:List T12)⟩:T16),11))
 else (ref14_Check N a.Decls d.Label d.Values c.Known).bind fun i =>
 bif (!i) then (ref40_Step_k1 N a b c d f true)
 else (idx b.Moves f).bind fun j =>
 bif j.Again then ((z25 N d.Values c.Pending).bind fun k =>
 ref40_Step_k1 N a b c d f (!k))
 else ref40_Step_k1 N a b c d f false
def ref40_Run_k1 (a:(List T3)) (b:Int) (c:(List T12)) (d:(List T12)):Option (T16 × Int × Int) :=
 some ((⟨b,c,d⟩:T16),(a.length:Int),0)
def ref40_Run_l2 (N:Nat) (a:T5) (b:T8) (c:(List T3)):Nat→Int→(List T12)→(List T12)→Int→Option (T16 × Int × Int)
 | 0,_,_,_,_=>none
 | d+1,e,f,g,h =>
 bif (decide (h < (c.length:Int))) then ((idx c h).bind fun i =>
 (ref40_Step N a b (⟨e,f,g⟩:T16) i).bind fun j =>
 bif (j.2 != 0) then (some ((⟨e,f,g⟩:T16),h,j.2))
 else (ref40_Run_l2 N a b c d) j.1.At j.1.Known j.1.Pending (w64 (h+1)))
 else ref40_Run_k1 c e f g
def ref40_Run (N:Nat) (a:T5) (b:T8) (c:(List T3)):Option (T16 × Int × Int) :=
 (ref40_New N a b).bind fun d =>
 (ref40_together N a b).bind fun e =>
 bif (!e) then (some ((⟨0,([]:List T12),([]:List T12)⟩:T16),0,1))
 else ref40_Run_l2 N a b c N d.At d.Known d.Pending 0
def ref41_sort_k1:Option Int :=
 some (-1)
def ref41_sort_l2 (N:Nat) (a:T0) (b:(List T12)):Nat→Int→Option Int
 | 0,_=>none
 | c+1,d =>
 bif (decide (d < (b.length:Int))) then ((idx a.Fields d).bind fun e =>
 (idx b d).bind fun f =>
 (ref15_Fits N e.Sort' f).bind fun g =>
 bif (!g) then (some d)
 else (ref41_sort_l2 N a b c) (w64 (d+1)))
 else ref41_sort_k1
def ref41_sort (N:Nat) (a:T0) (b:(List T12)):Option Int :=
 ref41_sort_l2 N a b N 0
def ref41_value (N:Nat) (a:T0) (b:(List T12)) (c:(List T12)) (d:Int):Option (T12 × Bool) :=
 bif (decide (d < 0)) then ((z26 N 0).bind fun e =>
 some (e,true))
 else bif (decide (d≥a.First)) then (bif (decide (d < (w64 (a.First+(b.length:Int))))) then ((idx b (w64 (d-a.First))).bind fun f =>
 some (f,true))
 else (idx c d).bind fun g =>
 (idx c d).bind fun h =>
 some (g,(h.Kind != 0)))
 else (idx c d).bind fun i =>
 (idx c d).bind fun j =>
 some (i,(j.Kind != 0))
def ref41_Holds (N:Nat) (a:T0) (b:(List T12)) (c:(List T12)) (d:Int):Option Bool :=
 bif (decide (d≥(a.Guard.Diffs.length:Int))) then ((idx a.Guard.Equals (w64 (d-(a.Guard.Diffs.length:Int)))).bind fun e =>
 (ref41_value N a b c e.1).bind fun f =>
 (ref41_value N a b c e.2).bind fun g =>
 bif f.2 then (bif g.2 then (some (f.1.S.toList==g.1.S.toList))
 else some false)
 else some false)
 else (idx a.Guard.Diffs d).bind fun h =>
 (ref41_value N a b c h.X).bind fun i =>
 (ref41_value N a b c h.Y).bind fun j =>
 bif i.2 then (bif j.2 then ((ref15_Number N i.1).bind fun k =>
 (ref15_Number N j.1).bind fun l =>
 some (decide ((w64 (k-l))≤h.C)))
 else some false)
 else some false
def ref41_guard_k1:Option Int :=
 some (-1)
def ref41_guard_l2 (N:Nat) (a:T0) (b:(List T12)) (c:(List T12)):Nat→Int→Option Int
 | 0,_=>none
 | d+1,e =>
 (ref41_Parts N a).bind fun f =>
 bif (decide (e < f)) then ((ref41_Holds N a b c e).bind fun g =>
 bif (!g) then (some e)
 else (ref41_guard_l2 N a b c d) (w64 (e+1)))
 else ref41_guard_k1
def ref41_guard (N:Nat) (a:T0) (b:(List T12)) (c:(List T12)):Option Int :=
 ref41_guard_l2 N a b c N 0
def ref41_differ_k1:Option Int :=
 some 0
def ref41_differ_l2 (a:(List T12)) (b:(List T12)):Nat→Int→Option Int
 | 0,_=>none
 | c+1,d =>
 bif (decide (d < (a.length:Int))) then (bif (decide (d < (b.length:Int))) then ((idx a d).bind fun e =>
 (idx b d).bind fun f =>
 bif (!((e.Kind==f.Kind) && ((e.N==f.N) && ((e.S.toList==f.S.toList) && true)))) then (some d)
 else (ref41_differ_l2 a b c) (w64 (d+1)))
 else ref41_differ_k1)
 else ref41_differ_k1
def ref41_differ (N:Nat) (a:(List T12)) (b:(List T12)):Option Int :=
 ref41_differ_l2 a b N 0
def ref41_Find_k1 (N:Nat) (a:T5) (b:T8) (c:T16 × Int × Int) (d:T3) (e:Int):Option (T13 × Bool × Int) :=
 bif (d.Role != b.Role) then (some ((⟨c.2.1,1,0,d.Role⟩:T13),true,0))
 else (ref40_Move N b c.1.At d).bind fun f =>
 bif (decide (f < 0)) then (some ((⟨c.2.1,2,0,e⟩:T13),true,0))
 else (idx a.Decls d.Label).bind fun g =>
 bif ((d.Values.length:Int) != (g.Fields.length:Int)) then (some ((⟨c.2.1,3,0,e⟩:T13),true,0))
 else (ref41_sort N g d.Values).bind fun h =>
 bif (decide (h≥0)) then ((ref41_sort N g d.Values).bind fun i =>
 some ((⟨c.2.1,4,i,e⟩:T13),true,0))
 else (ref41_guard N g d.Values c.1.Known).bind fun j =>
 bif (decide (j≥0)) then ((ref41_guard N g d.Values c.1.Known).bind fun k =>
 some ((⟨c.2.1,5,k,e⟩:T13),true,0))
 else (ref41_differ N d.Values c.1.Pending).bind fun l =>
 some ((⟨c.2.1,6,l,e⟩:T13),true,0)
def ref41_Find (N:Nat) (a:T5) (b:T8) (c:(List T3)):Option (T13 × Bool × Int) :=
 (ref40_Run N a b c).bind fun d =>
 bif (d.2.2==1) then (some ((⟨0,0,0,0⟩:T13),false,1))
 else bif (d.2.2==0) then (some ((⟨0,0,0,0⟩:T13),false,0))
 else (idx c d.2.1).bind fun e =>
 bif (!e.Send) then (ref41_Find_k1 N a b d e e.Peer)
 else ref41_Find_k1 N a b d e b.Role
def ref41_label (N:Nat) (a:T5) (b:Int):Option ByteArray :=
 bif (decide (b < 0)) then (some (str [63]))
 else bif (decide (b≥(a.Decls.length:Int))) then (some (str [63]))
 else (idx a.Decls b).bind fun c =>
 some c.Name
def ref15_digits_b (N:Nat) (rc_ref15_digits:Int→Option ByteArray) (a:Int):Option ByteArray :=
 bif (decide (a < (-9))) then ((rc_ref15_digits (w64 (a.tdiv 10))).bind fun b =>
 (catS b (Utf8.encode (wk .i32 ((w64 (48-(a.tmod 10))))))).bind fun c =>
 some c)
 else bif (decide (a < 0)) then ((catS (str [45]) (Utf8.encode (wk .i32 ((w64 (48-a)))))).bind fun d =>
 some d)
 else bif (decide (a < 10)) then (some (Utf8.encode (wk .i32 ((w64 (48+a))))))
 else (rc_ref15_digits (w64 (a.tdiv 10))).bind fun e =>
 (catS e (Utf8.encode (wk .i32 ((w64 (48+(a.tmod 10))))))).bind fun f =>
 some f
def ref15_digits_r:Nat→Int→Option ByteArray
 | 0,_=>none
 | N+1,a0=>ref15_digits_b N (ref15_digits_r N) a0
def ref15_digits (N:Nat) (a:Int):Option ByteArray:=ref15_digits_r N a
def ref15_Show_k1 (a:ByteArray):Option ByteArray :=
 (catS a (str [34])).bind fun b =>
 some b
def ref15_Show_k3 (a:T12) (b:ByteArray) (c:Int) (d:ByteArray→Int→Option ByteArray) (e:Bool):Option ByteArray :=
 bif e then ((catS b (str [92])).bind fun f =>
 (ssl a.S (some c) (some (w64 (c+1)))).bind fun g =>
 (catS f g).bind fun h =>
 d h (w64 (c+1)))
 else (ssl a.S (some c) (some (w64 (c+1)))).bind fun i =>
 (catS b i).bind fun j =>
 d j (w64 (c+1))
def ref15_Show_l2 (a:T12):Nat→ByteArray→Int→Option ByteArray
 | 0,_,_=>none
 | b+1,c,d =>
 bif (decide (d < (a.S.size:Int))) then ((sidx a.S d).bind fun e =>
 bif (e==34) then (ref15_Show_k3 a c d (ref15_Show_l2 a b) true)
 else (sidx a.S d).bind fun f =>
 ref15_Show_k3 a c d (ref15_Show_l2 a b) (f==92))
 else ref15_Show_k1 c
def ref15_Show (N:Nat) (a:T12):Option ByteArray :=
 (ref15_Valid N a).bind fun b =>
 bif (!b) then (some (str [63]))
 else bif (a.Kind==1) then ((ref15_digits N a.N).bind fun c =>
 some c)
 else ref15_Show_l2 a N (str [34]) 0
def ref15_ShowList_k1 (a:ByteArray):Option ByteArray :=
 (catS a (str [41])).bind fun b =>
 some b
def ref15_ShowList_l2 (N:Nat) (a:(List T12)):Nat→ByteArray→Int→Option ByteArray
 | 0,_,_=>none
 | b+1,c,d =>
 bif (decide (d < (a.length:Int))) then (bif (decide (d > 0)) then ((catS c (str [44,32])).bind fun e =>
 (idx a d).bind fun f =>
 (ref15_Show N f).bind fun g =>
 (catS e g).bind fun h =>
 (ref15_ShowList_l2 N a b) h (w64 (d+1)))
 else (idx a d).bind fun i =>
 (ref15_Show N i).bind fun j =>
 (catS c j).bind fun k =>
 (ref15_ShowList_l2 N a b) k (w64 (d+1)))
 else ref15_ShowList_k1 c
def ref15_ShowList (N:Nat) (a:(List T12)):Option ByteArray :=
 ref15_ShowList_l2 N a N (str [40]) 0
def ref41_role (N:Nat) (a:T5) (b:Int):Option ByteArray :=
 bif (decide (b < 0)) then (some (str [63]))
 else bif (decide (b≥(a.Roles.length:Int))) then (some (str [63]))
 else (idx a.Roles b).bind fun c =>
 some c
def ref41_Show (N:Nat) (a:T5) (b:T3):Option ByteArray :=
 (ref41_label N a b.Label).bind fun c =>
 (ref15_ShowList N b.Values).bind fun d =>
 (catS c d).bind fun e =>
 bif b.Send then ((ref41_role N a b.Role).bind fun f =>
 (catS f (str [32,115,101,110,100,115,32])).bind fun g =>
 (catS g e).bind fun h =>
 (catS h (str [32,116,111,32])).bind fun i =>
 (ref41_role N a b.Peer).bind fun j =>
 (catS i j).bind fun k =>
 some k)
 else (ref41_role N a b.Role).bind fun l =>
 (catS l (str [32,103,101,116,115,32])).bind fun m =>
 (catS m e).bind fun o =>
 (catS o (str [32,102,114,111,109,32])).bind fun p =>
 (ref41_role N a b.Peer).bind fun q =>
 (catS p q).bind fun r =>
 some r
def ref41_Reason (N:Nat) (a:T5) (b:T8) (c:(List T3)):Option (ByteArray × Int) :=
 (ref41_Find N a b c).bind fun d =>
 bif (!d.2.1) then (some ((str []),d.2.2))
 else (idx c d.1.At).bind fun e =>
 (ref41_Show N a e).bind fun f =>
 (catS f (str [32])).bind fun g =>
 bif (d.1.Kind==1) then ((catS g (str [105,115,32,110,111,116,32,97,110,32,101,118,101,110,116,32,111,102,32])).bind fun h =>
 (ref41_role N a b.Role).bind fun i =>
 (catS h i).bind fun j =>
 some (j,0))
 else bif (d.1.Kind==2) then ((catS g (str [105,115,32,110,111,116,32,112,101,114,109,105,116,116,101,100,32,104,101,114,101])).bind fun k =>
 some (k,0))
 else bif (d.1.Kind==3) then ((catS g (str [104,97,115,32])).bind fun l =>
 (ref09_Digits N (e.Values.length:Int)).bind fun m =>
 (catS l m).bind fun o =>
 (catS o (str [32,118,97,108,117,101,115,32,105,110,115,116,101,97,100,32,111,102,32])).bind fun p =>
 (idx a.Decls e.Label).bind fun q =>
 (ref09_Digits N (q.Fields.length:Int)).bind fun r =>
 (catS p r).bind fun s =>
 some (s,0))
 else bif (d.1.Kind==4) then ((idx a.Decls e.Label).bind fun t =>
 (idx t.Fields d.1.Part).bind fun u =>
 (catS g (str [104,97,115,32,116,104,101,32,118,97,108,117,101,32])).bind fun v =>
 (idx e.Values d.1.Part).bind fun w =>
 (ref15_Show N w).bind fun x =>
 (catS v x).bind fun y =>
 (catS y (str [32,102,111,114,32])).bind fun z =>
 (catS z u.Name).bind fun A =>
 (catS A (str [44,32,119,104,105,99,104,32,105,115,32,110,111,116,32,102,114,111,109,32])).bind fun B =>
 (ref09_Digits N u.Sort'.Lo).bind fun C =>
 (catS B C).bind fun D =>
 (catS D (str [32,116,111,32])).bind fun E =>
 (ref09_Digits N u.Sort'.Hi).bind fun F =>
 (catS E F).bind fun G =>
 some (G,0))
 else bif (d.1.Kind==5) then ((catS g (str [100,111,101,115,32,110,111,116,32,107,101,101,112,32,116,104,101,32,103,117,97,114,100,32])).bind fun H =>
 (ref41_Atom N a.Decls e.Label d.1.Part).bind fun I =>
 (catS H I).bind fun J =>
 some (J,0))
 else (catS g (str [100,111,101,115,32,110,111,116,32,104,97,118,101,32,116,104,101,32,115,97,109,101,32,118,97,108,117,101,115,32,97,115,32,116,104,101,32,109,101,115,115,97,103,101,32,97,104,101,97,100])).bind fun K =>
 some (K,0)
def ref43_Why_k1 (a:ByteArray):Option (ByteArray × Int) :=
 some (a,0)
def ref43_Why_l2 (a:(List ByteArray)):Nat→ByteArray→Int→Option (ByteArray × Int)
 | 0,_,_=>none
 | b+1,c,d =>
 bif (decide (d < (a.length:Int))) then (bif (decide (d > 0)) then ((catS c (str [59,32])).bind fun e =>
 (idx a d).bind fun f =>
 (catS e f).bind fun g =>
 (ref43_Why_l2 a b) g (w64 (d+1)))
 else (idx a d).bind fun h =>
 (catS c h).bind fun i =>
 (ref43_Why_l2 a b) i (w64 (d+1)))
 else ref43_Why_k1 c
def ref43_Why_k3 (N:Nat) (a:ByteArray × Int) (b:(List ByteArray)):Option (ByteArray × Int) :=
 (catS a.1 (str [59,32,112,101,114,109,105,116,116,101,100,58,32])).bind fun c =>
 ref43_Why_l2 b N c 0
def ref43_Why (N:Nat) (a:T5) (b:T8) (c:(List T3)) (d:T3):Option (ByteArray × Int) :=
 (ref40_Run N a b c).bind fun e =>
 bif (e.2.2==1) then (some ((str []),1))
 else bif (e.2.2 != 0) then (some ((str []),7))
 else (appL ([]:List T3) c).bind fun f =>
 (appL f ([d]:List T3)).bind fun g =>
 (ref41_Reason N a b g).bind fun h =>
 bif (h.1.toList==(str []).toList) then (some ((str []),0))
 else (ref43_Permitted N a b e.1.At).bind fun i =>
 bif ((i.1.length:Int)==0) then (ref43_Why_k3 N h ([(str [110,111,116,104,105,110,103])]:List ByteArray))
 else ref43_Why_k3 N h i.1
def law43_ExplainPermits_k1 (a:ByteArray × Int) (b:T16 × Int × Int) (c:ByteArray × Int) (d:(List ByteArray) × Int) (e:ByteArray):Option Bool :=
 bif (b.2.2==0) then (bif (c.2==0) then (bif (d.2==0) then (some (a.1.toList==e.toList))
 else some false)
 else some false)
 else some false
def law43_ExplainPermits_k2 (a:ByteArray × Int) (b:T16 × Int × Int) (c:ByteArray × Int) (d:(List ByteArray) × Int) (e:ByteArray):Option Bool :=
 bif ((d.1.length:Int)==0) then ((catS e (str [110,111,116,104,105,110,103])).bind fun f =>
 law43_ExplainPermits_k1 a b c d f)
 else law43_ExplainPermits_k1 a b c d e
def law43_ExplainPermits_l3 (a:ByteArray × Int) (b:T16 × Int × Int) (c:ByteArray × Int) (d:(List ByteArray) × Int):Nat→ByteArray→Int→Option Bool
 | 0,_,_=>none
 | e+1,f,g =>
 bif (decide (g < (d.1.length:Int))) then (bif (decide (g > 0)) then ((catS f (str [59,32])).bind fun h =>
 (idx d.1 g).bind fun i =>
 (catS h i).bind fun j =>
 (law43_ExplainPermits_l3 a b c d e) j (w64 (g+1)))
 else (idx d.1 g).bind fun k =>
 (catS f k).bind fun l =>
 (law43_ExplainPermits_l3 a b c d e) l (w64 (g+1)))
 else law43_ExplainPermits_k2 a b c d f
def law43_ExplainPermits (N:Nat) (a:T5) (b:T8) (c:(List T3)):Option Bool :=
 (z8 N).bind fun d =>
 bif (!d) then (some false)
 else (z9 N a b c).bind fun e =>
 bif (!e) then (some true)
 else bif ((c.length:Int)==0) then (some true)
 else (lsl c none (some (w64 ((c.length:Int)-1)))).bind fun f =>
 (idx c (w64 ((c.length:Int)-1))).bind fun g =>
 (z15 N a b f g).bind fun h =>
 (lsl c none (some (w64 ((c.length:Int)-1)))).bind fun i =>
 (z17 N a b i).bind fun j =>
 bif (h.2 != 0) then (bif (h.2 != 0) then (some true)
 else some (j.2.2==0))
 else bif (h.1.toList==(str []).toList) then (bif (h.2 != 0) then (some true)
 else some (j.2.2==0))
 else (z18 N a b c).bind fun k =>
 (z10 N a b j.1.At).bind fun l =>
 (catS k.1 (str [59,32,112,101,114,109,105,116,116,101,100,58,32])).bind fun m =>
 law43_ExplainPermits_l3 h j k l N m 0
end Gx
end
