/- What each function of the statement computes, as plain definitions. -/
import Derived.Test.YtknelkokbekhnaaGreatDoorNamesRenameCore3
set_option linter.all false
section
open Go Go.Kx
namespace Gx
def digN:Nat→Nat→List UInt8
 | 0,_=>[]
 | f+1,u=>bif Nat.blt u 10 then [UInt8.ofNat (48+u)] else digN f (u / 10)++[UInt8.ofNat (48+u % 10)]
def itoaS (n:Int):ByteArray:=⟨(bif decide (n < 0) then 45::digN 25 n.natAbs else digN 25 n.toNat).toArray⟩
def joinL (sep:List UInt8):List (List UInt8)→List UInt8
 | []=>[]
 | x::r=>x++(r.map (sep++·)).flatten
structure T1 where
  Kind:Int
  Lo:Int
  Hi:Int
structure T0 where
  Name:ByteArray
  Sort':T1
structure T11 where
  Kind:Int
  Message:ByteArray
  Field:ByteArray
  N:Int
structure T7 where
  Left:T11
  Op:ByteArray
  Right:T11
structure T9 where
  Name:ByteArray
  Fields:(List T0)
  Where:(List T7)
structure T8 where
  Kind:Int
  From:ByteArray
  To:(List ByteArray)
  Name:ByteArray
  As:ByteArray
  Ticks:Int
  Blocks:(List (List T8))
structure T10 where
  Name:ByteArray
  Roles:(List ByteArray)
  Messages:(List T9)
  Body:(List T8)
structure T12 where
  Left:T11
  Op:ByteArray
  Right:T11
structure T14 where
  Name:ByteArray
  Fields:(List T0)
  Where:(List T12)
structure T13 where
  Kind:Int
  From:ByteArray
  To:(List ByteArray)
  Name:ByteArray
  As:ByteArray
  Ticks:Int
  Blocks:(List (List T13))
structure T15 where
  Name:ByteArray
  Roles:(List ByteArray)
  Messages:(List T14)
  Body:(List T13)
structure T2 where
  Kind:Int
  Text:ByteArray
  Value:Int
  From:Int
structure T3 where
  s':ByteArray
  at':Int
structure T16 where
  l':(List T2)
  n':Int
  end':Int
  at':Int
  err':Int
structure T17 where
  Builder:ByteArray
  depth':Int
structure T4 where
  Protocol:ByteArray
  Name:ByteArray
  Err:Int
structure T5 where
  all':(List T15)
  p':T15
  calls':(List ByteArray)
  out':T4
structure T6 where
  name':ByteArray
  tail':Bool
  hidden':Bool
def z113 (N:Nat) (a:ByteArray) (b:Int):Option Int :=
 some (firstB a b)
def z119 (N:Nat) (a:ByteArray) (b:Int):Option Int :=
 (z113 N a b).bind fun c =>
 some c
def z167 (N:Nat) (a:Int):Option Bool :=
 bif (decide (0≤a)) then (bif (decide (a < 55296)) then (some true)
 else bif (decide (57343 < a)) then (bif (decide (a≤1114111)) then (some true)
 else some false)
 else some false)
 else bif (decide (57343 < a)) then (bif (decide (a≤1114111)) then (some true)
 else some false)
 else some false
def z147_k1 (a:Nat):Option Int :=
 some (-1)
def z147_l2 (a:ByteArray):Nat→Nat→Option Int
 | 0,_=>none
 | b+1,c =>
 bif decide (c < a.size) then (bif (((Utf8.decode a c).1:Int)==65533) then (some ((c:Nat):Int))
 else (z147_l2 a b) (c+(Utf8.decode a c).2))
 else z147_k1 c
def z147_k3:Option Int :=
 some (-1)
def z147_k5 (a:Int) (b:Int):Option Int :=
 some (w64 (b-(w64 (((Utf8.encode a).size:Int)-1))))
def z147_l6 (a:ByteArray) (b:Int) (c:Int):Nat→Int→Option Int
 | 0,_=>none
 | d+1,e =>
 bif (decide (e < ((Utf8.encode b).size:Int))) then ((sidx a (w64 (c-e))).bind fun f =>
 (sidx (Utf8.encode b) (w64 ((w64 (((Utf8.encode b).size:Int)-1))-e))).bind fun g =>
 bif (f != g) then (dead 0)
 else (z147_l6 a b c d) (w64 (e+1)))
 else z147_k5 b c
def z147_k7 (N:Nat) (a:ByteArray) (b:Int) (c:Int):Option Int :=
 z147_l6 a b c N 1
def z147_l4 (N:Nat) (a:ByteArray) (b:Int):Nat→Option Int
 | 0=>none
 | c+1 =>
 bif (decide ((w64 (((Utf8.encode b).size:Int)-1)) < (a.size:Int))) then ((sidx a (w64 (((Utf8.encode b).size:Int)-1))).bind fun d =>
 (sidx (Utf8.encode b) (w64 (((Utf8.encode b).size:Int)-1))).bind fun e =>
 bif (d != e) then ((ssl a (some (w64 ((w64 (((Utf8.encode b).size:Int)-1))+1))) none).bind fun f =>
 (sidx (Utf8.encode b) (w64 (((Utf8.encode b).size:Int)-1))).bind fun g =>
 (z119 N f g).bind fun h =>
 bif (decide (h < 0)) then (some (-1))
 else z147_k7 N a b (w64 ((w64 (((Utf8.encode b).size:Int)-1))+(w64 (h+1)))))
 else z147_k7 N a b (w64 (((Utf8.encode b).size:Int)-1)))
 else z147_k3
def z147_k8 (N:Nat) (a:ByteArray) (b:Int) (c:Bool):Option Int :=
 bif c then ((z119 N a (wk .u8 (b))).bind fun d =>
 some d)
 else bif (b==65533) then (z147_l2 a N (0:Nat))
 else (z167 N b).bind fun e =>
 bif (!e) then (some (-1))
 else z147_l4 N a b N
def z147 (N:Nat) (a:ByteArray) (b:Int):Option Int :=
 bif (decide (0≤b)) then (z147_k8 N a b (decide (b < 128)))
 else z147_k8 N a b false
def z117 (N:Nat) (a:ByteArray) (b:Int):Option Bool :=
 (z147 N a b).bind fun c =>
 some (decide (c≥0))
def z148 (N:Nat) (a:ByteArray) (b:ByteArray):Option Bool :=
 bif (decide ((a.size:Int)≥(b.size:Int))) then ((ssl a none (some (b.size:Int))).bind fun c =>
 some (c.toList==b.toList))
 else some false
def z118 (N:Nat) (a:ByteArray) (b:ByteArray):Option Bool :=
 (z148 N a b).bind fun c =>
 some c
def z81_k1 (a:T3) (vbk0_0_1_1:Int):Option T3 :=
 some (⟨a.s',vbk0_0_1_1⟩:T3)
def z81_l2 (N:Nat) (a:T3):Nat→Int→Option T3
 | 0,_=>none
 | b+1,vbk0_0_1_3 =>
 bif (decide (vbk0_0_1_3 < (a.s'.size:Int))) then ((ssl a.s' (some vbk0_0_1_3) none).bind fun c =>
 (sidx c 0).bind fun d =>
 (z117 N (str [32,9,10,13]) (wk .i32 (d))).bind fun e =>
 bif e then ((z81_l2 N a b) (w64 (vbk0_0_1_3+1)))
 else (z118 N c (str [47,47])).bind fun f =>
 bif f then ((z119 N c 10).bind fun g =>
 bif (decide (g < 0)) then ((z81_l2 N a b) (w64 (vbk0_0_1_3+(w64 ((w64 ((c.size:Int)-1))+1)))))
 else (z81_l2 N a b) (w64 (vbk0_0_1_3+(w64 (g+1)))))
 else some (⟨a.s',vbk0_0_1_3⟩:T3))
 else z81_k1 a vbk0_0_1_3
def z81 (N:Nat) (a:T3):Option T3 :=
 z81_l2 N a N a.at'
def z83 (N:Nat) (a:Int):Option Bool :=
 bif (decide (97≤a)) then (bif (decide (a≤122)) then (some true)
 else bif (decide (65≤a)) then (some (decide (a≤90)))
 else some false)
 else bif (decide (65≤a)) then (some (decide (a≤90)))
 else some false
def z85 (N:Nat) (a:Int):Option Bool :=
 bif (decide (48≤a)) then (some (decide (a≤57)))
 else some false
def z103 (N:Nat) (a:Int):Option Bool :=
 (z83 N a).bind fun b =>
 bif b then (some true)
 else (z85 N a).bind fun c =>
 bif c then (some true)
 else some (a==95)
def z120_0_k1 (a:T3) (vbk0_0_1_1:Int):Option (ByteArray × T3) :=
 (ssl a.s' (some a.at') (some vbk0_0_1_1)).bind fun b =>
 some (b,(⟨a.s',vbk0_0_1_1⟩:T3))
def z120_0_l2 (N:Nat) (a:T3):Nat→Int→Option (ByteArray × T3)
 | 0,_=>none
 | b+1,vbk0_0_1_3 =>
 bif (decide (vbk0_0_1_3 < (a.s'.size:Int))) then ((sidx a.s' vbk0_0_1_3).bind fun c =>
 (z103 N c).bind fun d =>
 bif d then ((z120_0_l2 N a b) (w64 (vbk0_0_1_3+1)))
 else z120_0_k1 a vbk0_0_1_3)
 else z120_0_k1 a vbk0_0_1_3
def z120_0 (N:Nat) (a:T3):Option (ByteArray × T3) :=
 z120_0_l2 N a N a.at'
def z84 (N:Nat) (a:T3):Option (T2 × Int × T3) :=
 (z120_0 N a).bind fun b =>
 bif (decide ((b.1.size:Int) > 16)) then (some ((⟨0,(str []),0,0⟩:T2),6,b.2))
 else some ((⟨1,b.1,0,0⟩:T2),0,b.2)
def z120_1_k1 (a:T3) (vbk0_0_1_1:Int):Option (ByteArray × T3) :=
 (ssl a.s' (some a.at') (some vbk0_0_1_1)).bind fun b =>
 some (b,(⟨a.s',vbk0_0_1_1⟩:T3))
def z120_1_l2 (N:Nat) (a:T3):Nat→Int→Option (ByteArray × T3)
 | 0,_=>none
 | b+1,vbk0_0_1_3 =>
 bif (decide (vbk0_0_1_3 < (a.s'.size:Int))) then ((sidx a.s' vbk0_0_1_3).bind fun c =>
 (z85 N c).bind fun d =>
 bif d then ((z120_1_l2 N a b) (w64 (vbk0_0_1_3+1)))
 else z120_1_k1 a vbk0_0_1_3)
 else z120_1_k1 a vbk0_0_1_3
def z120_1 (N:Nat) (a:T3):Option (ByteArray × T3) :=
 z120_1_l2 N a N a.at'
def z86_k1 (a:ByteArray × T3) (b:Int):Option (T2 × Int × T3) :=
 some ((⟨2,(str []),b,0⟩:T2),0,a.2)
def z86_l2 (a:ByteArray × T3):Nat→Int→Int→Option (T2 × Int × T3)
 | 0,_,_=>none
 | b+1,c,d =>
 bif (decide (d < (a.1.size:Int))) then ((sidx a.1 d).bind fun e =>
 (z86_l2 a b) (w64 ((w64 (10 * c))+(w64 ((wk .u8 (e-48)))))) (w64 (d+1)))
 else z86_k1 a c
def z86_k3 (N:Nat) (a:ByteArray × T3) (b:Bool):Option (T2 × Int × T3) :=
 bif b then (some ((⟨0,(str []),0,0⟩:T2),2,a.2))
 else z86_l2 a N 0 0
def z86_k4 (N:Nat) (a:ByteArray × T3) (b:Bool):Option (T2 × Int × T3) :=
 bif b then (some ((⟨0,(str []),0,0⟩:T2),3,a.2))
 else bif (decide ((a.1.size:Int) > 6)) then (z86_k3 N a true)
 else bif (decide ((a.1.size:Int) > 1)) then ((sidx a.1 0).bind fun c =>
 z86_k3 N a (c==48))
 else z86_k3 N a false
def z86 (N:Nat) (a:T3):Option (T2 × Int × T3) :=
 (z120_1 N a).bind fun b =>
 bif (decide (b.2.at' < (b.2.s'.size:Int))) then ((sidx b.2.s' b.2.at').bind fun c =>
 (z103 N c).bind fun d =>
 z86_k4 N b d)
 else z86_k4 N b false
def z87_k1 (a:T3) (vbk0_0_1_1:Int):Option (T2 × Int × T3) :=
 some ((⟨0,(str []),0,0⟩:T2),3,(⟨a.s',vbk0_0_1_1⟩:T3))
def z87_k3 (a:T3) (b:(List Int)) (c:Int→(List Int)→Option (T2 × Int × T3)) (vbk0_0_1_9:Int) (d:Int):Option (T2 × Int × T3) :=
 bif (decide (d < 32)) then (some ((⟨0,(str []),0,0⟩:T2),3,(⟨a.s',vbk0_0_1_9⟩:T3)))
 else bif (decide (d > 126)) then (some ((⟨0,(str []),0,0⟩:T2),3,(⟨a.s',vbk0_0_1_9⟩:T3)))
 else (appL b ([d]:List Int)).bind fun e =>
 c (w64 (vbk0_0_1_9+1)) e
def z87_l2 (a:T3):Nat→Int→(List Int)→Option (T2 × Int × T3)
 | 0,_,_=>none
 | b+1,vbk0_0_1_6,c =>
 bif (decide (vbk0_0_1_6 < (a.s'.size:Int))) then ((sidx a.s' vbk0_0_1_6).bind fun d =>
 bif (d==34) then (bif (decide ((c.length:Int) > 40)) then (some ((⟨0,(str []),0,0⟩:T2),6,(⟨a.s',(w64 (vbk0_0_1_6+1))⟩:T3)))
 else some ((⟨3,(strOf c),0,0⟩:T2),0,(⟨a.s',(w64 (vbk0_0_1_6+1))⟩:T3)))
 else bif (d==92) then (bif ((w64 (vbk0_0_1_6+1))==(a.s'.size:Int)) then (some ((⟨0,(str []),0,0⟩:T2),3,(⟨a.s',(w64 (vbk0_0_1_6+1))⟩:T3)))
 else (sidx a.s' (w64 (vbk0_0_1_6+1))).bind fun e =>
 bif (e != 34) then ((sidx a.s' (w64 (vbk0_0_1_6+1))).bind fun f =>
 bif (f != 92) then (some ((⟨0,(str []),0,0⟩:T2),3,(⟨a.s',(w64 (vbk0_0_1_6+1))⟩:T3)))
 else (sidx a.s' (w64 (vbk0_0_1_6+1))).bind fun g =>
 z87_k3 a c (z87_l2 a b) (w64 (vbk0_0_1_6+1)) g)
 else (sidx a.s' (w64 (vbk0_0_1_6+1))).bind fun h =>
 z87_k3 a c (z87_l2 a b) (w64 (vbk0_0_1_6+1)) h)
 else z87_k3 a c (z87_l2 a b) vbk0_0_1_6 d)
 else z87_k1 a vbk0_0_1_6
def z87 (N:Nat) (a:T3):Option (T2 × Int × T3) :=
 z87_l2 a N (w64 (a.at'+1)) ([]:List Int)
def z79 (N:Nat) (a:ByteArray) (b:ByteArray):Option Int :=
 bif ((b.size:Int)==0) then (some 0)
 else bif (b.toList==a.toList) then (some 0)
 else bif ((b.size:Int)==1) then ((sidx b 0).bind fun c =>
 (z113 N a c).bind fun d =>
 some d)
 else bif (decide ((b.size:Int)≥(a.size:Int))) then (some (-1))
 else dead 0
def z37 (N:Nat) (a:ByteArray) (b:ByteArray):Option Int :=
 (z79 N a b).bind fun c =>
 some c
def z15 (N:Nat) (a:ByteArray) (b:ByteArray):Option Bool :=
 (z37 N a b).bind fun c =>
 some (decide (c≥0))
def z82_k1 (N:Nat) (a:T3):Option (T2 × Int × T3) :=
 (ssl a.s' (some a.at') (some (w64 (a.at'+1)))).bind fun b =>
 (z15 N (str [40,41,123,125,44,59,58,46,43,45,42,47,37,60,62,61,33]) b).bind fun c =>
 bif (!c) then (some ((⟨0,(str []),0,0⟩:T2),3,a))
 else some ((⟨4,b,0,0⟩:T2),0,(⟨a.s',(w64 (a.at'+1))⟩:T3))
def z82_l2 (N:Nat) (a:T3):Nat→Int→Option (T2 × Int × T3)
 | 0,_=>none
 | b+1,c =>
 bif (decide (c < 8)) then ((idx ([(str [45,62]),(str [46,46]),(str [60,61]),(str [62,61]),(str [61,61]),(str [33,61]),(str [38,38]),(str [124,124])]:List ByteArray) c).bind fun d =>
 (ssl a.s' (some a.at') none).bind fun e =>
 (z118 N e d).bind fun f =>
 bif f then (some ((⟨4,d,0,0⟩:T2),0,(⟨a.s',(w64 (a.at'+2))⟩:T3)))
 else (z82_l2 N a b) (w64 (c+1)))
 else z82_k1 N a
def z82 (N:Nat) (a:T3):Option (T2 × Int × T3) :=
 z82_l2 N a N 0
def z44_k1 (a:(List T2)):Option ((List T2) × Int × Int) :=
 some (a,0,0)
def z44_l2 (N:Nat) (a:ByteArray):Nat→(List T2)→ByteArray→Int→Option ((List T2) × Int × Int)
 | 0,_,_,_=>none
 | b+1,c,d,e =>
 bif (decide (e < (a.size:Int))) then ((sidx a e).bind fun f =>
 (z83 N f).bind fun g =>
 bif g then ((z84 N (⟨d,e⟩:T3)).bind fun h =>
 bif (h.2.1 != 0) then (some (([]:List T2),e,h.2.1))
 else (appL c ([(⟨h.1.Kind,h.1.Text,h.1.Value,e⟩:T2)]:List T2)).bind fun i =>
 (z81 N h.2.2).bind fun j =>
 (z44_l2 N a b) i j.s' j.at')
 else (z85 N f).bind fun k =>
 bif k then ((z86 N (⟨d,e⟩:T3)).bind fun l =>
 bif (l.2.1 != 0) then (some (([]:List T2),e,l.2.1))
 else (appL c ([(⟨l.1.Kind,l.1.Text,l.1.Value,e⟩:T2)]:List T2)).bind fun m =>
 (z81 N l.2.2).bind fun o =>
 (z44_l2 N a b) m o.s' o.at')
 else bif (f==34) then ((z87 N (⟨d,e⟩:T3)).bind fun p =>
 bif (p.2.1 != 0) then (some (([]:List T2),e,p.2.1))
 else (appL c ([(⟨p.1.Kind,p.1.Text,p.1.Value,e⟩:T2)]:List T2)).bind fun q =>
 (z81 N p.2.2).bind fun r =>
 (z44_l2 N a b) q r.s' r.at')
 else (z82 N (⟨d,e⟩:T3)).bind fun s =>
 bif (s.2.1 != 0) then (some (([]:List T2),e,s.2.1))
 else (appL c ([(⟨s.1.Kind,s.1.Text,s.1.Value,e⟩:T2)]:List T2)).bind fun t =>
 (z81 N s.2.2).bind fun u =>
 (z44_l2 N a b) t u.s' u.at')
 else z44_k1 c
def z44 (N:Nat) (a:ByteArray):Option ((List T2) × Int × Int) :=
 bif (decide ((a.size:Int) > 8000)) then (some (([]:List T2),8000,6))
 else (z81 N (⟨a,0⟩:T3)).bind fun b =>
 z44_l2 N a N ([]:List T2) b.s' b.at'
def z122 (N:Nat) (a:T16):Option T2 :=
 bif (a.err' != 0) then (some (⟨0,(str []),0,0⟩:T2))
 else bif (decide (a.n'≥(a.l'.length:Int))) then (some (⟨0,(str []),0,0⟩:T2))
 else (idx a.l' a.n').bind fun b =>
 some b
def z123 (N:Nat) (a:T16) (b:ByteArray):Option Bool :=
 (z122 N a).bind fun c =>
 bif (c.Kind==4) then (some (c.Text.toList==b.toList))
 else bif (c.Kind==1) then (some (c.Text.toList==b.toList))
 else some false
def z91 (N:Nat) (a:T16) (b:ByteArray):Option (Bool × T16) :=
 (z123 N a b).bind fun c =>
 bif (!c) then (some (false,a))
 else some (true,(⟨a.l',(w64 (a.n'+1)),a.end',a.at',a.err'⟩:T16))
def z121 (N:Nat) (a:T16) (b:Int):Option T16 :=
 bif (a.err' != 0) then (some a)
 else bif (decide (a.n' < (a.l'.length:Int))) then ((idx a.l' a.n').bind fun c =>
 some (⟨a.l',a.n',a.end',c.From,b⟩:T16))
 else some (⟨a.l',a.n',a.end',a.end',b⟩:T16)
def z88 (N:Nat) (a:T16) (b:ByteArray):Option T16 :=
 (z91 N a b).bind fun c =>
 bif (!c.1) then ((z121 N c.2 3).bind fun d =>
 some d)
 else some c.2
def z67_k1:Option Bool :=
 some true
def z67_l2 (N:Nat) (a:ByteArray):Nat→Int→Option Bool
 | 0,_=>none
 | b+1,c =>
 bif (decide (c < (a.size:Int))) then ((sidx a c).bind fun d =>
 (z103 N d).bind fun e =>
 bif (!e) then (some false)
 else (z67_l2 N a b) (w64 (c+1)))
 else z67_k1
def z67 (N:Nat) (a:ByteArray):Option Bool :=
 bif (a.toList==(str []).toList) then (some false)
 else bif (decide ((a.size:Int) > 16)) then (some false)
 else (sidx a 0).bind fun b =>
 (z83 N b).bind fun c =>
 bif (!c) then (some false)
 else z67_l2 N a N 0
def z80_k1:Option Int :=
 some (-1)
def z80_l2 (a:(List ByteArray)) (b:ByteArray):Nat→Int→Option Int
 | 0,_=>none
 | c+1,d =>
 bif (decide (d < (a.length:Int))) then ((idx a d).bind fun e =>
 bif (b.toList==e.toList) then (some d)
 else (z80_l2 a b c) (w64 (d+1)))
 else z80_k1
def z80 (N:Nat) (a:(List ByteArray)) (b:ByteArray):Option Int :=
 z80_l2 a b N 0
def z41 (N:Nat) (a:(List ByteArray)) (b:ByteArray):Option Bool :=
 (z80 N a b).bind fun c =>
 some (decide (c≥0))
def z32 (N:Nat) (a:ByteArray):Option Bool :=
 (z67 N a).bind fun b =>
 bif b then ((z41 N ([(str [97,103,97,105,110]),(str [97,110,100]),(str [97,115]),(str [97,116]),(str [99,97,108,108]),(str [99,104,111,105,99,101]),(str [101,108,115,101]),(str [102,114,111,109]),(str [105,102]),(str [105,110,116]),(str [108,101,110]),(str [108,111,111,112]),(str [109,101,115,115,97,103,101]),(str [111,102]),(str [111,102,102,101,114]),(str [111,110]),(str [111,114]),(str [112,97,114]),(str [112,108,97,121,115]),(str [112,114,111,116,111,99,111,108]),(str [115,101,114,118,105,99,101]),(str [116,101,120,116]),(str [116,105,109,101,115]),(str [116,111]),(str [118,97,114]),(str [119,104,101,114,101]),(str [119,104,105,108,101]),(str [119,105,116,104,105,110])]:List ByteArray) a).bind fun c =>
 some (!c))
 else some false
def z89 (N:Nat) (a:T16):Option (ByteArray × T16) :=
 (z122 N a).bind fun b =>
 bif (b.Kind != 1) then ((z121 N a 3).bind fun c =>
 some ((str []),c))
 else (z32 N b.Text).bind fun d =>
 bif (!d) then ((z121 N a 3).bind fun e =>
 some ((str []),e))
 else some (b.Text,(⟨a.l',(w64 (a.n'+1)),a.end',a.at',a.err'⟩:T16))
def z90_k1 (vbk0_0_0_1:(List T2)) (vbk0_0_1_1:Int) (vbk0_0_2_1:Int) (vbk0_0_3_1:Int) (vbk0_0_4_1:Int) (a:(List ByteArray)):Option ((List ByteArray) × T16) :=
 some (a,(⟨vbk0_0_0_1,vbk0_0_1_1,vbk0_0_2_1,vbk0_0_3_1,vbk0_0_4_1⟩:T16))
def z90_l2 (N:Nat):Nat→(List T2)→Int→Int→Int→Int→(List ByteArray)→Option ((List ByteArray) × T16)
 | 0,_,_,_,_,_,_=>none
 | a+1,vbk0_0_0_3,vbk0_0_1_3,vbk0_0_2_3,vbk0_0_3_3,vbk0_0_4_3,b =>
 (z91 N (⟨vbk0_0_0_3,vbk0_0_1_3,vbk0_0_2_3,vbk0_0_3_3,vbk0_0_4_3⟩:T16) (str [44])).bind fun c =>
 bif c.1 then ((z89 N c.2).bind fun d =>
 (appL b ([d.1]:List ByteArray)).bind fun e =>
 (z90_l2 N a) d.2.l' d.2.n' d.2.end' d.2.at' d.2.err' e)
 else z90_k1 c.2.l' c.2.n' c.2.end' c.2.at' c.2.err' b
def z90 (N:Nat) (a:T16):Option ((List ByteArray) × T16) :=
 (z89 N a).bind fun b =>
 z90_l2 N N b.2.l' b.2.n' b.2.end' b.2.at' b.2.err' ([b.1]:List ByteArray)
def z124_k1 (vbk0_0_0_1:(List T2)) (vbk0_0_1_1:Int) (vbk0_0_2_1:Int) (vbk0_0_3_1:Int) (vbk0_0_4_1:Int) (a:ByteArray):Option (ByteArray × T16) :=
 some (a,(⟨vbk0_0_0_1,vbk0_0_1_1,vbk0_0_2_1,vbk0_0_3_1,vbk0_0_4_1⟩:T16))
def z124_l2 (N:Nat):Nat→(List T2)→Int→Int→Int→Int→ByteArray→Option (ByteArray × T16)
 | 0,_,_,_,_,_,_=>none
 | a+1,vbk0_0_0_3,vbk0_0_1_3,vbk0_0_2_3,vbk0_0_3_3,vbk0_0_4_3,b =>
 (z91 N (⟨vbk0_0_0_3,vbk0_0_1_3,vbk0_0_2_3,vbk0_0_3_3,vbk0_0_4_3⟩:T16) (str [46])).bind fun c =>
 bif c.1 then ((z89 N c.2).bind fun d =>
 (catS (str [46]) d.1).bind fun e =>
 (catS b e).bind fun f =>
 (z124_l2 N a) d.2.l' d.2.n' d.2.end' d.2.at' d.2.err' f)
 else z124_k1 c.2.l' c.2.n' c.2.end' c.2.at' c.2.err' b
def z124 (N:Nat) (a:T16):Option (ByteArray × T16) :=
 (z89 N a).bind fun b =>
 z124_l2 N N b.2.l' b.2.n' b.2.end' b.2.at' b.2.err' b.1
def z150 (N:Nat) (a:T16):Option (Int × T16) :=
 (z122 N a).bind fun b =>
 bif (b.Kind != 2) then ((z121 N a 3).bind fun c =>
 some (0,c))
 else some (b.Value,(⟨a.l',(w64 (a.n'+1)),a.end',a.at',a.err'⟩:T16))
def z149 (N:Nat) (a:T16):Option (Int × T16) :=
 (z91 N a (str [45])).bind fun b =>
 bif b.1 then ((z150 N b.2).bind fun c =>
 some ((w64 (0-c.1)),c.2))
 else (z150 N b.2).bind fun d =>
 some (d.1,d.2)
def z125 (N:Nat) (a:T16):Option (T0 × T16) :=
 (z89 N a).bind fun b =>
 (z88 N b.2 (str [58])).bind fun c =>
 (z91 N c (str [105,110,116])).bind fun d =>
 bif (!d.1) then ((z88 N d.2 (str [116,101,120,116])).bind fun e =>
 (z150 N e).bind fun f =>
 (z88 N f.2 (str [46,46])).bind fun g =>
 (z150 N g).bind fun h =>
 some ((⟨b.1,(⟨2,f.1,h.1⟩:T1)⟩:T0),h.2))
 else (z149 N d.2).bind fun i =>
 (z88 N i.2 (str [46,46])).bind fun j =>
 (z149 N j).bind fun k =>
 some ((⟨b.1,(⟨1,i.1,k.1⟩:T1)⟩:T0),k.2)
def z177_k1:Option Int :=
 some (-1)
def z177_l2 (a:ByteArray) (b:Int):Nat→Int→Option Int
 | 0,_=>none
 | c+1,d =>
 bif (decide (d≥0)) then ((sidx a d).bind fun e =>
 bif (e==b) then (some d)
 else (z177_l2 a b c) (w64 (d-1)))
 else z177_k1
def z177 (N:Nat) (a:ByteArray) (b:Int):Option Int :=
 z177_l2 a b N (w64 ((a.size:Int)-1))
def z168 (N:Nat) (a:ByteArray) (b:Int):Option Int :=
 (z177 N a b).bind fun c =>
 some c
def z151_k1 (N:Nat) (vbk0_0_0_1:(List T2)) (vbk0_0_1_1:Int) (vbk0_0_2_1:Int) (vbk0_0_3_1:Int) (vbk0_0_4_1:Int) (a:Int) (b:ByteArray) (c:ByteArray):Option (T11 × T16) :=
 (z91 N (⟨vbk0_0_0_1,vbk0_0_1_1,vbk0_0_2_1,vbk0_0_3_1,vbk0_0_4_1⟩:T16) (str [43])).bind fun d =>
 bif d.1 then ((z150 N d.2).bind fun e =>
 some ((⟨a,b,c,e.1⟩:T11),e.2))
 else (z91 N d.2 (str [45])).bind fun f =>
 bif f.1 then ((z150 N f.2).bind fun g =>
 some ((⟨a,b,c,(w64 (0-g.1))⟩:T11),g.2))
 else some ((⟨a,b,c,0⟩:T11),f.2)
def z151_k2 (N:Nat) (vbk0_0_0_1:(List T2)) (vbk0_0_1_1:Int) (vbk0_0_2_1:Int) (vbk0_0_3_1:Int) (vbk0_0_4_1:Int) (a:Int) (b:ByteArray):Option (T11 × T16) :=
 (z168 N b 46).bind fun c =>
 bif (decide (c≥0)) then ((ssl b none (some c)).bind fun d =>
 (ssl b (some (w64 (c+1))) none).bind fun e =>
 z151_k1 N vbk0_0_0_1 vbk0_0_1_1 vbk0_0_2_1 vbk0_0_3_1 vbk0_0_4_1 a d e)
 else z151_k1 N vbk0_0_0_1 vbk0_0_1_1 vbk0_0_2_1 vbk0_0_3_1 vbk0_0_4_1 a (str []) b
def z151 (N:Nat) (a:T16):Option (T11 × T16) :=
 (z123 N a (str [45])).bind fun b =>
 bif b then ((z149 N a).bind fun c =>
 some ((⟨1,(str []),(str []),c.1⟩:T11),c.2))
 else (z122 N a).bind fun d =>
 bif (d.Kind==2) then ((z149 N a).bind fun e =>
 some ((⟨1,(str []),(str []),e.1⟩:T11),e.2))
 else (z91 N a (str [108,101,110])).bind fun f =>
 bif f.1 then ((z88 N f.2 (str [40])).bind fun g =>
 (z124 N g).bind fun h =>
 (z88 N h.2 (str [41])).bind fun i =>
 z151_k2 N i.l' i.n' i.end' i.at' i.err' 3 h.1)
 else (z124 N f.2).bind fun j =>
 z151_k2 N j.2.l' j.2.n' j.2.end' j.2.at' j.2.err' 2 j.1
def z73 (N:Nat):Option (List ByteArray) :=
 some ([(str [60]),(str [60,61]),(str [61,61]),(str [62,61]),(str [62])]:List ByteArray)
def z126 (N:Nat) (a:T16):Option (T12 × T16) :=
 (z151 N a).bind fun b =>
 (z122 N b.2).bind fun c =>
 bif (c.Kind==4) then ((z73 N).bind fun d =>
 (z41 N d c.Text).bind fun e =>
 bif e then ((z151 N (⟨b.2.l',(w64 (b.2.n'+1)),b.2.end',b.2.at',b.2.err'⟩:T16)).bind fun f =>
 some ((⟨b.1,c.Text,f.1⟩:T12),f.2))
 else (z121 N b.2 3).bind fun g =>
 (z151 N g).bind fun h =>
 some ((⟨b.1,(str []),h.1⟩:T12),h.2))
 else (z121 N b.2 3).bind fun i =>
 (z151 N i).bind fun j =>
 some ((⟨b.1,(str []),j.1⟩:T12),j.2)
def z92_k1 (N:Nat) (a:ByteArray × T16) (b:(List T0)) (vbk0_0_0_5:(List T2)) (vbk0_0_1_5:Int) (vbk0_0_2_5:Int) (vbk0_0_3_5:Int) (vbk0_0_4_5:Int) (c:(List T12)):Option (T14 × T16) :=
 (z88 N (⟨vbk0_0_0_5,vbk0_0_1_5,vbk0_0_2_5,vbk0_0_3_5,vbk0_0_4_5⟩:T16) (str [59])).bind fun d =>
 some ((⟨a.1,b,c⟩:T14),d)
def z92_l2 (N:Nat) (a:ByteArray × T16) (b:(List T0)):Nat→(List T2)→Int→Int→Int→Int→(List T12)→Option (T14 × T16)
 | 0,_,_,_,_,_,_=>none
 | c+1,vbk0_0_0_7,vbk0_0_1_7,vbk0_0_2_7,vbk0_0_3_7,vbk0_0_4_7,d =>
 (z91 N (⟨vbk0_0_0_7,vbk0_0_1_7,vbk0_0_2_7,vbk0_0_3_7,vbk0_0_4_7⟩:T16) (str [97,110,100])).bind fun e =>
 bif e.1 then ((z126 N e.2).bind fun f =>
 (appL d ([f.1]:List T12)).bind fun g =>
 (z92_l2 N a b c) f.2.l' f.2.n' f.2.end' f.2.at' f.2.err' g)
 else z92_k1 N a b e.2.l' e.2.n' e.2.end' e.2.at' e.2.err' d
def z92_k3 (N:Nat) (a:ByteArray × T16) (vbk0_0_0_1:(List T2)) (vbk0_0_1_1:Int) (vbk0_0_2_1:Int) (vbk0_0_3_1:Int) (vbk0_0_4_1:Int) (b:(List T0)):Option (T14 × T16) :=
 (z91 N (⟨vbk0_0_0_1,vbk0_0_1_1,vbk0_0_2_1,vbk0_0_3_1,vbk0_0_4_1⟩:T16) (str [119,104,101,114,101])).bind fun c =>
 bif c.1 then ((z126 N c.2).bind fun d =>
 (appL ([]:List T12) ([d.1]:List T12)).bind fun e =>
 z92_l2 N a b N d.2.l' d.2.n' d.2.end' d.2.at' d.2.err' e)
 else (z88 N c.2 (str [59])).bind fun f =>
 some ((⟨a.1,b,([]:List T12)⟩:T14),f)
def z92_k4 (N:Nat) (a:ByteArray × T16) (vbk0_0_0_8:(List T2)) (vbk0_0_1_8:Int) (vbk0_0_2_8:Int) (vbk0_0_3_8:Int) (vbk0_0_4_8:Int) (b:(List T0)):Option (T14 × T16) :=
 (z88 N (⟨vbk0_0_0_8,vbk0_0_1_8,vbk0_0_2_8,vbk0_0_3_8,vbk0_0_4_8⟩:T16) (str [41])).bind fun c =>
 z92_k3 N a c.l' c.n' c.end' c.at' c.err' b
def z92_l5 (N:Nat) (a:ByteArray × T16):Nat→(List T2)→Int→Int→Int→Int→(List T0)→Option (T14 × T16)
 | 0,_,_,_,_,_,_=>none
 | b+1,vbk0_0_0_10,vbk0_0_1_10,vbk0_0_2_10,vbk0_0_3_10,vbk0_0_4_10,c =>
 (z91 N (⟨vbk0_0_0_10,vbk0_0_1_10,vbk0_0_2_10,vbk0_0_3_10,vbk0_0_4_10⟩:T16) (str [44])).bind fun d =>
 bif d.1 then ((z125 N d.2).bind fun e =>
 (appL c ([e.1]:List T0)).bind fun f =>
 (z92_l5 N a b) e.2.l' e.2.n' e.2.end' e.2.at' e.2.err' f)
 else z92_k4 N a d.2.l' d.2.n' d.2.end' d.2.at' d.2.err' c
def z92 (N:Nat) (a:T16):Option (T14 × T16) :=
 (z124 N a).bind fun b =>
 (z88 N b.2 (str [40])).bind fun c =>
 (z91 N c (str [41])).bind fun d =>
 bif (!d.1) then ((z125 N d.2).bind fun e =>
 (appL ([]:List T0) ([e.1]:List T0)).bind fun f =>
 z92_l5 N b N e.2.l' e.2.n' e.2.end' e.2.at' e.2.err' f)
 else z92_k3 N b d.2.l' d.2.n' d.2.end' d.2.at' d.2.err' ([]:List T0)
def z153 (N:Nat) (rc:T16→Option ((List T13) × T16)) (a:T16):Option ((List T13) × T16) :=
 (z88 N a (str [123])).bind fun b =>
 (rc b).bind fun c =>
 (z88 N c.2 (str [125])).bind fun d =>
 some (c.1,d)
def z152_k1 (N:Nat) (rc:T16→Option ((List T13) × T16)) (a:ByteArray × T16) (b:Int) (vbk0_0_0_2:(List T2)) (vbk0_0_1_2:Int) (vbk0_0_2_2:Int) (vbk0_0_3_2:Int) (vbk0_0_4_2:Int) (c:(List (List T13))):Option (T13 × T16) :=
 bif (decide (b > 0)) then ((z88 N (⟨vbk0_0_0_2,vbk0_0_1_2,vbk0_0_2_2,vbk0_0_3_2,vbk0_0_4_2⟩:T16) (str [101,108,115,101])).bind fun d =>
 (z153 N rc d).bind fun e =>
 (appL c ([e.1]:List (List T13))).bind fun f =>
 some ((⟨2,a.1,([]:List ByteArray),(str []),(str []),b,f⟩:T13),e.2))
 else some ((⟨2,a.1,([]:List ByteArray),(str []),(str []),b,c⟩:T13),(⟨vbk0_0_0_2,vbk0_0_1_2,vbk0_0_2_2,vbk0_0_3_2,vbk0_0_4_2⟩:T16))
def z152_l2 (N:Nat) (rc:T16→Option ((List T13) × T16)) (a:ByteArray × T16) (b:Int):Nat→(List T2)→Int→Int→Int→Int→(List (List T13))→Option (T13 × T16)
 | 0,_,_,_,_,_,_=>none
 | c+1,vbk0_0_0_4,vbk0_0_1_4,vbk0_0_2_4,vbk0_0_3_4,vbk0_0_4_4,d =>
 (z91 N (⟨vbk0_0_0_4,vbk0_0_1_4,vbk0_0_2_4,vbk0_0_3_4,vbk0_0_4_4⟩:T16) (str [111,114])).bind fun e =>
 bif e.1 then ((z153 N rc e.2).bind fun f =>
 (appL d ([f.1]:List (List T13))).bind fun g =>
 (z152_l2 N rc a b c) f.2.l' f.2.n' f.2.end' f.2.at' f.2.err' g)
 else z152_k1 N rc a b e.2.l' e.2.n' e.2.end' e.2.at' e.2.err' d
def z152_k3 (N:Nat) (rc:T16→Option ((List T13) × T16)) (a:ByteArray × T16) (vbk0_0_0_1:(List T2)) (vbk0_0_1_1:Int) (vbk0_0_2_1:Int) (vbk0_0_3_1:Int) (vbk0_0_4_1:Int) (b:Int):Option (T13 × T16) :=
 (z153 N rc (⟨vbk0_0_0_1,vbk0_0_1_1,vbk0_0_2_1,vbk0_0_3_1,vbk0_0_4_1⟩:T16)).bind fun c =>
 z152_l2 N rc a b N c.2.l' c.2.n' c.2.end' c.2.at' c.2.err' ([c.1]:List (List T13))
def z152 (N:Nat) (rc:T16→Option ((List T13) × T16)) (a:T16):Option (T13 × T16) :=
 (z88 N a (str [97,116])).bind fun b =>
 (z89 N b).bind fun c =>
 (z91 N c.2 (str [119,105,116,104,105,110])).bind fun d =>
 bif d.1 then ((z122 N d.2).bind fun e =>
 bif (e.Kind==2) then (bif (decide (e.Value < 1)) then ((z121 N d.2 2).bind fun f =>
 (z150 N f).bind fun g =>
 z152_k3 N rc c g.2.l' g.2.n' g.2.end' g.2.at' g.2.err' g.1)
 else bif (decide (e.Value > 1000)) then ((z121 N d.2 2).bind fun h =>
 (z150 N h).bind fun i =>
 z152_k3 N rc c i.2.l' i.2.n' i.2.end' i.2.at' i.2.err' i.1)
 else (z150 N d.2).bind fun j =>
 z152_k3 N rc c j.2.l' j.2.n' j.2.end' j.2.at' j.2.err' j.1)
 else (z150 N d.2).bind fun k =>
 z152_k3 N rc c k.2.l' k.2.n' k.2.end' k.2.at' k.2.err' k.1)
 else z152_k3 N rc c d.2.l' d.2.n' d.2.end' d.2.at' d.2.err' 0
def z127_k1 (vbk0_0_0_1:(List T2)) (vbk0_0_1_1:Int) (vbk0_0_2_1:Int) (vbk0_0_3_1:Int) (vbk0_0_4_1:Int) (a:(List (List T13))):Option (T13 × T16) :=
 some ((⟨5,(str []),([]:List ByteArray),(str []),(str []),0,a⟩:T13),(⟨vbk0_0_0_1,vbk0_0_1_1,vbk0_0_2_1,vbk0_0_3_1,vbk0_0_4_1⟩:T16))
def z127_l2 (N:Nat) (rc:T16→Option ((List T13) × T16)):Nat→(List T2)→Int→Int→Int→Int→(List (List T13))→Option (T13 × T16)
 | 0,_,_,_,_,_,_=>none
 | a+1,vbk0_0_0_3,vbk0_0_1_3,vbk0_0_2_3,vbk0_0_3_3,vbk0_0_4_3,b =>
 (z91 N (⟨vbk0_0_0_3,vbk0_0_1_3,vbk0_0_2_3,vbk0_0_3_3,vbk0_0_4_3⟩:T16) (str [97,110,100])).bind fun c =>
 bif c.1 then ((z153 N rc c.2).bind fun d =>
 (appL b ([d.1]:List (List T13))).bind fun e =>
 (z127_l2 N rc a) d.2.l' d.2.n' d.2.end' d.2.at' d.2.err' e)
 else z127_k1 c.2.l' c.2.n' c.2.end' c.2.at' c.2.err' b
def z127 (N:Nat) (rc:T16→Option ((List T13) × T16)) (a:T16):Option (T13 × T16) :=
 (z91 N a (str [99,104,111,105,99,101])).bind fun b =>
 bif b.1 then ((z152 N rc b.2).bind fun c =>
 some (c.1,c.2))
 else (z91 N b.2 (str [108,111,111,112])).bind fun d =>
 bif d.1 then ((z124 N d.2).bind fun e =>
 (z153 N rc e.2).bind fun f =>
 some ((⟨3,(str []),([]:List ByteArray),e.1,(str []),0,([f.1]:List (List T13))⟩:T13),f.2))
 else (z91 N d.2 (str [97,103,97,105,110])).bind fun g =>
 bif g.1 then ((z124 N g.2).bind fun h =>
 (z88 N h.2 (str [59])).bind fun i =>
 some ((⟨4,(str []),([]:List ByteArray),h.1,(str []),0,([]:List (List T13))⟩:T13),i))
 else (z91 N g.2 (str [112,97,114])).bind fun j =>
 bif j.1 then ((z153 N rc j.2).bind fun k =>
 (z88 N k.2 (str [97,110,100])).bind fun l =>
 (z153 N rc l).bind fun m =>
 (appL ([k.1]:List (List T13)) ([m.1]:List (List T13))).bind fun o =>
 z127_l2 N rc N m.2.l' m.2.n' m.2.end' m.2.at' m.2.err' o)
 else (z91 N j.2 (str [99,97,108,108])).bind fun p =>
 bif p.1 then ((z89 N p.2).bind fun q =>
 (z88 N q.2 (str [40])).bind fun r =>
 (z90 N r).bind fun s =>
 (z88 N s.2 (str [41])).bind fun t =>
 (z88 N t (str [97,115])).bind fun u =>
 (z89 N u).bind fun v =>
 (z88 N v.2 (str [59])).bind fun w =>
 some ((⟨6,(str []),s.1,q.1,v.1,0,([]:List (List T13))⟩:T13),w))
 else (z89 N p.2).bind fun x =>
 (z88 N x.2 (str [45,62])).bind fun y =>
 (z90 N y).bind fun z =>
 (z88 N z.2 (str [58])).bind fun A =>
 (z124 N A).bind fun B =>
 (z88 N B.2 (str [59])).bind fun C =>
 some ((⟨1,x.1,z.1,B.1,(str []),0,([]:List (List T13))⟩:T13),C)
def z93_l1 (N:Nat) (rc:T16→Option ((List T13) × T16)):Nat→(List T2)→Int→Int→Int→Int→(List T13)→Option ((List T13) × T16)
 | 0,_,_,_,_,_,_=>none
 | a+1,vbk0_0_0_1,vbk0_0_1_1,vbk0_0_2_1,vbk0_0_3_1,vbk0_0_4_1,b =>
 (z122 N (⟨vbk0_0_0_1,vbk0_0_1_1,vbk0_0_2_1,vbk0_0_3_1,vbk0_0_4_1⟩:T16)).bind fun c =>
 bif (c.Kind != 1) then (some (b,(⟨vbk0_0_0_1,vbk0_0_1_1,vbk0_0_2_1,vbk0_0_3_1,vbk0_0_4_1⟩:T16)))
 else (z32 N c.Text).bind fun d =>
 bif (!d) then ((z41 N ([(str [99,104,111,105,99,101]),(str [108,111,111,112]),(str [97,103,97,105,110]),(str [112,97,114]),(str [99,97,108,108])]:List ByteArray) c.Text).bind fun e =>
 bif (!e) then (some (b,(⟨vbk0_0_0_1,vbk0_0_1_1,vbk0_0_2_1,vbk0_0_3_1,vbk0_0_4_1⟩:T16)))
 else (z127 N rc (⟨vbk0_0_0_1,vbk0_0_1_1,vbk0_0_2_1,vbk0_0_3_1,vbk0_0_4_1⟩:T16)).bind fun f =>
 (appL b ([f.1]:List T13)).bind fun g =>
 (z93_l1 N rc a) f.2.l' f.2.n' f.2.end' f.2.at' f.2.err' g)
 else (z127 N rc (⟨vbk0_0_0_1,vbk0_0_1_1,vbk0_0_2_1,vbk0_0_3_1,vbk0_0_4_1⟩:T16)).bind fun h =>
 (appL b ([h.1]:List T13)).bind fun i =>
 (z93_l1 N rc a) h.2.l' h.2.n' h.2.end' h.2.at' h.2.err' i
def z93_b (N:Nat) (rc:T16→Option ((List T13) × T16)) (a:T16):Option ((List T13) × T16) :=
 z93_l1 N rc N a.l' a.n' a.end' a.at' a.err' ([]:List T13)
def z93_r:Nat→T16→Option ((List T13) × T16)
 | 0,_=>none
 | N+1,a0=>z93_b N (z93_r N) a0
def z93 (N:Nat) (a:T16):Option ((List T13) × T16):=z93_r N a
def z45_k1 (N:Nat) (a:ByteArray × T16) (b:(List ByteArray) × T16) (vbk0_0_0_1:(List T2)) (vbk0_0_1_1:Int) (vbk0_0_2_1:Int) (vbk0_0_3_1:Int) (vbk0_0_4_1:Int) (c:(List T14)):Option (T15 × T16) :=
 (z93 N (⟨vbk0_0_0_1,vbk0_0_1_1,vbk0_0_2_1,vbk0_0_3_1,vbk0_0_4_1⟩:T16)).bind fun d =>
 (z88 N d.2 (str [125])).bind fun e =>
 some ((⟨a.1,b.1,c,d.1⟩:T15),e)
def z45_l2 (N:Nat) (a:ByteArray × T16) (b:(List ByteArray) × T16):Nat→(List T2)→Int→Int→Int→Int→(List T14)→Option (T15 × T16)
 | 0,_,_,_,_,_,_=>none
 | c+1,vbk0_0_0_3,vbk0_0_1_3,vbk0_0_2_3,vbk0_0_3_3,vbk0_0_4_3,d =>
 (z91 N (⟨vbk0_0_0_3,vbk0_0_1_3,vbk0_0_2_3,vbk0_0_3_3,vbk0_0_4_3⟩:T16) (str [109,101,115,115,97,103,101])).bind fun e =>
 bif e.1 then ((z92 N e.2).bind fun f =>
 (appL d ([f.1]:List T14)).bind fun g =>
 (z45_l2 N a b c) f.2.l' f.2.n' f.2.end' f.2.at' f.2.err' g)
 else z45_k1 N a b e.2.l' e.2.n' e.2.end' e.2.at' e.2.err' d
def z45 (N:Nat) (a:T16):Option (T15 × T16) :=
 (z88 N a (str [112,114,111,116,111,99,111,108])).bind fun b =>
 (z89 N b).bind fun c =>
 (z88 N c.2 (str [40])).bind fun d =>
 (z90 N d).bind fun e =>
 (z88 N e.2 (str [41])).bind fun f =>
 (z88 N f (str [123])).bind fun g =>
 z45_l2 N c e N g.l' g.n' g.end' g.at' g.err' ([]:List T14)
def z69 (N:Nat) (a:ByteArray):Option Bool :=
 (z32 N a).bind fun b =>
 some (!b)
def z102_2_k1:Option Int :=
 some (-1)
def z102_2_l2 (N:Nat) (a:(List ByteArray)):Nat→Int→Option Int
 | 0,_=>none
 | b+1,c =>
 bif (decide (c < (a.length:Int))) then ((idx a c).bind fun d =>
 (z69 N d).bind fun e =>
 bif e then (some c)
 else (z102_2_l2 N a b) (w64 (c+1)))
 else z102_2_k1
def z102_2 (N:Nat) (a:(List ByteArray)):Option Int :=
 z102_2_l2 N a N 0
def z68_3 (N:Nat) (a:(List ByteArray)):Option Bool :=
 (z102_2 N a).bind fun b =>
 some (decide (b≥0))
def z33 (N:Nat) (a:(List ByteArray)) (b:Int):Option Bool :=
 bif (decide ((a.length:Int)≥1)) then (bif (decide ((a.length:Int)≤b)) then ((z68_3 N a).bind fun c =>
 some (!c))
 else some false)
 else some false
def z170_k1 (a:Int) (b:Nat):Option Int :=
 some a
def z170_l2 (a:ByteArray):Nat→Int→Nat→Option Int
 | 0,_,_=>none
 | b+1,c,d =>
 bif decide (d < a.size) then ((z170_l2 a b) (w64 (c+1)) (d+(Utf8.decode a d).2))
 else z170_k1 c d
def z170 (N:Nat) (a:ByteArray):Option Int :=
 z170_l2 a N 0 (0:Nat)
def z178 (N:Nat) (a:ByteArray):Option (Int × Int) :=
 bif (decide ((a.size:Int) < 1)) then (some (65533,0))
 else (sidx a 0).bind fun b =>
 dead 0
def z171 (N:Nat) (a:ByteArray):Option (Int × Int) :=
 bif (!(a.toList==(str []).toList)) then ((sidx a 0).bind fun b =>
 bif (decide (b < 128)) then ((sidx a 0).bind fun c =>
 some ((wk .i32 (c)),1))
 else (z178 N a).bind fun d =>
 some (d.1,d.2))
 else (z178 N a).bind fun e =>
 some (e.1,e.2)
def z160_k1 (a:Int) (b:ByteArray) (c:(List ByteArray)):Option (List ByteArray) :=
 bif (decide (a > 0)) then ((idx c (w64 (a-1))).bind fun d =>
 some (setL' c (w64 (a-1)) b))
 else some c
def z160_l2 (N:Nat) (a:Int):Nat→ByteArray→(List ByteArray)→Int→Option (List ByteArray)
 | 0,_,_,_=>none
 | b+1,c,d,e =>
 bif (decide (e < (w64 (a-1)))) then ((z171 N c).bind fun f =>
 (ssl c none (some f.2)).bind fun g =>
 (idx d e).bind fun h =>
 (ssl c (some f.2) none).bind fun i =>
 (z160_l2 N a b) i (setL' d e g) (w64 (e+1)))
 else z160_k1 a c d
def z160_k3 (N:Nat) (a:ByteArray) (b:Int):Option (List ByteArray) :=
 (mkL (str []) b b).bind fun c =>
 z160_l2 N b N a c 0
def z160_k4 (N:Nat) (a:ByteArray) (b:Int) (c:Int) (d:Bool):Option (List ByteArray) :=
 bif d then (z160_k3 N a c)
 else z160_k3 N a b
def z160 (N:Nat) (a:ByteArray) (b:Int):Option (List ByteArray) :=
 (z170 N a).bind fun c =>
 bif (decide (b < 0)) then (z160_k4 N a b c true)
 else z160_k4 N a b c (decide (b > c))
def z161_l1 (N:Nat) (a:ByteArray):Nat→ByteArray→Int→Option Int
 | 0,_,_=>none
 | b+1,c,d =>
 (z37 N c a).bind fun e =>
 bif (e==(-1)) then (some d)
 else (ssl c (some (w64 (e+(a.size:Int)))) none).bind fun f =>
 (z161_l1 N a b) f (w64 (d+1))
def z161 (N:Nat) (a:ByteArray) (b:ByteArray):Option Int :=
 bif ((b.size:Int)==0) then ((z170 N a).bind fun c =>
 some (w64 (c+1)))
 else bif ((b.size:Int)==1) then ((sidx b 0).bind fun d =>
 some (countB a d))
 else z161_l1 N b N a 0
def z139_k1 (a:ByteArray) (b:(List ByteArray)) (c:Int):Option (List ByteArray) :=
 (idx b c).bind fun d =>
 (lsl (setL' b c a) none (some (w64 (c+1)))).bind fun e =>
 some e
def z139_l2 (N:Nat) (a:ByteArray) (b:ByteArray) (c:Int) (d:Int):Nat→ByteArray→(List ByteArray)→Int→Option (List ByteArray)
 | 0,_,_,_=>none
 | e+1,f,g,h =>
 bif (decide (h < (w64 ((minI d (w64 ((a.size:Int)+1)))-1)))) then ((z37 N f b).bind fun i =>
 bif (decide (i < 0)) then (z139_k1 f g h)
 else (ssl f none (some (w64 (i+c)))).bind fun j =>
 (idx g h).bind fun k =>
 (ssl f (some (w64 (i+(b.size:Int)))) none).bind fun l =>
 (z139_l2 N a b c d e) l (setL' g h j) (w64 (h+1)))
 else z139_k1 f g h
def z139_k3 (N:Nat) (a:ByteArray) (b:ByteArray) (c:Int) (d:Int):Option (List ByteArray) :=
 (mkL (str []) (minI d (w64 ((a.size:Int)+1))) (minI d (w64 ((a.size:Int)+1)))).bind fun e =>
 z139_l2 N a b c d N a e 0
def z139 (N:Nat) (a:ByteArray) (b:ByteArray) (c:Int) (d:Int):Option (List ByteArray) :=
 bif (d==0) then (some ([]:List ByteArray))
 else bif (b.toList==(str []).toList) then ((z160 N a d).bind fun e =>
 some e)
 else bif (decide (d < 0)) then ((z161 N a b).bind fun f =>
 z139_k3 N a b c (w64 (f+1)))
 else z139_k3 N a b c d
def z104 (N:Nat) (a:ByteArray) (b:ByteArray):Option (List ByteArray) :=
 (z139 N a b 0 (-1)).bind fun c =>
 some c
def z105 (N:Nat) (a:ByteArray):Option Bool :=
 (z32 N a).bind fun b =>
 some (!b)
def z102_4_k1:Option Int :=
 some (-1)
def z102_4_l2 (N:Nat) (a:(List ByteArray)):Nat→Int→Option Int
 | 0,_=>none
 | b+1,c =>
 bif (decide (c < (a.length:Int))) then ((idx a c).bind fun d =>
 (z105 N d).bind fun e =>
 bif e then (some c)
 else (z102_4_l2 N a b) (w64 (c+1)))
 else z102_4_k1
def z102_4 (N:Nat) (a:(List ByteArray)):Option Int :=
 z102_4_l2 N a N 0
def z68_5 (N:Nat) (a:(List ByteArray)):Option Bool :=
 (z102_4 N a).bind fun b =>
 some (decide (b≥0))
def z71 (N:Nat) (a:ByteArray):Option Bool :=
 bif (decide ((a.size:Int)≤50)) then ((z104 N a (str [46])).bind fun b =>
 (z68_5 N b).bind fun c =>
 some (!c))
 else some false
def z70_k1 (N:Nat) (a:T13) (b:Bool):Option Bool :=
 bif b then (bif (a.From.toList==(str []).toList) then (bif ((a.To.length:Int)==0) then ((z71 N a.Name).bind fun c =>
 bif c then (bif (a.As.toList==(str []).toList) then (bif (a.Ticks==0) then (bif ((a.Kind==3)==((a.Blocks.length:Int)==1)) then (some (decide ((a.Blocks.length:Int)≤1)))
 else some false)
 else some false)
 else some false)
 else some false)
 else some false)
 else some false)
 else bif (a.Kind==5) then (bif (a.From.toList==(str []).toList) then (bif ((a.To.length:Int)==0) then (bif (a.Name.toList==(str []).toList) then (bif (a.As.toList==(str []).toList) then (bif (a.Ticks==0) then (bif (decide ((a.Blocks.length:Int)≥2)) then (some (decide ((a.Blocks.length:Int)≤8)))
 else some false)
 else some false)
 else some false)
 else some false)
 else some false)
 else some false)
 else bif (a.Kind==6) then (bif (a.From.toList==(str []).toList) then ((z33 N a.To 6).bind fun d =>
 bif d then ((z32 N a.Name).bind fun e =>
 bif e then ((z32 N a.As).bind fun f =>
 bif f then (bif (a.Ticks==0) then (some ((a.Blocks.length:Int)==0))
 else some false)
 else some false)
 else some false)
 else some false)
 else some false)
 else some false
def z70 (N:Nat) (a:T13):Option Bool :=
 bif (a.Kind==1) then ((z32 N a.From).bind fun b =>
 bif b then ((z33 N a.To 5).bind fun c =>
 bif c then ((z71 N a.Name).bind fun d =>
 bif d then (bif (a.As.toList==(str []).toList) then (bif (a.Ticks==0) then (some ((a.Blocks.length:Int)==0))
 else some false)
 else some false)
 else some false)
 else some false)
 else some false)
 else bif (a.Kind==2) then ((z32 N a.From).bind fun e =>
 bif e then (bif ((a.To.length:Int)==0) then (bif (a.Name.toList==(str []).toList) then (bif (a.As.toList==(str []).toList) then (bif (decide (a.Ticks≥0)) then (bif (decide (a.Ticks≤1000)) then (bif (decide ((a.Blocks.length:Int)≥(w64 (1+(minI a.Ticks 1))))) then (some (decide ((a.Blocks.length:Int)≤8)))
 else some false)
 else some false)
 else some false)
 else some false)
 else some false)
 else some false)
 else some false)
 else bif (a.Kind==3) then (z70_k1 N a true)
 else z70_k1 N a (a.Kind==4)
def z34_k1 (vbk1_1_0_1:Int):Option (Bool × Int) :=
 some (true,vbk1_1_0_1)
def z34_k3 (a:Int) (b:Int→Int→Option (Bool × Int)) (vbk1_1_0_19:Int):Option (Bool × Int) :=
 b vbk1_1_0_19 (w64 (a+1))
def z34_l4 (rc:(List T13)→Int→Int→Option (Bool × Int)) (a:Int) (b:Int) (c:Int→Int→Option (Bool × Int)) (d:T13):Nat→Int→Int→Option (Bool × Int)
 | 0,_,_=>none
 | e+1,vbk1_1_0_21,f =>
 bif (decide (f < (d.Blocks.length:Int))) then ((idx d.Blocks f).bind fun g =>
 (rc g (w64 (a+1)) vbk1_1_0_21).bind fun h =>
 bif (!h.1) then (some (false,h.2))
 else (z34_l4 rc a b c d e) h.2 (w64 (f+1)))
 else z34_k3 b c vbk1_1_0_21
def z34_l2 (N:Nat) (rc:(List T13)→Int→Int→Option (Bool × Int)) (a:(List T13)) (b:Int):Nat→Int→Int→Option (Bool × Int)
 | 0,_,_=>none
 | c+1,vbk1_1_0_12,d =>
 bif (decide (d < (a.length:Int))) then ((idx a d).bind fun e =>
 bif (decide (b > 10)) then (some (false,(w64 (vbk1_1_0_12+1))))
 else bif (decide ((w64 (vbk1_1_0_12+1)) > 300)) then (some (false,(w64 (vbk1_1_0_12+1))))
 else (z70 N e).bind fun f =>
 bif (!f) then (some (false,(w64 (vbk1_1_0_12+1))))
 else z34_l4 rc b d (z34_l2 N rc a b c) e N (w64 (vbk1_1_0_12+1)) 0)
 else z34_k1 vbk1_1_0_12
def z34_b (N:Nat) (rc:(List T13)→Int→Int→Option (Bool × Int)) (a:(List T13)) (b:Int) (c:Int):Option (Bool × Int) :=
 z34_l2 N rc a b N c 0
def z34_r:Nat→(List T13)→Int→Int→Option (Bool × Int)
 | 0,_,_,_=>none
 | N+1,a0,a1,a2=>z34_b N (z34_r N) a0 a1 a2
def z34 (N:Nat) (a:(List T13)) (b:Int) (c:Int):Option (Bool × Int):=z34_r N a b c
def z106 (N:Nat) (a:Int):Option Bool :=
 bif (decide (a≥(-999999))) then (some (decide (a≤999999)))
 else some false
def z72_k1 (N:Nat) (a:T11) (b:Bool):Option Bool :=
 bif b then ((z32 N a.Field).bind fun c =>
 bif c then (bif (a.Message.toList==(str []).toList) then (some true)
 else (z71 N a.Message).bind fun d =>
 some d)
 else some false)
 else some false
def z72 (N:Nat) (a:T11):Option Bool :=
 (z106 N a.N).bind fun b =>
 bif (!b) then (some false)
 else bif (a.Kind==1) then (bif (a.Message.toList==(str []).toList) then (some (a.Field.toList==(str []).toList))
 else some false)
 else bif (a.Kind==2) then (z72_k1 N a true)
 else z72_k1 N a (a.Kind==3)
def z35_k1:Option Bool :=
 some true
def z35_l2 (N:Nat) (a:T14):Nat→Int→Option Bool
 | 0,_=>none
 | b+1,c =>
 bif (decide (c < (a.Where.length:Int))) then ((idx a.Where c).bind fun d =>
 (z72 N d.Left).bind fun e =>
 bif (!e) then (some false)
 else (z72 N d.Right).bind fun f =>
 bif (!f) then (some false)
 else (z73 N).bind fun g =>
 (z41 N g d.Op).bind fun h =>
 bif (!h) then (some false)
 else (z35_l2 N a b) (w64 (c+1)))
 else z35_k1
def z35_k3 (N:Nat) (a:T14):Option Bool :=
 z35_l2 N a N 0
def z35_k5 (N:Nat) (a:Int) (b:Int→Option Bool) (c:T0) (d:Int):Option Bool :=
 (z32 N c.Name).bind fun e =>
 bif (!e) then (some false)
 else bif (c.Sort'.Kind != 1) then (bif (c.Sort'.Kind != 2) then (some false)
 else bif (decide ((minI c.Sort'.Lo c.Sort'.Hi) < d)) then (some false)
 else bif (decide ((maxI c.Sort'.Lo c.Sort'.Hi) > 999999)) then (some false)
 else b (w64 (a+1)))
 else bif (decide ((minI c.Sort'.Lo c.Sort'.Hi) < d)) then (some false)
 else bif (decide ((maxI c.Sort'.Lo c.Sort'.Hi) > 999999)) then (some false)
 else b (w64 (a+1))
def z35_l4 (N:Nat) (a:T14):Nat→Int→Option Bool
 | 0,_=>none
 | b+1,c =>
 bif (decide (c < (a.Fields.length:Int))) then ((idx a.Fields c).bind fun d =>
 bif (d.Sort'.Kind==2) then (z35_k5 N c (z35_l4 N a b) d 0)
 else z35_k5 N c (z35_l4 N a b) d (-999999))
 else z35_k3 N a
def z35 (N:Nat) (a:T14):Option Bool :=
 (z71 N a.Name).bind fun b =>
 bif (!b) then (some false)
 else bif (decide ((a.Fields.length:Int) > 4)) then (some false)
 else bif (decide ((a.Where.length:Int) > 6)) then (some false)
 else z35_l4 N a N 0
def z75 (N:Nat) (a:List ByteArray) (b:ByteArray):Option ByteArray:=bif (decide (a.length≤140737488355328) && decide ((joinL b.data.toList (a.map (·.data.toList))).length≤140737488355328)) then some ⟨(joinL b.data.toList (a.map (·.data.toList))).toArray⟩ else none
def repL (l:List UInt8):Nat→List UInt8
 | 0=>[]
 | n+1=>l++repL l n
def z108 (N:Nat) (a:ByteArray) (b:Int):Option ByteArray :=
 bif (decide (0≤b) && decide (b≤140737488355328)) && decide (a.size * b.toNat≤140737488355328) then some ⟨(repL a.data.toList b.toNat).toArray⟩ else none
def z140_6 (N:Nat) (a:T17):Option T17 :=
 some (⟨ByteArray.empty,a.depth'⟩:T17)
def z107_7 (N:Nat) (a:ByteArray) (b:T17):Option (Int × Unit × T17) :=
 (z140_6 N (⟨ByteArray.empty,b.depth'⟩:T17)).bind fun c =>
 (apB c.Builder a).bind fun d =>
 some ((a.size:Int),(),(⟨d,c.depth'⟩:T17))
def z74_8 (N:Nat) (a:(List ByteArray)) (b:T17):Option T17 :=
 (z108 N (str [9]) b.depth').bind fun c =>
 (z75 N a (str [])).bind fun d =>
 (catS c d).bind fun e =>
 (catS e (str [10])).bind fun f =>
 (z107_7 N f (⟨ByteArray.empty,b.depth'⟩:T17)).bind fun g =>
 some g.2.2
def z110 (N:Nat) (a:Int):Option ByteArray:=bif (decide ((-9223372036854775808)≤a) && decide (a≤9223372036854775807)) then some (itoaS a) else none
def z111_k1 (N:Nat) (a:T11) (b:ByteArray):Option ByteArray :=
 bif (decide (a.N > 0)) then ((z110 N a.N).bind fun c =>
 (catS (str [32,43,32]) c).bind fun d =>
 (catS b d).bind fun e =>
 some e)
 else bif (decide (a.N < 0)) then ((z110 N (w64 (0-a.N))).bind fun f =>
 (catS (str [32,45,32]) f).bind fun g =>
 (catS b g).bind fun h =>
 some h)
 else some b
def z111_k2 (N:Nat) (a:T11) (b:ByteArray):Option ByteArray :=
 bif (a.Kind==3) then ((catS (str [108,101,110,40]) b).bind fun c =>
 (catS c (str [41])).bind fun d =>
 z111_k1 N a d)
 else z111_k1 N a b
def z111 (N:Nat) (a:T11):Option ByteArray :=
 bif (a.Kind==1) then ((z110 N a.N).bind fun b =>
 some b)
 else bif (!(a.Message.toList==(str []).toList)) then ((catS a.Message (str [46])).bind fun c =>
 (catS c a.Field).bind fun d =>
 z111_k2 N a d)
 else z111_k2 N a a.Field
def z140_9 (N:Nat) (a:T17):Option Unit :=
 some ()
def z107_10 (N:Nat) (a:ByteArray) (b:T17):Option (Int × Unit × T17) :=
 (z140_9 N b).bind fun c =>
 (apB b.Builder a).bind fun d =>
 some ((a.size:Int),(),(⟨d,b.depth'⟩:T17))
def z74_11 (N:Nat) (a:(List ByteArray)) (b:T17):Option T17 :=
 (z108 N (str [9]) b.depth').bind fun c =>
 (z75 N a (str [])).bind fun d =>
 (catS c d).bind fun e =>
 (catS e (str [10])).bind fun f =>
 (z107_10 N f b).bind fun g =>
 some g.2.2
def z76_12_k1 (N:Nat) (a:T14) (b:T17) (c:(List ByteArray)) (d:(List ByteArray)):Option T17 :=
 bif (decide ((d.length:Int) > 0)) then ((z75 N d (str [32,97,110,100,32])).bind fun e =>
 (catS (str [32,119,104,101,114,101,32]) e).bind fun f =>
 (z75 N c (str [44,32])).bind fun g =>
 (z74_11 N ([(str [109,101,115,115,97,103,101,32]),a.Name,(str [40]),g,(str [41]),f,(str [59])]:List ByteArray) b).bind fun h =>
 some h)
 else (z75 N c (str [44,32])).bind fun i =>
 (z74_11 N ([(str [109,101,115,115,97,103,101,32]),a.Name,(str [40]),i,(str [41]),(str []),(str [59])]:List ByteArray) b).bind fun j =>
 some j
def z76_12_l2 (N:Nat) (a:T14) (b:T17) (c:(List ByteArray)):Nat→(List ByteArray)→Int→Option T17
 | 0,_,_=>none
 | d+1,e,f =>
 bif (decide (f < (a.Where.length:Int))) then ((idx a.Where f).bind fun g =>
 (z111 N g.Left).bind fun h =>
 (catS h (str [32])).bind fun i =>
 (catS i g.Op).bind fun j =>
 (catS j (str [32])).bind fun k =>
 (z111 N g.Right).bind fun l =>
 (catS k l).bind fun m =>
 (appL e ([m]:List ByteArray)).bind fun o =>
 (z76_12_l2 N a b c d) o (w64 (f+1)))
 else z76_12_k1 N a b c e
def z76_12_k3 (N:Nat) (a:T14) (b:T17) (c:(List ByteArray)):Option T17 :=
 z76_12_l2 N a b c N ([]:List ByteArray) 0
def z76_12_k5 (N:Nat) (a:(List ByteArray)) (b:Int) (c:(List ByteArray)→Int→Option T17) (d:T0) (e:ByteArray):Option T17 :=
 (catS d.Name e).bind fun f =>
 (z110 N d.Sort'.Lo).bind fun g =>
 (catS f g).bind fun h =>
 (catS h (str [46,46])).bind fun i =>
 (z110 N d.Sort'.Hi).bind fun j =>
 (catS i j).bind fun k =>
 (appL a ([k]:List ByteArray)).bind fun l =>
 c l (w64 (b+1))
def z76_12_l4 (N:Nat) (a:T14) (b:T17):Nat→(List ByteArray)→Int→Option T17
 | 0,_,_=>none
 | c+1,d,e =>
 bif (decide (e < (a.Fields.length:Int))) then ((idx a.Fields e).bind fun f =>
 bif (f.Sort'.Kind==2) then (z76_12_k5 N d e (z76_12_l4 N a b c) f (str [58,32,116,101,120,116,32]))
 else z76_12_k5 N d e (z76_12_l4 N a b c) f (str [58,32,105,110,116,32]))
 else z76_12_k3 N a b d
def z76_12 (N:Nat) (a:T14) (b:T17):Option T17 :=
 z76_12_l4 N a b N ([]:List ByteArray) 0
def z112_13_k1 (N:Nat) (vbk1_1_1_1:ByteArray) (vbk1_1_2_1:Int):Option T17 :=
 (z74_11 N ([(str [125])]:List ByteArray) (⟨vbk1_1_1_1,vbk1_1_2_1⟩:T17)).bind fun a =>
 some a
def z112_13_k3 (rc:(List T13)→T17→Option T17) (a:Int) (b:ByteArray→Int→Int→Option T17) (c:(List T13)) (vbk1_1_1_9:ByteArray) (vbk1_1_2_9:Int):Option T17 :=
 (rc c (⟨vbk1_1_1_9,(w64 (vbk1_1_2_9+1))⟩:T17)).bind fun d =>
 b d.Builder (w64 (d.depth'-1)) (w64 (a+1))
def z112_13_l2 (N:Nat) (rc:(List T13)→T17→Option T17) (a:ByteArray) (b:ByteArray) (c:ByteArray) (d:(List (List T13))):Nat→ByteArray→Int→Int→Option T17
 | 0,_,_,_=>none
 | e+1,vbk1_1_1_6,vbk1_1_2_6,f =>
 bif (decide (f < (d.length:Int))) then ((idx d f).bind fun g =>
 bif (f==0) then ((z74_11 N ([a,(str [32,123])]:List ByteArray) (⟨vbk1_1_1_6,vbk1_1_2_6⟩:T17)).bind fun h =>
 z112_13_k3 rc f (z112_13_l2 N rc a b c d e) g h.Builder h.depth')
 else bif (f==(w64 ((d.length:Int)-1))) then (bif (!(c.toList==(str []).toList)) then ((z74_11 N ([(str [125,32]),c,(str [32,123])]:List ByteArray) (⟨vbk1_1_1_6,vbk1_1_2_6⟩:T17)).bind fun i =>
 z112_13_k3 rc f (z112_13_l2 N rc a b c d e) g i.Builder i.depth')
 else (z74_11 N ([(str [125,32]),b,(str [32,123])]:List ByteArray) (⟨vbk1_1_1_6,vbk1_1_2_6⟩:T17)).bind fun j =>
 z112_13_k3 rc f (z112_13_l2 N rc a b c d e) g j.Builder j.depth')
 else (z74_11 N ([(str [125,32]),b,(str [32,123])]:List ByteArray) (⟨vbk1_1_1_6,vbk1_1_2_6⟩:T17)).bind fun k =>
 z112_13_k3 rc f (z112_13_l2 N rc a b c d e) g k.Builder k.depth')
 else z112_13_k1 N vbk1_1_1_6 vbk1_1_2_6
def z112_13 (N:Nat) (rc:(List T13)→T17→Option T17) (a:ByteArray) (b:ByteArray) (c:ByteArray) (d:(List (List T13))) (e:T17):Option T17 :=
 z112_13_l2 N rc a b c d N e.Builder e.depth' 0
def z77_14_k1 (vbk1_1_1_1:ByteArray) (vbk1_1_2_1:Int):Option T17 :=
 some (⟨vbk1_1_1_1,vbk1_1_2_1⟩:T17)
def z77_14_l2 (N:Nat) (rc:(List T13)→T17→Option T17) (a:(List T13)):Nat→ByteArray→Int→Int→Option T17
 | 0,_,_,_=>none
 | b+1,vbk1_1_1_3,vbk1_1_2_3,c =>
 bif (decide (c < (a.length:Int))) then ((idx a c).bind fun d =>
 bif (d.Kind==1) then ((z75 N d.To (str [44,32])).bind fun e =>
 (z74_11 N ([d.From,(str [32,45,62,32]),e,(str [58,32]),d.Name,(str [59])]:List ByteArray) (⟨vbk1_1_1_3,vbk1_1_2_3⟩:T17)).bind fun f =>
 (z77_14_l2 N rc a b) f.Builder f.depth' (w64 (c+1)))
 else bif (d.Kind==2) then (bif (decide (d.Ticks > 0)) then ((catS (str [99,104,111,105,99,101,32,97,116,32]) d.From).bind fun g =>
 (catS g (str [32,119,105,116,104,105,110,32])).bind fun h =>
 (z110 N d.Ticks).bind fun i =>
 (catS h i).bind fun j =>
 (z112_13 N rc j (str [111,114]) (str [101,108,115,101]) d.Blocks (⟨vbk1_1_1_3,vbk1_1_2_3⟩:T17)).bind fun k =>
 (z77_14_l2 N rc a b) k.Builder k.depth' (w64 (c+1)))
 else (catS (str [99,104,111,105,99,101,32,97,116,32]) d.From).bind fun l =>
 (z112_13 N rc l (str [111,114]) (str []) d.Blocks (⟨vbk1_1_1_3,vbk1_1_2_3⟩:T17)).bind fun m =>
 (z77_14_l2 N rc a b) m.Builder m.depth' (w64 (c+1)))
 else bif (d.Kind==3) then ((catS (str [108,111,111,112,32]) d.Name).bind fun o =>
 (z112_13 N rc o (str []) (str []) d.Blocks (⟨vbk1_1_1_3,vbk1_1_2_3⟩:T17)).bind fun p =>
 (z77_14_l2 N rc a b) p.Builder p.depth' (w64 (c+1)))
 else bif (d.Kind==4) then ((z74_11 N ([(str [97,103,97,105,110,32]),d.Name,(str [59])]:List ByteArray) (⟨vbk1_1_1_3,vbk1_1_2_3⟩:T17)).bind fun q =>
 (z77_14_l2 N rc a b) q.Builder q.depth' (w64 (c+1)))
 else bif (d.Kind==5) then ((z112_13 N rc (str [112,97,114]) (str [97,110,100]) (str []) d.Blocks (⟨vbk1_1_1_3,vbk1_1_2_3⟩:T17)).bind fun r =>
 (z77_14_l2 N rc a b) r.Builder r.depth' (w64 (c+1)))
 else bif (d.Kind==6) then ((z75 N d.To (str [44,32])).bind fun s =>
 (z74_11 N ([(str [99,97,108,108,32]),d.Name,(str [40]),s,(str [41,32,97,115,32]),d.As,(str [59])]:List ByteArray) (⟨vbk1_1_1_3,vbk1_1_2_3⟩:T17)).bind fun t =>
 (z77_14_l2 N rc a b) t.Builder t.depth' (w64 (c+1)))
 else (z77_14_l2 N rc a b) vbk1_1_1_3 vbk1_1_2_3 (w64 (c+1)))
 else z77_14_k1 vbk1_1_1_3 vbk1_1_2_3
def z77_14_b (N:Nat) (rc:(List T13)→T17→Option T17) (a:(List T13)) (b:T17):Option T17 :=
 z77_14_l2 N rc a N b.Builder b.depth' 0
def z77_14_r:Nat→(List T13)→T17→Option T17
 | 0,_,_=>none
 | N+1,a0,a1=>z77_14_b N (z77_14_r N) a0 a1
def z77_14 (N:Nat) (a:(List T13)) (b:T17):Option T17:=z77_14_r N a b
def z78_15 (N:Nat) (a:T17):Option ByteArray :=
 (gdB a.Builder).bind fun b =>
 (gdB a.Builder).bind fun c =>
 some a.Builder
def z78_16 (N:Nat) (a:T17):Option ByteArray :=
 some ByteArray.empty
def z36_k2 (N:Nat) (a:Int) (b:ByteArray→Int→Int→Option ByteArray) (c:T15) (d:ByteArray) (e:Int):Option ByteArray :=
 (z77_14 N c.Body (⟨d,e⟩:T17)).bind fun f =>
 (z74_11 N ([(str [125])]:List ByteArray) (⟨f.Builder,(w64 (f.depth'-1))⟩:T17)).bind fun g =>
 b g.Builder g.depth' (w64 (a+1))
def z36_l3 (N:Nat) (a:Int) (b:ByteArray→Int→Int→Option ByteArray) (c:T15):Nat→ByteArray→Int→Int→Option ByteArray
 | 0,_,_,_=>none
 | d+1,e,f,g =>
 bif (decide (g < (c.Messages.length:Int))) then ((idx c.Messages g).bind fun h =>
 (z76_12 N h (⟨e,f⟩:T17)).bind fun i =>
 (z36_l3 N a b c d) i.Builder i.depth' (w64 (g+1)))
 else z36_k2 N a b c e f
def z36_l1 (N:Nat) (a:(List T15)):Nat→ByteArray→Int→Int→Option ByteArray
 | 0,_,_,_=>none
 | b+1,c,d,e =>
 bif (decide (e < (a.length:Int))) then ((idx a e).bind fun f =>
 (z75 N f.Roles (str [44,32])).bind fun g =>
 (z74_11 N ([(str [112,114,111,116,111,99,111,108,32]),f.Name,(str [40]),g,(str [41,32,123])]:List ByteArray) (⟨c,d⟩:T17)).bind fun h =>
 z36_l3 N e (z36_l1 N a b) f N h.Builder (w64 (h.depth'+1)) 0)
 else (z78_15 N (⟨c,d⟩:T17)).bind fun i =>
 some i
def z36_k4 (N:Nat) (a:(List T15)) (b:T15) (c:ByteArray) (d:Int):Option ByteArray :=
 (z77_14 N b.Body (⟨c,d⟩:T17)).bind fun e =>
 (z74_11 N ([(str [125])]:List ByteArray) (⟨e.Builder,(w64 (e.depth'-1))⟩:T17)).bind fun f =>
 z36_l1 N a N f.Builder f.depth' (w64 (0+1))
def z36_l5 (N:Nat) (a:(List T15)) (b:T15):Nat→ByteArray→Int→Int→Option ByteArray
 | 0,_,_,_=>none
 | c+1,d,e,f =>
 bif (decide (f < (b.Messages.length:Int))) then ((idx b.Messages f).bind fun g =>
 (z76_12 N g (⟨d,e⟩:T17)).bind fun h =>
 (z36_l5 N a b c) h.Builder h.depth' (w64 (f+1)))
 else z36_k4 N a b d e
def z36 (N:Nat) (a:(List T15)):Option ByteArray :=
 bif (decide (0 < (a.length:Int))) then ((idx a 0).bind fun b =>
 (z75 N b.Roles (str [44,32])).bind fun c =>
 (z74_8 N ([(str [112,114,111,116,111,99,111,108,32]),b.Name,(str [40]),c,(str [41,32,123])]:List ByteArray) (⟨ByteArray.empty,0⟩:T17)).bind fun d =>
 z36_l5 N a b N d.Builder (w64 (d.depth'+1)) 0)
 else (z78_16 N (⟨ByteArray.empty,0⟩:T17)).bind fun e =>
 some e
def z11_k1 (N:Nat) (a:(List T15)):Option Bool :=
 (z36 N a).bind fun b =>
 some (decide ((b.size:Int)≤8000))
def z11_k3 (a:Int) (b:Int→Option Bool):Option Bool :=
 b (w64 (a+1))
def z11_l4 (N:Nat) (a:Int) (b:Int→Option Bool) (c:T15):Nat→Int→Option Bool
 | 0,_=>none
 | d+1,e =>
 bif (decide (e < (c.Messages.length:Int))) then ((idx c.Messages e).bind fun f =>
 (z35 N f).bind fun g =>
 bif (!g) then (some false)
 else (z11_l4 N a b c d) (w64 (e+1)))
 else z11_k3 a b
def z11_l2 (N:Nat) (a:(List T15)):Nat→Int→Option Bool
 | 0,_=>none
 | b+1,c =>
 bif (decide (c < (a.length:Int))) then ((idx a c).bind fun d =>
 (z32 N d.Name).bind fun e =>
 bif (!e) then (some false)
 else (z33 N d.Roles 6).bind fun f =>
 bif (!f) then (some false)
 else bif (decide ((d.Messages.length:Int) > 40)) then (some false)
 else (z34 N d.Body 1 0).bind fun g =>
 bif (!g.1) then (some false)
 else z11_l4 N c (z11_l2 N a b) d N 0)
 else z11_k1 N a
def z11 (N:Nat) (a:(List T15)):Option Bool :=
 bif (decide ((a.length:Int) > 10)) then (some false)
 else z11_l2 N a N 0
def z22_k1 (N:Nat) (a:(List T15)) (b:(List T2)) (c:Int) (d:Int) (e:Int) (f:Int):Option ((List T15) × Int × Int) :=
 bif (f != 0) then (some (([]:List T15),e,f))
 else (z11 N a).bind fun g =>
 bif (!g) then (some (([]:List T15),0,6))
 else some (a,0,0)
def z22_l2 (N:Nat) (a:(List T2) × Int × Int):Nat→(List T15)→(List T2)→Int→Int→Int→Int→Option ((List T15) × Int × Int)
 | 0,_,_,_,_,_,_=>none
 | b+1,c,d,e,f,g,h =>
 bif (decide (e < (a.1.length:Int))) then (bif (h==0) then ((z45 N (⟨d,e,f,g,h⟩:T16)).bind fun i =>
 (appL c ([i.1]:List T15)).bind fun j =>
 (z22_l2 N a b) j i.2.l' i.2.n' i.2.end' i.2.at' i.2.err')
 else z22_k1 N c d e f g h)
 else z22_k1 N c d e f g h
def z22 (N:Nat) (a:ByteArray):Option ((List T15) × Int × Int) :=
 (z44 N a).bind fun b =>
 bif (b.2.2 != 0) then (some (([]:List T15),b.2.1,b.2.2))
 else z22_l2 N b N ([]:List T15) b.1 0 (a.size:Int) 0 0
def z24_17 (N:Nat) (a:T15) (b:T15):Option Bool :=
 some (a.Name.toList==b.Name.toList)
def z46_18_k1:Option Int :=
 some (-1)
def z46_18_l2 (N:Nat) (a:(List T15)) (b:T15):Nat→Int→Option Int
 | 0,_=>none
 | c+1,d =>
 bif (decide (d < (a.length:Int))) then ((idx a d).bind fun e =>
 (z24_17 N e b).bind fun f =>
 bif f then (some d)
 else (z46_18_l2 N a b c) (w64 (d+1)))
 else z46_18_k1
def z46_18 (N:Nat) (a:(List T15)) (b:T15):Option Int :=
 z46_18_l2 N a b N 0
def z23_19 (N:Nat) (a:(List T15)) (b:T15):Option Bool :=
 (z46_18 N a b).bind fun c =>
 some (decide (c≥0))
def z26 (N:Nat) (a:(List ByteArray)) (b:Int):Option Bool :=
 (lsl a none (some b)).bind fun c =>
 (idx a b).bind fun d =>
 (z41 N c d).bind fun e =>
 some e
def z48_20 (N:Nat) (a:T14) (b:T14):Option Bool :=
 some (a.Name.toList==b.Name.toList)
def z94_21_k1:Option Int :=
 some (-1)
def z94_21_l2 (N:Nat) (a:(List T14)) (b:T14):Nat→Int→Option Int
 | 0,_=>none
 | c+1,d =>
 bif (decide (d < (a.length:Int))) then ((idx a d).bind fun e =>
 (z48_20 N e b).bind fun f =>
 bif f then (some d)
 else (z94_21_l2 N a b c) (w64 (d+1)))
 else z94_21_k1
def z94_21 (N:Nat) (a:(List T14)) (b:T14):Option Int :=
 z94_21_l2 N a b N 0
def z47_22 (N:Nat) (a:(List T14)) (b:T14):Option Bool :=
 (z94_21 N a b).bind fun c =>
 some (decide (c≥0))
def z50_23 (N:Nat) (a:T0) (b:T0):Option Bool :=
 some (a.Name.toList==b.Name.toList)
def z95_24_k1:Option Int :=
 some (-1)
def z95_24_l2 (N:Nat) (a:(List T0)) (b:T0):Nat→Int→Option Int
 | 0,_=>none
 | c+1,d =>
 bif (decide (d < (a.length:Int))) then ((idx a d).bind fun e =>
 (z50_23 N e b).bind fun f =>
 bif f then (some d)
 else (z95_24_l2 N a b c) (w64 (d+1)))
 else z95_24_k1
def z95_24 (N:Nat) (a:(List T0)) (b:T0):Option Int :=
 z95_24_l2 N a b N 0
def z49_25 (N:Nat) (a:(List T0)) (b:T0):Option Bool :=
 (z95_24 N a b).bind fun c =>
 some (decide (c≥0))
def z96_26 (N:Nat) (a:T14) (b:T11):Option Bool :=
 some (a.Name.toList==b.Message.toList)
def z94_27_k1:Option Int :=
 some (-1)
def z94_27_l2 (N:Nat) (a:(List T14)) (b:T11):Nat→Int→Option Int
 | 0,_=>none
 | c+1,d =>
 bif (decide (d < (a.length:Int))) then ((idx a d).bind fun e =>
 (z96_26 N e b).bind fun f =>
 bif f then (some d)
 else (z94_27_l2 N a b c) (w64 (d+1)))
 else z94_27_k1
def z94_27 (N:Nat) (a:(List T14)) (b:T11):Option Int :=
 z94_27_l2 N a b N 0
def z97_28 (N:Nat) (a:T0) (b:T11):Option Bool :=
 some (a.Name.toList==b.Field.toList)
def z95_29_k1:Option Int :=
 some (-1)
def z95_29_l2 (N:Nat) (a:(List T0)) (b:T11):Nat→Int→Option Int
 | 0,_=>none
 | c+1,d =>
 bif (decide (d < (a.length:Int))) then ((idx a d).bind fun e =>
 (z97_28 N e b).bind fun f =>
 bif f then (some d)
 else (z95_29_l2 N a b c) (w64 (d+1)))
 else z95_29_k1
def z95_29 (N:Nat) (a:(List T0)) (b:T11):Option Int :=
 z95_29_l2 N a b N 0
def z51_k1 (N:Nat) (a:T11) (b:ByteArray) (c:(List T0)) (d:(List T12)):Option Int :=
 (z95_29 N c a).bind fun e =>
 bif (decide (e < 0)) then (some 0)
 else (idx c e).bind fun f =>
 some f.Sort'.Kind
def z51 (N:Nat) (a:T5) (b:T14) (c:T11):Option Int :=
 bif (!(c.Message.toList==(str []).toList)) then ((z94_27 N a.p'.Messages c).bind fun d =>
 bif (decide (d < 0)) then (some 0)
 else (idx a.p'.Messages d).bind fun e =>
 z51_k1 N c e.Name e.Fields e.Where)
 else z51_k1 N c b.Name b.Fields b.Where
def z52 (N:Nat) (a:(List T6)):Option (List T6) :=
 (appL ([]:List T6) a).bind fun b =>
 some b
def z98_30 (N:Nat) (a:T14) (b:T13):Option Bool :=
 some (a.Name.toList==b.Name.toList)
def z94_31_k1:Option Int :=
 some (-1)
def z94_31_l2 (N:Nat) (a:(List T14)) (b:T13):Nat→Int→Option Int
 | 0,_=>none
 | c+1,d =>
 bif (decide (d < (a.length:Int))) then ((idx a d).bind fun e =>
 (z98_30 N e b).bind fun f =>
 bif f then (some d)
 else (z94_31_l2 N a b c) (w64 (d+1)))
 else z94_31_k1
def z94_31 (N:Nat) (a:(List T14)) (b:T13):Option Int :=
 z94_31_l2 N a b N 0
def z47_32 (N:Nat) (a:(List T14)) (b:T13):Option Bool :=
 (z94_31 N a b).bind fun c =>
 some (decide (c≥0))
def z56_33 (N:Nat) (a:T6) (b:T13):Option Bool :=
 some (a.name'.toList==b.Name.toList)
def z57_34_k1:Option Int :=
 some (-1)
def z57_34_l2 (N:Nat) (a:(List T6)) (b:T13):Nat→Int→Option Int
 | 0,_=>none
 | c+1,d =>
 bif (decide (d < (a.length:Int))) then ((idx a d).bind fun e =>
 (z56_33 N e b).bind fun f =>
 bif f then (some d)
 else (z57_34_l2 N a b c) (w64 (d+1)))
 else z57_34_k1
def z57_34 (N:Nat) (a:(List T6)) (b:T13):Option Int :=
 z57_34_l2 N a b N 0
def z55_35 (N:Nat) (a:(List T6)) (b:T13):Option Bool :=
 (z57_34 N a b).bind fun c =>
 some (decide (c≥0))
def z58_36 (N:Nat) (a:T6) (b:T13):Option Bool :=
 bif (a.name'.toList==b.Name.toList) then (some (!a.hidden'))
 else some false
def z57_37_k1:Option Int :=
 some (-1)
def z57_37_l2 (N:Nat) (a:(List T6)) (b:T13):Nat→Int→Option Int
 | 0,_=>none
 | c+1,d =>
 bif (decide (d < (a.length:Int))) then ((idx a d).bind fun e =>
 (z58_36 N e b).bind fun f =>
 bif f then (some d)
 else (z57_37_l2 N a b c) (w64 (d+1)))
 else z57_37_k1
def z57_37 (N:Nat) (a:(List T6)) (b:T13):Option Int :=
 z57_37_l2 N a b N 0
def z99_38 (N:Nat) (a:T15) (b:T13):Option Bool :=
 some (a.Name.toList==b.Name.toList)
def z46_39_k1:Option Int :=
 some (-1)
def z46_39_l2 (N:Nat) (a:(List T15)) (b:T13):Nat→Int→Option Int
 | 0,_=>none
 | c+1,d =>
 bif (decide (d < (a.length:Int))) then ((idx a d).bind fun e =>
 (z99_38 N e b).bind fun f =>
 bif f then (some d)
 else (z46_39_l2 N a b c) (w64 (d+1)))
 else z46_39_k1
def z46_39 (N:Nat) (a:(List T15)) (b:T13):Option Int :=
 z46_39_l2 N a b N 0
def z25 (N:Nat) (a:T5) (b:ByteArray) (c:Int):Option T5 :=
 bif (a.out'.Err==0) then (some (⟨a.all',a.p',a.calls',(⟨a.p'.Name,b,c⟩:T4)⟩:T5))
 else some a
def z54 (N:Nat) (a:T5) (b:(List ByteArray)) (c:Int):Option T5 :=
 (idx b c).bind fun d =>
 (z41 N a.p'.Roles d).bind fun e =>
 bif (!e) then ((idx b c).bind fun f =>
 (z25 N a f 12).bind fun g =>
 some g)
 else (z26 N b c).bind fun h =>
 bif h then ((idx b c).bind fun i =>
 (z25 N a i 12).bind fun j =>
 some j)
 else some a
def z59_k1 (N:Nat) (a:T13) (vbk0_0_0_2:(List T15)) (vbk0_0_1_2:ByteArray) (vbk0_0_2_2:(List ByteArray)) (vbk0_0_3_2:(List T14)) (vbk0_0_4_2:(List T13)) (vbk0_0_5_2:(List ByteArray)) (vbk0_0_6_2:ByteArray) (vbk0_0_7_2:ByteArray) (vbk0_0_8_2:Int):Option T5 :=
 (z41 N vbk0_0_5_2 a.As).bind fun b =>
 bif b then ((z25 N (⟨vbk0_0_0_2,(⟨vbk0_0_1_2,vbk0_0_2_2,vbk0_0_3_2,vbk0_0_4_2⟩:T15),vbk0_0_5_2,(⟨vbk0_0_6_2,vbk0_0_7_2,vbk0_0_8_2⟩:T4)⟩:T5) a.As 9).bind fun c =>
 (appL c.calls' ([a.As]:List ByteArray)).bind fun d =>
 some (⟨c.all',c.p',d,c.out'⟩:T5))
 else (appL vbk0_0_5_2 ([a.As]:List ByteArray)).bind fun e =>
 some (⟨vbk0_0_0_2,(⟨vbk0_0_1_2,vbk0_0_2_2,vbk0_0_3_2,vbk0_0_4_2⟩:T15),e,(⟨vbk0_0_6_2,vbk0_0_7_2,vbk0_0_8_2⟩:T4)⟩:T5)
def z59_l2 (N:Nat) (a:T13):Nat→(List T15)→ByteArray→(List ByteArray)→(List T14)→(List T13)→(List ByteArray)→ByteArray→ByteArray→Int→Int→Option T5
 | 0,_,_,_,_,_,_,_,_,_,_=>none
 | b+1,vbk0_0_0_4,vbk0_0_1_4,vbk0_0_2_4,vbk0_0_3_4,vbk0_0_4_4,vbk0_0_5_4,vbk0_0_6_4,vbk0_0_7_4,vbk0_0_8_4,c =>
 bif (decide (c < (a.To.length:Int))) then ((z54 N (⟨vbk0_0_0_4,(⟨vbk0_0_1_4,vbk0_0_2_4,vbk0_0_3_4,vbk0_0_4_4⟩:T15),vbk0_0_5_4,(⟨vbk0_0_6_4,vbk0_0_7_4,vbk0_0_8_4⟩:T4)⟩:T5) a.To c).bind fun d =>
 (z59_l2 N a b) d.all' d.p'.Name d.p'.Roles d.p'.Messages d.p'.Body d.calls' d.out'.Protocol d.out'.Name d.out'.Err (w64 (c+1)))
 else z59_k1 N a vbk0_0_0_4 vbk0_0_1_4 vbk0_0_2_4 vbk0_0_3_4 vbk0_0_4_4 vbk0_0_5_4 vbk0_0_6_4 vbk0_0_7_4 vbk0_0_8_4
def z59_k3 (N:Nat) (a:T13) (vbk0_0_0_1:(List T15)) (vbk0_0_1_1:ByteArray) (vbk0_0_2_1:(List ByteArray)) (vbk0_0_3_1:(List T14)) (vbk0_0_4_1:(List T13)) (vbk0_0_5_1:(List ByteArray)) (vbk0_0_6_1:ByteArray) (vbk0_0_7_1:ByteArray) (vbk0_0_8_1:Int):Option T5 :=
 z59_l2 N a N vbk0_0_0_1 vbk0_0_1_1 vbk0_0_2_1 vbk0_0_3_1 vbk0_0_4_1 vbk0_0_5_1 vbk0_0_6_1 vbk0_0_7_1 vbk0_0_8_1 0
def z59 (N:Nat) (a:T5) (b:T13):Option T5 :=
 (z46_39 N a.all' b).bind fun c =>
 bif (decide (c < 0)) then ((z25 N a b.Name 10).bind fun d =>
 some d)
 else (idx a.all' c).bind fun e =>
 bif ((e.Roles.length:Int) != (b.To.length:Int)) then ((z25 N a b.Name 1).bind fun f =>
 z59_k3 N b f.all' f.p'.Name f.p'.Roles f.p'.Messages f.p'.Body f.calls' f.out'.Protocol f.out'.Name f.out'.Err)
 else z59_k3 N b a.all' a.p'.Name a.p'.Roles a.p'.Messages a.p'.Body a.calls' a.out'.Protocol a.out'.Name a.out'.Err
def z53_k1 (N:Nat) (a:T13) (vbk0_0_0_1:(List T15)) (vbk0_0_1_1:ByteArray) (vbk0_0_2_1:(List ByteArray)) (vbk0_0_3_1:(List T14)) (vbk0_0_4_1:(List T13)) (vbk0_0_5_1:(List ByteArray)) (vbk0_0_6_1:ByteArray) (vbk0_0_7_1:ByteArray) (vbk0_0_8_1:Int):Option T5 :=
 (z47_32 N vbk0_0_3_1 a).bind fun b =>
 bif (!b) then ((z25 N (⟨vbk0_0_0_1,(⟨vbk0_0_1_1,vbk0_0_2_1,vbk0_0_3_1,vbk0_0_4_1⟩:T15),vbk0_0_5_1,(⟨vbk0_0_6_1,vbk0_0_7_1,vbk0_0_8_1⟩:T4)⟩:T5) a.Name 10).bind fun c =>
 some c)
 else some (⟨vbk0_0_0_1,(⟨vbk0_0_1_1,vbk0_0_2_1,vbk0_0_3_1,vbk0_0_4_1⟩:T15),vbk0_0_5_1,(⟨vbk0_0_6_1,vbk0_0_7_1,vbk0_0_8_1⟩:T4)⟩:T5)
def z53_l2 (N:Nat) (a:T13) (b:(List ByteArray)):Nat→(List T15)→ByteArray→(List ByteArray)→(List T14)→(List T13)→(List ByteArray)→ByteArray→ByteArray→Int→Int→Option T5
 | 0,_,_,_,_,_,_,_,_,_,_=>none
 | c+1,vbk0_0_0_3,vbk0_0_1_3,vbk0_0_2_3,vbk0_0_3_3,vbk0_0_4_3,vbk0_0_5_3,vbk0_0_6_3,vbk0_0_7_3,vbk0_0_8_3,d =>
 bif (decide (d < (b.length:Int))) then ((z54 N (⟨vbk0_0_0_3,(⟨vbk0_0_1_3,vbk0_0_2_3,vbk0_0_3_3,vbk0_0_4_3⟩:T15),vbk0_0_5_3,(⟨vbk0_0_6_3,vbk0_0_7_3,vbk0_0_8_3⟩:T4)⟩:T5) b d).bind fun e =>
 (z53_l2 N a b c) e.all' e.p'.Name e.p'.Roles e.p'.Messages e.p'.Body e.calls' e.out'.Protocol e.out'.Name e.out'.Err (w64 (d+1)))
 else z53_k1 N a vbk0_0_0_3 vbk0_0_1_3 vbk0_0_2_3 vbk0_0_3_3 vbk0_0_4_3 vbk0_0_5_3 vbk0_0_6_3 vbk0_0_7_3 vbk0_0_8_3
def z53 (N:Nat) (a:T5) (b:T13):Option T5 :=
 (appL ([b.From]:List ByteArray) b.To).bind fun c =>
 z53_l2 N b c N a.all' a.p'.Name a.p'.Roles a.p'.Messages a.p'.Body a.calls' a.out'.Protocol a.out'.Name a.out'.Err 0
def z29_k1 (vbk0_0_0_1:(List T15)) (vbk0_0_1_1:ByteArray) (vbk0_0_2_1:(List ByteArray)) (vbk0_0_3_1:(List T14)) (vbk0_0_4_1:(List T13)) (vbk0_0_5_1:(List ByteArray)) (vbk0_0_6_1:ByteArray) (vbk0_0_7_1:ByteArray) (vbk0_0_8_1:Int):Option T5 :=
 some (⟨vbk0_0_0_1,(⟨vbk0_0_1_1,vbk0_0_2_1,vbk0_0_3_1,vbk0_0_4_1⟩:T15),vbk0_0_5_1,(⟨vbk0_0_6_1,vbk0_0_7_1,vbk0_0_8_1⟩:T4)⟩:T5)
def z29_k3 (a:Int) (b:(List T15)→ByteArray→(List ByteArray)→(List T14)→(List T13)→(List ByteArray)→ByteArray→ByteArray→Int→Int→Option T5) (vbk0_0_0_59:(List T15)) (vbk0_0_1_59:ByteArray) (vbk0_0_2_59:(List ByteArray)) (vbk0_0_3_59:(List T14)) (vbk0_0_4_59:(List T13)) (vbk0_0_5_59:(List ByteArray)) (vbk0_0_6_59:ByteArray) (vbk0_0_7_59:ByteArray) (vbk0_0_8_59:Int):Option T5 :=
 b vbk0_0_0_59 vbk0_0_1_59 vbk0_0_2_59 vbk0_0_3_59 vbk0_0_4_59 vbk0_0_5_59 vbk0_0_6_59 vbk0_0_7_59 vbk0_0_8_59 (w64 (a+1))
def z29_l4 (rc:T5→(List T13)→(List T6)→Option T5) (a:Int) (b:(List T15)→ByteArray→(List ByteArray)→(List T14)→(List T13)→(List ByteArray)→ByteArray→ByteArray→Int→Int→Option T5) (c:T13) (d:(List T6)):Nat→(List T15)→ByteArray→(List ByteArray)→(List T14)→(List T13)→(List ByteArray)→ByteArray→ByteArray→Int→Int→Option T5
 | 0,_,_,_,_,_,_,_,_,_,_=>none
 | e+1,vbk0_0_0_61,vbk0_0_1_61,vbk0_0_2_61,vbk0_0_3_61,vbk0_0_4_61,vbk0_0_5_61,vbk0_0_6_61,vbk0_0_7_61,vbk0_0_8_61,f =>
 bif (decide (f < (c.Blocks.length:Int))) then ((idx c.Blocks f).bind fun g =>
 (rc (⟨vbk0_0_0_61,(⟨vbk0_0_1_61,vbk0_0_2_61,vbk0_0_3_61,vbk0_0_4_61⟩:T15),vbk0_0_5_61,(⟨vbk0_0_6_61,vbk0_0_7_61,vbk0_0_8_61⟩:T4)⟩:T5) g d).bind fun h =>
 (z29_l4 rc a b c d e) h.all' h.p'.Name h.p'.Roles h.p'.Messages h.p'.Body h.calls' h.out'.Protocol h.out'.Name h.out'.Err (w64 (f+1)))
 else z29_k3 a b vbk0_0_0_61 vbk0_0_1_61 vbk0_0_2_61 vbk0_0_3_61 vbk0_0_4_61 vbk0_0_5_61 vbk0_0_6_61 vbk0_0_7_61 vbk0_0_8_61
def z29_k5 (N:Nat) (rc:T5→(List T13)→(List T6)→Option T5) (a:Int) (b:(List T15)→ByteArray→(List ByteArray)→(List T14)→(List T13)→(List ByteArray)→ByteArray→ByteArray→Int→Int→Option T5) (c:T13) (vbk0_0_0_56:(List T15)) (vbk0_0_1_56:ByteArray) (vbk0_0_2_56:(List ByteArray)) (vbk0_0_3_56:(List T14)) (vbk0_0_4_56:(List T13)) (vbk0_0_5_56:(List ByteArray)) (vbk0_0_6_56:ByteArray) (vbk0_0_7_56:ByteArray) (vbk0_0_8_56:Int) (d:(List T6)):Option T5 :=
 z29_l4 rc a b c d N vbk0_0_0_56 vbk0_0_1_56 vbk0_0_2_56 vbk0_0_3_56 vbk0_0_4_56 vbk0_0_5_56 vbk0_0_6_56 vbk0_0_7_56 vbk0_0_8_56 0
def z29_l6 (N:Nat) (rc:T5→(List T13)→(List T6)→Option T5) (a:Int) (b:(List T15)→ByteArray→(List ByteArray)→(List T14)→(List T13)→(List ByteArray)→ByteArray→ByteArray→Int→Int→Option T5) (c:T13) (vbk0_0_0_56:(List T15)) (vbk0_0_1_56:ByteArray) (vbk0_0_2_56:(List ByteArray)) (vbk0_0_3_56:(List T14)) (vbk0_0_4_56:(List T13)) (vbk0_0_5_56:(List ByteArray)) (vbk0_0_6_56:ByteArray) (vbk0_0_7_56:ByteArray) (vbk0_0_8_56:Int) (d:(List T6)):Nat→(List T6)→Int→Option T5
 | 0,_,_=>none
 | e+1,f,g =>
 bif (decide (g < (d.length:Int))) then ((idx f g).bind fun h =>
 bif h.hidden' then ((idx f g).bind fun i =>
 (z29_l6 N rc a b c vbk0_0_0_56 vbk0_0_1_56 vbk0_0_2_56 vbk0_0_3_56 vbk0_0_4_56 vbk0_0_5_56 vbk0_0_6_56 vbk0_0_7_56 vbk0_0_8_56 d e) (setL' f g (⟨i.name',i.tail',true⟩:T6)) (w64 (g+1)))
 else (idx f g).bind fun j =>
 (z29_l6 N rc a b c vbk0_0_0_56 vbk0_0_1_56 vbk0_0_2_56 vbk0_0_3_56 vbk0_0_4_56 vbk0_0_5_56 vbk0_0_6_56 vbk0_0_7_56 vbk0_0_8_56 d e) (setL' f g (⟨j.name',j.tail',(c.Kind==5)⟩:T6)) (w64 (g+1)))
 else z29_k5 N rc a b c vbk0_0_0_56 vbk0_0_1_56 vbk0_0_2_56 vbk0_0_3_56 vbk0_0_4_56 vbk0_0_5_56 vbk0_0_6_56 vbk0_0_7_56 vbk0_0_8_56 f
def z29_k7 (N:Nat) (rc:T5→(List T13)→(List T6)→Option T5) (a:Int) (b:(List T15)→ByteArray→(List ByteArray)→(List T14)→(List T13)→(List ByteArray)→ByteArray→ByteArray→Int→Int→Option T5) (c:T13) (vbk0_0_0_56:(List T15)) (vbk0_0_1_56:ByteArray) (vbk0_0_2_56:(List ByteArray)) (vbk0_0_3_56:(List T14)) (vbk0_0_4_56:(List T13)) (vbk0_0_5_56:(List ByteArray)) (vbk0_0_6_56:ByteArray) (vbk0_0_7_56:ByteArray) (vbk0_0_8_56:Int) (d:(List T6)):Option T5 :=
 z29_l6 N rc a b c vbk0_0_0_56 vbk0_0_1_56 vbk0_0_2_56 vbk0_0_3_56 vbk0_0_4_56 vbk0_0_5_56 vbk0_0_6_56 vbk0_0_7_56 vbk0_0_8_56 d N d 0
def z29_k8 (N:Nat) (rc:T5→(List T13)→(List T6)→Option T5) (vbk0_0_0_33:(List T15)) (vbk0_0_1_33:ByteArray) (vbk0_0_2_33:(List ByteArray)) (vbk0_0_3_33:(List T14)) (vbk0_0_4_33:(List T13)) (vbk0_0_5_33:(List ByteArray)) (vbk0_0_6_33:ByteArray) (vbk0_0_7_33:ByteArray) (vbk0_0_8_33:Int) (a:Int) (b:(List T15)→ByteArray→(List ByteArray)→(List T14)→(List T13)→(List ByteArray)→ByteArray→ByteArray→Int→Int→Option T5) (c:T13) (d:(List T6)):Option T5 :=
 bif (c.Kind==1) then ((z53 N (⟨vbk0_0_0_33,(⟨vbk0_0_1_33,vbk0_0_2_33,vbk0_0_3_33,vbk0_0_4_33⟩:T15),vbk0_0_5_33,(⟨vbk0_0_6_33,vbk0_0_7_33,vbk0_0_8_33⟩:T4)⟩:T5) c).bind fun e =>
 z29_k7 N rc a b c e.all' e.p'.Name e.p'.Roles e.p'.Messages e.p'.Body e.calls' e.out'.Protocol e.out'.Name e.out'.Err d)
 else bif (c.Kind==2) then ((z54 N (⟨vbk0_0_0_33,(⟨vbk0_0_1_33,vbk0_0_2_33,vbk0_0_3_33,vbk0_0_4_33⟩:T15),vbk0_0_5_33,(⟨vbk0_0_6_33,vbk0_0_7_33,vbk0_0_8_33⟩:T4)⟩:T5) ([c.From]:List ByteArray) 0).bind fun f =>
 z29_k7 N rc a b c f.all' f.p'.Name f.p'.Roles f.p'.Messages f.p'.Body f.calls' f.out'.Protocol f.out'.Name f.out'.Err d)
 else bif (c.Kind==3) then ((z55_35 N d c).bind fun g =>
 bif g then ((z25 N (⟨vbk0_0_0_33,(⟨vbk0_0_1_33,vbk0_0_2_33,vbk0_0_3_33,vbk0_0_4_33⟩:T15),vbk0_0_5_33,(⟨vbk0_0_6_33,vbk0_0_7_33,vbk0_0_8_33⟩:T4)⟩:T5) c.Name 9).bind fun h =>
 (appL d ([(⟨c.Name,true,false⟩:T6)]:List T6)).bind fun i =>
 z29_k7 N rc a b c h.all' h.p'.Name h.p'.Roles h.p'.Messages h.p'.Body h.calls' h.out'.Protocol h.out'.Name h.out'.Err i)
 else (appL d ([(⟨c.Name,true,false⟩:T6)]:List T6)).bind fun j =>
 z29_k7 N rc a b c vbk0_0_0_33 vbk0_0_1_33 vbk0_0_2_33 vbk0_0_3_33 vbk0_0_4_33 vbk0_0_5_33 vbk0_0_6_33 vbk0_0_7_33 vbk0_0_8_33 j)
 else bif (c.Kind==4) then ((z57_37 N d c).bind fun k =>
 bif (decide (k < 0)) then ((z25 N (⟨vbk0_0_0_33,(⟨vbk0_0_1_33,vbk0_0_2_33,vbk0_0_3_33,vbk0_0_4_33⟩:T15),vbk0_0_5_33,(⟨vbk0_0_6_33,vbk0_0_7_33,vbk0_0_8_33⟩:T4)⟩:T5) c.Name 10).bind fun l =>
 z29_k7 N rc a b c l.all' l.p'.Name l.p'.Roles l.p'.Messages l.p'.Body l.calls' l.out'.Protocol l.out'.Name l.out'.Err d)
 else (idx d k).bind fun m =>
 bif (!m.tail') then ((z25 N (⟨vbk0_0_0_33,(⟨vbk0_0_1_33,vbk0_0_2_33,vbk0_0_3_33,vbk0_0_4_33⟩:T15),vbk0_0_5_33,(⟨vbk0_0_6_33,vbk0_0_7_33,vbk0_0_8_33⟩:T4)⟩:T5) c.Name 7).bind fun o =>
 z29_k7 N rc a b c o.all' o.p'.Name o.p'.Roles o.p'.Messages o.p'.Body o.calls' o.out'.Protocol o.out'.Name o.out'.Err d)
 else z29_k7 N rc a b c vbk0_0_0_33 vbk0_0_1_33 vbk0_0_2_33 vbk0_0_3_33 vbk0_0_4_33 vbk0_0_5_33 vbk0_0_6_33 vbk0_0_7_33 vbk0_0_8_33 d)
 else bif (c.Kind==6) then ((z59 N (⟨vbk0_0_0_33,(⟨vbk0_0_1_33,vbk0_0_2_33,vbk0_0_3_33,vbk0_0_4_33⟩:T15),vbk0_0_5_33,(⟨vbk0_0_6_33,vbk0_0_7_33,vbk0_0_8_33⟩:T4)⟩:T5) c).bind fun p =>
 z29_k7 N rc a b c p.all' p.p'.Name p.p'.Roles p.p'.Messages p.p'.Body p.calls' p.out'.Protocol p.out'.Name p.out'.Err d)
 else z29_k7 N rc a b c vbk0_0_0_33 vbk0_0_1_33 vbk0_0_2_33 vbk0_0_3_33 vbk0_0_4_33 vbk0_0_5_33 vbk0_0_6_33 vbk0_0_7_33 vbk0_0_8_33 d
def z29_l9 (N:Nat) (rc:T5→(List T13)→(List T6)→Option T5) (a:(List T13)) (vbk0_0_0_33:(List T15)) (vbk0_0_1_33:ByteArray) (vbk0_0_2_33:(List ByteArray)) (vbk0_0_3_33:(List T14)) (vbk0_0_4_33:(List T13)) (vbk0_0_5_33:(List ByteArray)) (vbk0_0_6_33:ByteArray) (vbk0_0_7_33:ByteArray) (vbk0_0_8_33:Int) (b:Int) (c:(List T15)→ByteArray→(List ByteArray)→(List T14)→(List T13)→(List ByteArray)→ByteArray→ByteArray→Int→Int→Option T5) (d:T13) (e:(List T6)):Nat→(List T6)→Int→Option T5
 | 0,_,_=>none
 | f+1,g,h =>
 bif (decide (h < (e.length:Int))) then ((idx g h).bind fun i =>
 bif i.tail' then ((idx g h).bind fun j =>
 (z29_l9 N rc a vbk0_0_0_33 vbk0_0_1_33 vbk0_0_2_33 vbk0_0_3_33 vbk0_0_4_33 vbk0_0_5_33 vbk0_0_6_33 vbk0_0_7_33 vbk0_0_8_33 b c d e f) (setL' g h (⟨j.name',(b==(w64 ((a.length:Int)-1))),j.hidden'⟩:T6)) (w64 (h+1)))
 else (idx g h).bind fun k =>
 (z29_l9 N rc a vbk0_0_0_33 vbk0_0_1_33 vbk0_0_2_33 vbk0_0_3_33 vbk0_0_4_33 vbk0_0_5_33 vbk0_0_6_33 vbk0_0_7_33 vbk0_0_8_33 b c d e f) (setL' g h (⟨k.name',false,k.hidden'⟩:T6)) (w64 (h+1)))
 else z29_k8 N rc vbk0_0_0_33 vbk0_0_1_33 vbk0_0_2_33 vbk0_0_3_33 vbk0_0_4_33 vbk0_0_5_33 vbk0_0_6_33 vbk0_0_7_33 vbk0_0_8_33 b c d g
def z29_l2 (N:Nat) (rc:T5→(List T13)→(List T6)→Option T5) (a:(List T13)) (b:(List T6)):Nat→(List T15)→ByteArray→(List ByteArray)→(List T14)→(List T13)→(List ByteArray)→ByteArray→ByteArray→Int→Int→Option T5
 | 0,_,_,_,_,_,_,_,_,_,_=>none
 | c+1,vbk0_0_0_33,vbk0_0_1_33,vbk0_0_2_33,vbk0_0_3_33,vbk0_0_4_33,vbk0_0_5_33,vbk0_0_6_33,vbk0_0_7_33,vbk0_0_8_33,d =>
 bif (decide (d < (a.length:Int))) then ((idx a d).bind fun e =>
 (z52 N b).bind fun f =>
 z29_l9 N rc a vbk0_0_0_33 vbk0_0_1_33 vbk0_0_2_33 vbk0_0_3_33 vbk0_0_4_33 vbk0_0_5_33 vbk0_0_6_33 vbk0_0_7_33 vbk0_0_8_33 d (z29_l2 N rc a b c) e f N f 0)
 else z29_k1 vbk0_0_0_33 vbk0_0_1_33 vbk0_0_2_33 vbk0_0_3_33 vbk0_0_4_33 vbk0_0_5_33 vbk0_0_6_33 vbk0_0_7_33 vbk0_0_8_33
def z29_b (N:Nat) (rc:T5→(List T13)→(List T6)→Option T5) (a:T5) (b:(List T13)) (c:(List T6)):Option T5 :=
 z29_l2 N rc b c N a.all' a.p'.Name a.p'.Roles a.p'.Messages a.p'.Body a.calls' a.out'.Protocol a.out'.Name a.out'.Err 0
def z29_r:Nat→T5→(List T13)→(List T6)→Option T5
 | 0,_,_,_=>none
 | N+1,a0,a1,a2=>z29_b N (z29_r N) a0 a1 a2
def z29 (N:Nat) (a:T5) (b:(List T13)) (c:(List T6)):Option T5:=z29_r N a b c
def z27_k1 (vbk0_0_0_1:(List T15)) (vbk0_0_1_1:ByteArray) (vbk0_0_2_1:(List ByteArray)) (vbk0_0_3_1:(List T14)) (vbk0_0_4_1:(List T13)) (vbk0_0_5_1:(List ByteArray)) (vbk0_0_6_1:ByteArray) (vbk0_0_7_1:ByteArray) (vbk0_0_8_1:Int):Option T5 :=
 some (⟨vbk0_0_0_1,(⟨vbk0_0_1_1,vbk0_0_2_1,vbk0_0_3_1,vbk0_0_4_1⟩:T15),vbk0_0_5_1,(⟨vbk0_0_6_1,vbk0_0_7_1,vbk0_0_8_1⟩:T4)⟩:T5)
def z27_k3 (a:Int) (b:(List T15)→ByteArray→(List ByteArray)→(List T14)→(List T13)→(List ByteArray)→ByteArray→ByteArray→Int→Int→Option T5) (vbk0_0_0_85:(List T15)) (vbk0_0_1_85:ByteArray) (vbk0_0_2_85:(List ByteArray)) (vbk0_0_3_85:(List T14)) (vbk0_0_4_85:(List T13)) (vbk0_0_5_85:(List ByteArray)) (vbk0_0_6_85:ByteArray) (vbk0_0_7_85:ByteArray) (vbk0_0_8_85:Int):Option T5 :=
 b vbk0_0_0_85 vbk0_0_1_85 vbk0_0_2_85 vbk0_0_3_85 vbk0_0_4_85 vbk0_0_5_85 vbk0_0_6_85 vbk0_0_7_85 vbk0_0_8_85 (w64 (a+1))
def z27_k5 (N:Nat) (a:Int) (b:(List T15)→ByteArray→(List ByteArray)→(List T14)→(List T13)→(List ByteArray)→ByteArray→ByteArray→Int→Int→Option T5) (c:T0) (vbk0_0_0_98:(List T15)) (vbk0_0_1_98:ByteArray) (vbk0_0_2_98:(List ByteArray)) (vbk0_0_3_98:(List T14)) (vbk0_0_4_98:(List T13)) (vbk0_0_5_98:(List ByteArray)) (vbk0_0_6_98:ByteArray) (vbk0_0_7_98:ByteArray) (vbk0_0_8_98:Int) (d:Int) (e:Int):Option T5 :=
 bif (decide (c.Sort'.Lo > c.Sort'.Hi)) then ((z25 N (⟨vbk0_0_0_98,(⟨vbk0_0_1_98,vbk0_0_2_98,vbk0_0_3_98,vbk0_0_4_98⟩:T15),vbk0_0_5_98,(⟨vbk0_0_6_98,vbk0_0_7_98,vbk0_0_8_98⟩:T4)⟩:T5) c.Name 2).bind fun f =>
 b f.all' f.p'.Name f.p'.Roles f.p'.Messages f.p'.Body f.calls' f.out'.Protocol f.out'.Name f.out'.Err (w64 (a+1)))
 else bif (decide (c.Sort'.Lo < d)) then ((z25 N (⟨vbk0_0_0_98,(⟨vbk0_0_1_98,vbk0_0_2_98,vbk0_0_3_98,vbk0_0_4_98⟩:T15),vbk0_0_5_98,(⟨vbk0_0_6_98,vbk0_0_7_98,vbk0_0_8_98⟩:T4)⟩:T5) c.Name 2).bind fun g =>
 b g.all' g.p'.Name g.p'.Roles g.p'.Messages g.p'.Body g.calls' g.out'.Protocol g.out'.Name g.out'.Err (w64 (a+1)))
 else bif (decide (c.Sort'.Hi > e)) then ((z25 N (⟨vbk0_0_0_98,(⟨vbk0_0_1_98,vbk0_0_2_98,vbk0_0_3_98,vbk0_0_4_98⟩:T15),vbk0_0_5_98,(⟨vbk0_0_6_98,vbk0_0_7_98,vbk0_0_8_98⟩:T4)⟩:T5) c.Name 2).bind fun h =>
 b h.all' h.p'.Name h.p'.Roles h.p'.Messages h.p'.Body h.calls' h.out'.Protocol h.out'.Name h.out'.Err (w64 (a+1)))
 else b vbk0_0_0_98 vbk0_0_1_98 vbk0_0_2_98 vbk0_0_3_98 vbk0_0_4_98 vbk0_0_5_98 vbk0_0_6_98 vbk0_0_7_98 vbk0_0_8_98 (w64 (a+1))
def z27_k6 (N:Nat) (a:Int) (b:(List T15)→ByteArray→(List ByteArray)→(List T14)→(List T13)→(List ByteArray)→ByteArray→ByteArray→Int→Int→Option T5) (c:T0) (vbk0_0_0_98:(List T15)) (vbk0_0_1_98:ByteArray) (vbk0_0_2_98:(List ByteArray)) (vbk0_0_3_98:(List T14)) (vbk0_0_4_98:(List T13)) (vbk0_0_5_98:(List ByteArray)) (vbk0_0_6_98:ByteArray) (vbk0_0_7_98:ByteArray) (vbk0_0_8_98:Int):Option T5 :=
 bif (c.Sort'.Kind==2) then (z27_k5 N a b c vbk0_0_0_98 vbk0_0_1_98 vbk0_0_2_98 vbk0_0_3_98 vbk0_0_4_98 vbk0_0_5_98 vbk0_0_6_98 vbk0_0_7_98 vbk0_0_8_98 0 40)
 else z27_k5 N a b c vbk0_0_0_98 vbk0_0_1_98 vbk0_0_2_98 vbk0_0_3_98 vbk0_0_4_98 vbk0_0_5_98 vbk0_0_6_98 vbk0_0_7_98 vbk0_0_8_98 (-1000) 1000
def z27_l4 (N:Nat) (a:Int) (b:(List T15)→ByteArray→(List ByteArray)→(List T14)→(List T13)→(List ByteArray)→ByteArray→ByteArray→Int→Int→Option T5) (c:T14):Nat→(List T15)→ByteArray→(List ByteArray)→(List T14)→(List T13)→(List ByteArray)→ByteArray→ByteArray→Int→Int→Option T5
 | 0,_,_,_,_,_,_,_,_,_,_=>none
 | d+1,vbk0_0_0_93,vbk0_0_1_93,vbk0_0_2_93,vbk0_0_3_93,vbk0_0_4_93,vbk0_0_5_93,vbk0_0_6_93,vbk0_0_7_93,vbk0_0_8_93,e =>
 bif (decide (e < (c.Fields.length:Int))) then ((idx c.Fields e).bind fun f =>
 (lsl c.Fields none (some e)).bind fun g =>
 (z49_25 N g f).bind fun h =>
 bif h then ((z25 N (⟨vbk0_0_0_93,(⟨vbk0_0_1_93,vbk0_0_2_93,vbk0_0_3_93,vbk0_0_4_93⟩:T15),vbk0_0_5_93,(⟨vbk0_0_6_93,vbk0_0_7_93,vbk0_0_8_93⟩:T4)⟩:T5) f.Name 9).bind fun i =>
 z27_k6 N e (z27_l4 N a b c d) f i.all' i.p'.Name i.p'.Roles i.p'.Messages i.p'.Body i.calls' i.out'.Protocol i.out'.Name i.out'.Err)
 else z27_k6 N e (z27_l4 N a b c d) f vbk0_0_0_93 vbk0_0_1_93 vbk0_0_2_93 vbk0_0_3_93 vbk0_0_4_93 vbk0_0_5_93 vbk0_0_6_93 vbk0_0_7_93 vbk0_0_8_93)
 else z27_k3 a b vbk0_0_0_93 vbk0_0_1_93 vbk0_0_2_93 vbk0_0_3_93 vbk0_0_4_93 vbk0_0_5_93 vbk0_0_6_93 vbk0_0_7_93 vbk0_0_8_93
def z27_k7 (N:Nat) (a:Int) (b:(List T15)→ByteArray→(List ByteArray)→(List T14)→(List T13)→(List ByteArray)→ByteArray→ByteArray→Int→Int→Option T5) (c:T14) (vbk0_0_0_84:(List T15)) (vbk0_0_1_84:ByteArray) (vbk0_0_2_84:(List ByteArray)) (vbk0_0_3_84:(List T14)) (vbk0_0_4_84:(List T13)) (vbk0_0_5_84:(List ByteArray)) (vbk0_0_6_84:ByteArray) (vbk0_0_7_84:ByteArray) (vbk0_0_8_84:Int):Option T5 :=
 z27_l4 N a b c N vbk0_0_0_84 vbk0_0_1_84 vbk0_0_2_84 vbk0_0_3_84 vbk0_0_4_84 vbk0_0_5_84 vbk0_0_6_84 vbk0_0_7_84 vbk0_0_8_84 0
def z27_l2 (N:Nat) (a:T5):Nat→(List T15)→ByteArray→(List ByteArray)→(List T14)→(List T13)→(List ByteArray)→ByteArray→ByteArray→Int→Int→Option T5
 | 0,_,_,_,_,_,_,_,_,_,_=>none
 | b+1,vbk0_0_0_51,vbk0_0_1_51,vbk0_0_2_51,vbk0_0_3_51,vbk0_0_4_51,vbk0_0_5_51,vbk0_0_6_51,vbk0_0_7_51,vbk0_0_8_51,c =>
 bif (decide (c < (a.p'.Messages.length:Int))) then ((idx a.p'.Messages c).bind fun d =>
 (lsl vbk0_0_3_51 none (some c)).bind fun e =>
 (z47_22 N e d).bind fun f =>
 bif f then ((z25 N (⟨vbk0_0_0_51,(⟨vbk0_0_1_51,vbk0_0_2_51,vbk0_0_3_51,vbk0_0_4_51⟩:T15),vbk0_0_5_51,(⟨vbk0_0_6_51,vbk0_0_7_51,vbk0_0_8_51⟩:T4)⟩:T5) d.Name 9).bind fun g =>
 z27_k7 N c (z27_l2 N a b) d g.all' g.p'.Name g.p'.Roles g.p'.Messages g.p'.Body g.calls' g.out'.Protocol g.out'.Name g.out'.Err)
 else z27_k7 N c (z27_l2 N a b) d vbk0_0_0_51 vbk0_0_1_51 vbk0_0_2_51 vbk0_0_3_51 vbk0_0_4_51 vbk0_0_5_51 vbk0_0_6_51 vbk0_0_7_51 vbk0_0_8_51)
 else z27_k1 vbk0_0_0_51 vbk0_0_1_51 vbk0_0_2_51 vbk0_0_3_51 vbk0_0_4_51 vbk0_0_5_51 vbk0_0_6_51 vbk0_0_7_51 vbk0_0_8_51
def z27 (N:Nat) (a:T5):Option T5 :=
 z27_l2 N a N a.all' a.p'.Name a.p'.Roles a.p'.Messages a.p'.Body a.calls' a.out'.Protocol a.out'.Name a.out'.Err 0
def z28_k1 (vbk0_0_0_1:(List T15)) (vbk0_0_1_1:ByteArray) (vbk0_0_2_1:(List ByteArray)) (vbk0_0_3_1:(List T14)) (vbk0_0_4_1:(List T13)) (vbk0_0_5_1:(List ByteArray)) (vbk0_0_6_1:ByteArray) (vbk0_0_7_1:ByteArray) (vbk0_0_8_1:Int):Option T5 :=
 some (⟨vbk0_0_0_1,(⟨vbk0_0_1_1,vbk0_0_2_1,vbk0_0_3_1,vbk0_0_4_1⟩:T15),vbk0_0_5_1,(⟨vbk0_0_6_1,vbk0_0_7_1,vbk0_0_8_1⟩:T4)⟩:T5)
def z28_k3 (a:Int) (b:(List T15)→ByteArray→(List ByteArray)→(List T14)→(List T13)→(List ByteArray)→ByteArray→ByteArray→Int→Int→Option T5) (vbk0_0_0_859:(List T15)) (vbk0_0_1_859:ByteArray) (vbk0_0_2_859:(List ByteArray)) (vbk0_0_3_859:(List T14)) (vbk0_0_4_859:(List T13)) (vbk0_0_5_859:(List ByteArray)) (vbk0_0_6_859:ByteArray) (vbk0_0_7_859:ByteArray) (vbk0_0_8_859:Int):Option T5 :=
 b vbk0_0_0_859 vbk0_0_1_859 vbk0_0_2_859 vbk0_0_3_859 vbk0_0_4_859 vbk0_0_5_859 vbk0_0_6_859 vbk0_0_7_859 vbk0_0_8_859 (w64 (a+1))
def z28_k5 (N:Nat) (a:T14) (b:Int) (c:(List T15)→ByteArray→(List ByteArray)→(List T14)→(List T13)→(List ByteArray)→ByteArray→ByteArray→Int→Int→Option T5) (d:T12) (vbk0_0_0_1007:(List T15)) (vbk0_0_1_1007:ByteArray) (vbk0_0_2_1007:(List ByteArray)) (vbk0_0_3_1007:(List T14)) (vbk0_0_4_1007:(List T13)) (vbk0_0_5_1007:(List ByteArray)) (vbk0_0_6_1007:ByteArray) (vbk0_0_7_1007:ByteArray) (vbk0_0_8_1007:Int) (e:Int):Option T5 :=
 bif (e==1) then ((z25 N (⟨vbk0_0_0_1007,(⟨vbk0_0_1_1007,vbk0_0_2_1007,vbk0_0_3_1007,vbk0_0_4_1007⟩:T15),vbk0_0_5_1007,(⟨vbk0_0_6_1007,vbk0_0_7_1007,vbk0_0_8_1007⟩:T4)⟩:T5) a.Name 11).bind fun f =>
 c f.all' f.p'.Name f.p'.Roles f.p'.Messages f.p'.Body f.calls' f.out'.Protocol f.out'.Name f.out'.Err (w64 (b+1)))
 else bif (e==2) then (bif (!(d.Op.toList==(str [61,61]).toList)) then ((z25 N (⟨vbk0_0_0_1007,(⟨vbk0_0_1_1007,vbk0_0_2_1007,vbk0_0_3_1007,vbk0_0_4_1007⟩:T15),vbk0_0_5_1007,(⟨vbk0_0_6_1007,vbk0_0_7_1007,vbk0_0_8_1007⟩:T4)⟩:T5) a.Name 11).bind fun g =>
 c g.all' g.p'.Name g.p'.Roles g.p'.Messages g.p'.Body g.calls' g.out'.Protocol g.out'.Name g.out'.Err (w64 (b+1)))
 else bif (d.Left.N != 0) then ((z25 N (⟨vbk0_0_0_1007,(⟨vbk0_0_1_1007,vbk0_0_2_1007,vbk0_0_3_1007,vbk0_0_4_1007⟩:T15),vbk0_0_5_1007,(⟨vbk0_0_6_1007,vbk0_0_7_1007,vbk0_0_8_1007⟩:T4)⟩:T5) a.Name 11).bind fun h =>
 c h.all' h.p'.Name h.p'.Roles h.p'.Messages h.p'.Body h.calls' h.out'.Protocol h.out'.Name h.out'.Err (w64 (b+1)))
 else bif (d.Right.N != 0) then ((z25 N (⟨vbk0_0_0_1007,(⟨vbk0_0_1_1007,vbk0_0_2_1007,vbk0_0_3_1007,vbk0_0_4_1007⟩:T15),vbk0_0_5_1007,(⟨vbk0_0_6_1007,vbk0_0_7_1007,vbk0_0_8_1007⟩:T4)⟩:T5) a.Name 11).bind fun i =>
 c i.all' i.p'.Name i.p'.Roles i.p'.Messages i.p'.Body i.calls' i.out'.Protocol i.out'.Name i.out'.Err (w64 (b+1)))
 else c vbk0_0_0_1007 vbk0_0_1_1007 vbk0_0_2_1007 vbk0_0_3_1007 vbk0_0_4_1007 vbk0_0_5_1007 vbk0_0_6_1007 vbk0_0_7_1007 vbk0_0_8_1007 (w64 (b+1)))
 else c vbk0_0_0_1007 vbk0_0_1_1007 vbk0_0_2_1007 vbk0_0_3_1007 vbk0_0_4_1007 vbk0_0_5_1007 vbk0_0_6_1007 vbk0_0_7_1007 vbk0_0_8_1007 (w64 (b+1))
def z28_k7 (a:Int) (b:Int) (c:Int) (d:Int) (e:(List T15)→ByteArray→(List ByteArray)→(List T14)→(List T13)→(List ByteArray)→ByteArray→ByteArray→Int→Int→Int→Option T5) (f:Int) (vbk0_0_0_1025:(List T15)) (vbk0_0_1_1025:ByteArray) (vbk0_0_2_1025:(List ByteArray)) (vbk0_0_3_1025:(List T14)) (vbk0_0_4_1025:(List T13)) (vbk0_0_5_1025:(List ByteArray)) (vbk0_0_6_1025:ByteArray) (vbk0_0_7_1025:ByteArray) (vbk0_0_8_1025:Int):Option T5 :=
 bif (f==2) then (bif (d==0) then (bif (a==2) then (e vbk0_0_0_1025 vbk0_0_1_1025 vbk0_0_2_1025 vbk0_0_3_1025 vbk0_0_4_1025 vbk0_0_5_1025 vbk0_0_6_1025 vbk0_0_7_1025 vbk0_0_8_1025 (w64 (c+1)) (w64 (d+1)))
 else e vbk0_0_0_1025 vbk0_0_1_1025 vbk0_0_2_1025 vbk0_0_3_1025 vbk0_0_4_1025 vbk0_0_5_1025 vbk0_0_6_1025 vbk0_0_7_1025 vbk0_0_8_1025 c (w64 (d+1)))
 else bif (d==1) then (bif (b==2) then (e vbk0_0_0_1025 vbk0_0_1_1025 vbk0_0_2_1025 vbk0_0_3_1025 vbk0_0_4_1025 vbk0_0_5_1025 vbk0_0_6_1025 vbk0_0_7_1025 vbk0_0_8_1025 (w64 (c+1)) (w64 (d+1)))
 else e vbk0_0_0_1025 vbk0_0_1_1025 vbk0_0_2_1025 vbk0_0_3_1025 vbk0_0_4_1025 vbk0_0_5_1025 vbk0_0_6_1025 vbk0_0_7_1025 vbk0_0_8_1025 c (w64 (d+1)))
 else none)
 else e vbk0_0_0_1025 vbk0_0_1_1025 vbk0_0_2_1025 vbk0_0_3_1025 vbk0_0_4_1025 vbk0_0_5_1025 vbk0_0_6_1025 vbk0_0_7_1025 vbk0_0_8_1025 c (w64 (d+1))
def z28_k8 (N:Nat) (a:T14) (b:Int) (c:Int) (vbk0_0_0_1017:(List T15)) (vbk0_0_1_1017:ByteArray) (vbk0_0_2_1017:(List ByteArray)) (vbk0_0_3_1017:(List T14)) (vbk0_0_4_1017:(List T13)) (vbk0_0_5_1017:(List ByteArray)) (vbk0_0_6_1017:ByteArray) (vbk0_0_7_1017:ByteArray) (vbk0_0_8_1017:Int) (d:Int) (e:Int) (f:(List T15)→ByteArray→(List ByteArray)→(List T14)→(List T13)→(List ByteArray)→ByteArray→ByteArray→Int→Int→Int→Option T5) (g:Int) (h:Bool):Option T5 :=
 bif h then ((z25 N (⟨vbk0_0_0_1017,(⟨vbk0_0_1_1017,vbk0_0_2_1017,vbk0_0_3_1017,vbk0_0_4_1017⟩:T15),vbk0_0_5_1017,(⟨vbk0_0_6_1017,vbk0_0_7_1017,vbk0_0_8_1017⟩:T4)⟩:T5) a.Name 11).bind fun i =>
 z28_k7 b c d e f g i.all' i.p'.Name i.p'.Roles i.p'.Messages i.p'.Body i.calls' i.out'.Protocol i.out'.Name i.out'.Err)
 else z28_k7 b c d e f g vbk0_0_0_1017 vbk0_0_1_1017 vbk0_0_2_1017 vbk0_0_3_1017 vbk0_0_4_1017 vbk0_0_5_1017 vbk0_0_6_1017 vbk0_0_7_1017 vbk0_0_8_1017
def z28_k9 (N:Nat) (a:T14) (b:Int) (c:Int) (vbk0_0_0_1017:(List T15)) (vbk0_0_1_1017:ByteArray) (vbk0_0_2_1017:(List ByteArray)) (vbk0_0_3_1017:(List T14)) (vbk0_0_4_1017:(List T13)) (vbk0_0_5_1017:(List ByteArray)) (vbk0_0_6_1017:ByteArray) (vbk0_0_7_1017:ByteArray) (vbk0_0_8_1017:Int) (d:Int) (e:Int) (f:(List T15)→ByteArray→(List ByteArray)→(List T14)→(List T13)→(List ByteArray)→ByteArray→ByteArray→Int→Int→Int→Option T5) (g:Int) (h:ByteArray) (i:ByteArray) (j:Int):Option T5 :=
 bif (g==3) then (bif (e==0) then (z28_k8 N a b c vbk0_0_0_1017 vbk0_0_1_1017 vbk0_0_2_1017 vbk0_0_3_1017 vbk0_0_4_1017 vbk0_0_5_1017 vbk0_0_6_1017 vbk0_0_7_1017 vbk0_0_8_1017 d e f g (b != 2))
 else bif (e==1) then (z28_k8 N a b c vbk0_0_0_1017 vbk0_0_1_1017 vbk0_0_2_1017 vbk0_0_3_1017 vbk0_0_4_1017 vbk0_0_5_1017 vbk0_0_6_1017 vbk0_0_7_1017 vbk0_0_8_1017 d e f g (c != 2))
 else none)
 else z28_k8 N a b c vbk0_0_0_1017 vbk0_0_1_1017 vbk0_0_2_1017 vbk0_0_3_1017 vbk0_0_4_1017 vbk0_0_5_1017 vbk0_0_6_1017 vbk0_0_7_1017 vbk0_0_8_1017 d e f g false
def z28_l6 (N:Nat) (a:T14) (b:Int) (c:(List T15)→ByteArray→(List ByteArray)→(List T14)→(List T13)→(List ByteArray)→ByteArray→ByteArray→Int→Int→Option T5) (d:T12) (e:Int) (f:Int):Nat→(List T15)→ByteArray→(List ByteArray)→(List T14)→(List T13)→(List ByteArray)→ByteArray→ByteArray→Int→Int→Int→Option T5
 | 0,_,_,_,_,_,_,_,_,_,_,_=>none
 | g+1,vbk0_0_0_1017,vbk0_0_1_1017,vbk0_0_2_1017,vbk0_0_3_1017,vbk0_0_4_1017,vbk0_0_5_1017,vbk0_0_6_1017,vbk0_0_7_1017,vbk0_0_8_1017,h,i =>
 bif (decide (i < 2)) then (bif (i==0) then (z28_k9 N a e f vbk0_0_0_1017 vbk0_0_1_1017 vbk0_0_2_1017 vbk0_0_3_1017 vbk0_0_4_1017 vbk0_0_5_1017 vbk0_0_6_1017 vbk0_0_7_1017 vbk0_0_8_1017 h i (z28_l6 N a b c d e f g) d.Left.Kind d.Left.Message d.Left.Field d.Left.N)
 else bif (i==1) then (z28_k9 N a e f vbk0_0_0_1017 vbk0_0_1_1017 vbk0_0_2_1017 vbk0_0_3_1017 vbk0_0_4_1017 vbk0_0_5_1017 vbk0_0_6_1017 vbk0_0_7_1017 vbk0_0_8_1017 h i (z28_l6 N a b c d e f g) d.Right.Kind d.Right.Message d.Right.Field d.Right.N)
 else none)
 else z28_k5 N a b c d vbk0_0_0_1017 vbk0_0_1_1017 vbk0_0_2_1017 vbk0_0_3_1017 vbk0_0_4_1017 vbk0_0_5_1017 vbk0_0_6_1017 vbk0_0_7_1017 vbk0_0_8_1017 h
def z28_k10 (N:Nat) (a:T14) (b:Int) (c:(List T15)→ByteArray→(List ByteArray)→(List T14)→(List T13)→(List ByteArray)→ByteArray→ByteArray→Int→Int→Option T5) (d:T12) (vbk0_0_0_1002:(List T15)) (vbk0_0_1_1002:ByteArray) (vbk0_0_2_1002:(List ByteArray)) (vbk0_0_3_1002:(List T14)) (vbk0_0_4_1002:(List T13)) (vbk0_0_5_1002:(List ByteArray)) (vbk0_0_6_1002:ByteArray) (vbk0_0_7_1002:ByteArray) (vbk0_0_8_1002:Int) (e:Int) (f:Int):Option T5 :=
 z28_l6 N a b c d e f N vbk0_0_0_1002 vbk0_0_1_1002 vbk0_0_2_1002 vbk0_0_3_1002 vbk0_0_4_1002 vbk0_0_5_1002 vbk0_0_6_1002 vbk0_0_7_1002 vbk0_0_8_1002 0 0
def z28_k12 (N:Nat) (a:T14) (vbk0_0_0_1026:(List T15)) (vbk0_0_1_1026:ByteArray) (vbk0_0_2_1026:(List ByteArray)) (vbk0_0_3_1026:(List T14)) (vbk0_0_4_1026:(List T13)) (vbk0_0_5_1026:(List ByteArray)) (vbk0_0_6_1026:ByteArray) (vbk0_0_7_1026:ByteArray) (vbk0_0_8_1026:Int) (b:Int) (c:Int) (d:Int) (e:(List T15)→ByteArray→(List ByteArray)→(List T14)→(List T13)→(List ByteArray)→ByteArray→ByteArray→Int→Int→Int→Int→Option T5) (f:Int) (g:ByteArray) (h:ByteArray) (i:Int):Option T5 :=
 bif (f==1) then (e vbk0_0_0_1026 vbk0_0_1_1026 vbk0_0_2_1026 vbk0_0_3_1026 vbk0_0_4_1026 vbk0_0_5_1026 vbk0_0_6_1026 vbk0_0_7_1026 vbk0_0_8_1026 b c (w64 (d+1)))
 else (z51 N (⟨vbk0_0_0_1026,(⟨vbk0_0_1_1026,vbk0_0_2_1026,vbk0_0_3_1026,vbk0_0_4_1026⟩:T15),vbk0_0_5_1026,(⟨vbk0_0_6_1026,vbk0_0_7_1026,vbk0_0_8_1026⟩:T4)⟩:T5) a (⟨f,g,h,i⟩:T11)).bind fun j =>
 bif (d==0) then (bif (d==0) then (bif (j==0) then ((z25 N (⟨vbk0_0_0_1026,(⟨vbk0_0_1_1026,vbk0_0_2_1026,vbk0_0_3_1026,vbk0_0_4_1026⟩:T15),vbk0_0_5_1026,(⟨vbk0_0_6_1026,vbk0_0_7_1026,vbk0_0_8_1026⟩:T4)⟩:T5) a.Name 10).bind fun k =>
 e k.all' k.p'.Name k.p'.Roles k.p'.Messages k.p'.Body k.calls' k.out'.Protocol k.out'.Name k.out'.Err j c (w64 (d+1)))
 else e vbk0_0_0_1026 vbk0_0_1_1026 vbk0_0_2_1026 vbk0_0_3_1026 vbk0_0_4_1026 vbk0_0_5_1026 vbk0_0_6_1026 vbk0_0_7_1026 vbk0_0_8_1026 j c (w64 (d+1)))
 else bif (d==1) then (bif (c==0) then ((z25 N (⟨vbk0_0_0_1026,(⟨vbk0_0_1_1026,vbk0_0_2_1026,vbk0_0_3_1026,vbk0_0_4_1026⟩:T15),vbk0_0_5_1026,(⟨vbk0_0_6_1026,vbk0_0_7_1026,vbk0_0_8_1026⟩:T4)⟩:T5) a.Name 10).bind fun l =>
 e l.all' l.p'.Name l.p'.Roles l.p'.Messages l.p'.Body l.calls' l.out'.Protocol l.out'.Name l.out'.Err j c (w64 (d+1)))
 else e vbk0_0_0_1026 vbk0_0_1_1026 vbk0_0_2_1026 vbk0_0_3_1026 vbk0_0_4_1026 vbk0_0_5_1026 vbk0_0_6_1026 vbk0_0_7_1026 vbk0_0_8_1026 j c (w64 (d+1)))
 else none)
 else bif (d==1) then (bif (d==0) then (bif (b==0) then ((z25 N (⟨vbk0_0_0_1026,(⟨vbk0_0_1_1026,vbk0_0_2_1026,vbk0_0_3_1026,vbk0_0_4_1026⟩:T15),vbk0_0_5_1026,(⟨vbk0_0_6_1026,vbk0_0_7_1026,vbk0_0_8_1026⟩:T4)⟩:T5) a.Name 10).bind fun m =>
 e m.all' m.p'.Name m.p'.Roles m.p'.Messages m.p'.Body m.calls' m.out'.Protocol m.out'.Name m.out'.Err b j (w64 (d+1)))
 else e vbk0_0_0_1026 vbk0_0_1_1026 vbk0_0_2_1026 vbk0_0_3_1026 vbk0_0_4_1026 vbk0_0_5_1026 vbk0_0_6_1026 vbk0_0_7_1026 vbk0_0_8_1026 b j (w64 (d+1)))
 else bif (d==1) then (bif (j==0) then ((z25 N (⟨vbk0_0_0_1026,(⟨vbk0_0_1_1026,vbk0_0_2_1026,vbk0_0_3_1026,vbk0_0_4_1026⟩:T15),vbk0_0_5_1026,(⟨vbk0_0_6_1026,vbk0_0_7_1026,vbk0_0_8_1026⟩:T4)⟩:T5) a.Name 10).bind fun o =>
 e o.all' o.p'.Name o.p'.Roles o.p'.Messages o.p'.Body o.calls' o.out'.Protocol o.out'.Name o.out'.Err b j (w64 (d+1)))
 else e vbk0_0_0_1026 vbk0_0_1_1026 vbk0_0_2_1026 vbk0_0_3_1026 vbk0_0_4_1026 vbk0_0_5_1026 vbk0_0_6_1026 vbk0_0_7_1026 vbk0_0_8_1026 b j (w64 (d+1)))
 else none)
 else none
def z28_l11 (N:Nat) (a:T14) (b:Int) (c:(List T15)→ByteArray→(List ByteArray)→(List T14)→(List T13)→(List ByteArray)→ByteArray→ByteArray→Int→Int→Option T5) (d:T12):Nat→(List T15)→ByteArray→(List ByteArray)→(List T14)→(List T13)→(List ByteArray)→ByteArray→ByteArray→Int→Int→Int→Int→Option T5
 | 0,_,_,_,_,_,_,_,_,_,_,_,_=>none
 | e+1,vbk0_0_0_1026,vbk0_0_1_1026,vbk0_0_2_1026,vbk0_0_3_1026,vbk0_0_4_1026,vbk0_0_5_1026,vbk0_0_6_1026,vbk0_0_7_1026,vbk0_0_8_1026,f,g,h =>
 bif (decide (h < 2)) then (bif (h==0) then (z28_k12 N a vbk0_0_0_1026 vbk0_0_1_1026 vbk0_0_2_1026 vbk0_0_3_1026 vbk0_0_4_1026 vbk0_0_5_1026 vbk0_0_6_1026 vbk0_0_7_1026 vbk0_0_8_1026 f g h (z28_l11 N a b c d e) d.Left.Kind d.Left.Message d.Left.Field d.Left.N)
 else bif (h==1) then (z28_k12 N a vbk0_0_0_1026 vbk0_0_1_1026 vbk0_0_2_1026 vbk0_0_3_1026 vbk0_0_4_1026 vbk0_0_5_1026 vbk0_0_6_1026 vbk0_0_7_1026 vbk0_0_8_1026 f g h (z28_l11 N a b c d e) d.Right.Kind d.Right.Message d.Right.Field d.Right.N)
 else none)
 else z28_k10 N a b c d vbk0_0_0_1026 vbk0_0_1_1026 vbk0_0_2_1026 vbk0_0_3_1026 vbk0_0_4_1026 vbk0_0_5_1026 vbk0_0_6_1026 vbk0_0_7_1026 vbk0_0_8_1026 f g
def z28_l4 (N:Nat) (a:Int) (b:(List T15)→ByteArray→(List ByteArray)→(List T14)→(List T13)→(List ByteArray)→ByteArray→ByteArray→Int→Int→Option T5) (c:T14):Nat→(List T15)→ByteArray→(List ByteArray)→(List T14)→(List T13)→(List ByteArray)→ByteArray→ByteArray→Int→Int→Option T5
 | 0,_,_,_,_,_,_,_,_,_,_=>none
 | d+1,vbk0_0_0_945,vbk0_0_1_945,vbk0_0_2_945,vbk0_0_3_945,vbk0_0_4_945,vbk0_0_5_945,vbk0_0_6_945,vbk0_0_7_945,vbk0_0_8_945,e =>
 bif (decide (e < (c.Where.length:Int))) then ((idx c.Where e).bind fun f =>
 z28_l11 N c e (z28_l4 N a b c d) f N vbk0_0_0_945 vbk0_0_1_945 vbk0_0_2_945 vbk0_0_3_945 vbk0_0_4_945 vbk0_0_5_945 vbk0_0_6_945 vbk0_0_7_945 vbk0_0_8_945 0 0 0)
 else z28_k3 a b vbk0_0_0_945 vbk0_0_1_945 vbk0_0_2_945 vbk0_0_3_945 vbk0_0_4_945 vbk0_0_5_945 vbk0_0_6_945 vbk0_0_7_945 vbk0_0_8_945
def z28_l2 (N:Nat) (a:T5):Nat→(List T15)→ByteArray→(List ByteArray)→(List T14)→(List T13)→(List ByteArray)→ByteArray→ByteArray→Int→Int→Option T5
 | 0,_,_,_,_,_,_,_,_,_,_=>none
 | b+1,vbk0_0_0_516,vbk0_0_1_516,vbk0_0_2_516,vbk0_0_3_516,vbk0_0_4_516,vbk0_0_5_516,vbk0_0_6_516,vbk0_0_7_516,vbk0_0_8_516,c =>
 bif (decide (c < (a.p'.Messages.length:Int))) then ((idx a.p'.Messages c).bind fun d =>
 z28_l4 N c (z28_l2 N a b) d N vbk0_0_0_516 vbk0_0_1_516 vbk0_0_2_516 vbk0_0_3_516 vbk0_0_4_516 vbk0_0_5_516 vbk0_0_6_516 vbk0_0_7_516 vbk0_0_8_516 0)
 else z28_k1 vbk0_0_0_516 vbk0_0_1_516 vbk0_0_2_516 vbk0_0_3_516 vbk0_0_4_516 vbk0_0_5_516 vbk0_0_6_516 vbk0_0_7_516 vbk0_0_8_516
def z28 (N:Nat) (a:T5):Option T5 :=
 z28_l2 N a N a.all' a.p'.Name a.p'.Roles a.p'.Messages a.p'.Body a.calls' a.out'.Protocol a.out'.Name a.out'.Err 0
def z60_40 (N:Nat) (a:T15) (b:T15):Option Bool :=
 some (a.Name.toList==b.Name.toList)
def z46_41_k1:Option Int :=
 some (-1)
def z46_41_l2 (N:Nat) (a:(List T15)) (b:T15):Nat→Int→Option Int
 | 0,_=>none
 | c+1,d =>
 bif (decide (d < (a.length:Int))) then ((idx a d).bind fun e =>
 (z60_40 N e b).bind fun f =>
 bif f then (some d)
 else (z46_41_l2 N a b c) (w64 (d+1)))
 else z46_41_k1
def z46_41 (N:Nat) (a:(List T15)) (b:T15):Option Int :=
 z46_41_l2 N a b N 0
def z61_k1 (a:(List ByteArray)):Option (List ByteArray) :=
 some a
def z61_k3 (a:Int) (b:(List ByteArray)→Int→Option (List ByteArray)) (c:(List ByteArray)):Option (List ByteArray) :=
 b c (w64 (a+1))
def z61_l4 (rc:(List T13)→Option (List ByteArray)) (a:Int) (b:(List ByteArray)→Int→Option (List ByteArray)) (c:T13):Nat→(List ByteArray)→Int→Option (List ByteArray)
 | 0,_,_=>none
 | d+1,e,f =>
 bif (decide (f < (c.Blocks.length:Int))) then ((idx c.Blocks f).bind fun g =>
 (rc g).bind fun h =>
 (appL e h).bind fun i =>
 (z61_l4 rc a b c d) i (w64 (f+1)))
 else z61_k3 a b e
def z61_k5 (N:Nat) (rc:(List T13)→Option (List ByteArray)) (a:Int) (b:(List ByteArray)→Int→Option (List ByteArray)) (c:T13) (d:(List ByteArray)):Option (List ByteArray) :=
 z61_l4 rc a b c N d 0
def z61_l2 (N:Nat) (rc:(List T13)→Option (List ByteArray)) (a:(List T13)):Nat→(List ByteArray)→Int→Option (List ByteArray)
 | 0,_,_=>none
 | b+1,c,d =>
 bif (decide (d < (a.length:Int))) then ((idx a d).bind fun e =>
 bif (e.Kind==6) then ((appL c ([e.Name]:List ByteArray)).bind fun f =>
 z61_k5 N rc d (z61_l2 N rc a b) e f)
 else z61_k5 N rc d (z61_l2 N rc a b) e c)
 else z61_k1 c
def z61_b (N:Nat) (rc:(List T13)→Option (List ByteArray)) (a:(List T13)):Option (List ByteArray) :=
 z61_l2 N rc a N ([]:List ByteArray) 0
def z61_r:Nat→(List T13)→Option (List ByteArray)
 | 0,_=>none
 | N+1,a0=>z61_b N (z61_r N) a0
def z61 (N:Nat) (a:(List T13)):Option (List ByteArray):=z61_r N a
def z62 (N:Nat) (a:List ByteArray):Option (List ByteArray):=bif (decide ((a.length:Int)≤4611686018427387903)) then some (sortS a) else none
def z63 (N:Nat) (a:List ByteArray):Option (List ByteArray):=bif (decide ((a.length:Int)≤4611686018427387903)) then some (compS a) else none
def z66_42 (N:Nat) (a:T15) (b:ByteArray):Option Bool :=
 some (a.Name.toList==b.toList)
def z46_43_k1:Option Int :=
 some (-1)
def z46_43_l2 (N:Nat) (a:(List T15)) (b:ByteArray):Nat→Int→Option Int
 | 0,_=>none
 | c+1,d =>
 bif (decide (d < (a.length:Int))) then ((idx a d).bind fun e =>
 (z66_42 N e b).bind fun f =>
 bif f then (some d)
 else (z46_43_l2 N a b c) (w64 (d+1)))
 else z46_43_k1
def z46_43 (N:Nat) (a:(List T15)) (b:ByteArray):Option Int :=
 z46_43_l2 N a b N 0
def z23_44 (N:Nat) (a:(List T15)) (b:ByteArray):Option Bool :=
 (z46_43 N a b).bind fun c =>
 some (decide (c≥0))
def z65_45 (N:Nat) (a:ByteArray) (b:T5):Option Bool :=
 (z23_44 N b.all' a).bind fun c =>
 some (!c)
def z102_46_k1:Option Int :=
 some (-1)
def z102_46_l2 (N:Nat) (a:(List ByteArray)) (b:T5):Nat→Int→Option Int
 | 0,_=>none
 | c+1,d =>
 bif (decide (d < (a.length:Int))) then ((idx a d).bind fun e =>
 (z65_45 N e b).bind fun f =>
 bif f then (some d)
 else (z102_46_l2 N a b c) (w64 (d+1)))
 else z102_46_k1
def z102_46 (N:Nat) (a:(List ByteArray)) (b:T5):Option Int :=
 z102_46_l2 N a b N 0
def z64_47_k1 (a:(List ByteArray)) (b:Int):Option (List ByteArray) :=
 (lsl a (some b) none).bind fun c =>
 (clL (str []) a (some b) none).bind fun d =>
 (lsl d none (some b)).bind fun e =>
 some e
def z64_47_l2 (N:Nat) (a:T5):Nat→(List ByteArray)→Int→Int→Option (List ByteArray)
 | 0,_,_,_=>none
 | b+1,c,d,e =>
 bif (decide (e < (c.length:Int))) then ((idx c e).bind fun f =>
 (z65_45 N f a).bind fun g =>
 bif (!g) then ((idx c d).bind fun h =>
 (z64_47_l2 N a b) (setL' c d f) (w64 (d+1)) (w64 (e+1)))
 else (z64_47_l2 N a b) c d (w64 (e+1)))
 else z64_47_k1 c d
def z64_47 (N:Nat) (a:(List ByteArray)) (b:T5):Option (List ByteArray) :=
 (z102_46 N a b).bind fun c =>
 bif (c==(-1)) then (some a)
 else z64_47_l2 N b N a c (w64 (c+1))
def z30_k1 (N:Nat) (a:T5) (b:(List ByteArray)):Option T5 :=
 bif (decide ((b.length:Int) > 0)) then ((z25 N a a.p'.Name 6).bind fun c =>
 some c)
 else some a
def z30_k3 (N:Nat) (a:T5) (b:Int) (c:(List ByteArray)→Int→Option T5) (d:(List ByteArray)):Option T5 :=
 (z62 N d).bind fun e =>
 (z63 N e).bind fun f =>
 (z64_47 N f a).bind fun g =>
 c g (w64 (b+1))
def z30_l4 (N:Nat) (a:T5) (b:(List ByteArray)) (c:Int) (d:(List ByteArray)→Int→Option T5):Nat→(List ByteArray)→Int→Option T5
 | 0,_,_=>none
 | e+1,f,g =>
 bif (decide (g < (a.all'.length:Int))) then ((idx a.all' g).bind fun h =>
 (z46_41 N a.all' h).bind fun i =>
 bif (i==g) then ((z41 N b h.Name).bind fun j =>
 bif j then ((z61 N h.Body).bind fun k =>
 (appL f k).bind fun l =>
 (z30_l4 N a b c d e) l (w64 (g+1)))
 else (z30_l4 N a b c d e) f (w64 (g+1)))
 else (z30_l4 N a b c d e) f (w64 (g+1)))
 else z30_k3 N a c d f
def z30_l2 (N:Nat) (a:T5):Nat→(List ByteArray)→Int→Option T5
 | 0,_,_=>none
 | b+1,c,d =>
 bif (decide (d < 5)) then (z30_l4 N a c d (z30_l2 N a b) N ([]:List ByteArray) 0)
 else z30_k1 N a c
def z30 (N:Nat) (a:T5):Option T5 :=
 z30_l2 N a N ([a.p'.Name]:List ByteArray) 0
def z9_k1:Option T4 :=
 some (⟨(str []),(str []),0⟩:T4)
def z9_k3 (N:Nat) (a:Int) (b:Int→Option T4) (c:T15) (d:(List T15)) (e:ByteArray) (f:(List ByteArray)) (g:(List T14)) (h:(List T13)) (i:(List ByteArray)) (j:ByteArray) (k:ByteArray) (l:Int):Option T4 :=
 (z27 N (⟨d,(⟨e,f,g,h⟩:T15),i,(⟨j,k,l⟩:T4)⟩:T5)).bind fun m =>
 (z28 N m).bind fun o =>
 (z29 N o c.Body ([]:List T6)).bind fun p =>
 (z30 N p).bind fun q =>
 bif (q.out'.Err != 0) then (some q.out')
 else b (w64 (a+1))
def z9_l4 (N:Nat) (a:Int) (b:Int→Option T4) (c:T15):Nat→(List T15)→ByteArray→(List ByteArray)→(List T14)→(List T13)→(List ByteArray)→ByteArray→ByteArray→Int→Int→Option T4
 | 0,_,_,_,_,_,_,_,_,_,_=>none
 | d+1,e,f,g,h,i,j,k,l,m,o =>
 bif (decide (o < (c.Roles.length:Int))) then ((z26 N c.Roles o).bind fun p =>
 bif p then ((idx c.Roles o).bind fun q =>
 (z25 N (⟨e,(⟨f,g,h,i⟩:T15),j,(⟨k,l,m⟩:T4)⟩:T5) q 9).bind fun r =>
 (z9_l4 N a b c d) r.all' r.p'.Name r.p'.Roles r.p'.Messages r.p'.Body r.calls' r.out'.Protocol r.out'.Name r.out'.Err (w64 (o+1)))
 else (z9_l4 N a b c d) e f g h i j k l m (w64 (o+1)))
 else z9_k3 N a b c e f g h i j k l m
def z9_k5 (N:Nat) (a:Int) (b:Int→Option T4) (c:T15) (d:(List T15)) (e:ByteArray) (f:(List ByteArray)) (g:(List T14)) (h:(List T13)) (i:(List ByteArray)) (j:ByteArray) (k:ByteArray) (l:Int):Option T4 :=
 z9_l4 N a b c N d e f g h i j k l 0
def z9_l2 (N:Nat) (a:(List T15)):Nat→Int→Option T4
 | 0,_=>none
 | b+1,c =>
 bif (decide (c < (a.length:Int))) then ((idx a c).bind fun d =>
 (lsl a none (some c)).bind fun e =>
 (z23_19 N e d).bind fun f =>
 bif f then ((z25 N (⟨a,d,([]:List ByteArray),(⟨(str []),(str []),0⟩:T4)⟩:T5) d.Name 9).bind fun g =>
 z9_k5 N c (z9_l2 N a b) d g.all' g.p'.Name g.p'.Roles g.p'.Messages g.p'.Body g.calls' g.out'.Protocol g.out'.Name g.out'.Err)
 else z9_k5 N c (z9_l2 N a b) d a d.Name d.Roles d.Messages d.Body ([]:List ByteArray) (str []) (str []) 0)
 else z9_k1
def z9 (N:Nat) (a:(List T15)):Option T4 :=
 (z11 N a).bind fun b =>
 bif (!b) then (some (⟨(str []),(str []),1⟩:T4))
 else z9_l2 N a N 0
def z7 (N:Nat):Option Bool :=
 (z22 N (str [112,114,111,116,111,99,111,108,32,80,40,65,44,32,66,41,32,123,32,65,32,45,62,32,67,58,32,109,59,32,125])).bind fun a =>
 (z22 N (str [112,114,111,116,111,99,111,108,32,80,40,65,41,32,123,32,99,97,108,108,32,80,40,65,41,32,97,115,32,120,59,32,125])).bind fun b =>
 bif (a.2.2==0) then (bif (b.2.2==0) then ((z9 N a.1).bind fun c =>
 bif ((c.Protocol.toList==(str [80]).toList) && ((c.Name.toList==(str [67]).toList) && ((c.Err==12) && true))) then ((z9 N b.1).bind fun d =>
 some ((d.Protocol.toList==(str [80]).toList) && ((d.Name.toList==(str [80]).toList) && ((d.Err==6) && true))))
 else some false)
 else some false)
 else some false
def z12_k1 (a:Int):Option Int :=
 some a
def z12_k3 (a:Int) (b:Int→Int→Option Int) (c:Int):Option Int :=
 b c (w64 (a+1))
def z12_l4 (rc:(List T8)→Option Int) (a:Int) (b:Int→Int→Option Int) (c:T8):Nat→Int→Int→Option Int
 | 0,_,_=>none
 | d+1,e,f =>
 bif (decide (f < (c.Blocks.length:Int))) then ((idx c.Blocks f).bind fun g =>
 (rc g).bind fun h =>
 (z12_l4 rc a b c d) (w64 (e+h)) (w64 (f+1)))
 else z12_k3 a b e
def z12_k5 (N:Nat) (rc:(List T8)→Option Int) (a:Int) (b:Int→Int→Option Int) (c:T8) (d:Int):Option Int :=
 z12_l4 rc a b c N d 0
def z12_l2 (N:Nat) (rc:(List T8)→Option Int) (a:(List T8)):Nat→Int→Int→Option Int
 | 0,_,_=>none
 | b+1,c,d =>
 bif (decide (d < (a.length:Int))) then ((idx a d).bind fun e =>
 bif (e.Kind==6) then (z12_k5 N rc d (z12_l2 N rc a b) e (w64 (c+1)))
 else z12_k5 N rc d (z12_l2 N rc a b) e c)
 else z12_k1 c
def z12_b (N:Nat) (rc:(List T8)→Option Int) (a:(List T8)):Option Int :=
 z12_l2 N rc a N 0 0
def z12_r:Nat→(List T8)→Option Int
 | 0,_=>none
 | N+1,a0=>z12_b N (z12_r N) a0
def z12 (N:Nat) (a:(List T8)):Option Int:=z12_r N a
def z39_k1 (a:Int):Option Int :=
 some a
def z39_k3 (a:Int) (b:Int→Int→Option Int) (c:Int):Option Int :=
 b c (w64 (a+1))
def z39_l4 (rc:(List T8)→Option Int) (a:(List T8)) (b:Int) (c:Int→Int→Option Int):Nat→Int→Int→Option Int
 | 0,_,_=>none
 | d+1,e,f =>
 (idx a b).bind fun g =>
 bif (decide (f < (g.Blocks.length:Int))) then ((idx a b).bind fun h =>
 (idx h.Blocks f).bind fun i =>
 (rc i).bind fun j =>
 (z39_l4 rc a b c d) (w64 (e+j)) (w64 (f+1)))
 else z39_k3 b c e
def z39_l2 (N:Nat) (rc:(List T8)→Option Int) (a:(List T8)):Nat→Int→Int→Option Int
 | 0,_,_=>none
 | b+1,c,d =>
 bif (decide (d < (a.length:Int))) then (z39_l4 rc a d (z39_l2 N rc a b) N (w64 (c+1)) 0)
 else z39_k1 c
def z39_b (N:Nat) (rc:(List T8)→Option Int) (a:(List T8)):Option Int :=
 z39_l2 N rc a N 0 0
def z39_r:Nat→(List T8)→Option Int
 | 0,_=>none
 | N+1,a0=>z39_b N (z39_r N) a0
def z39 (N:Nat) (a:(List T8)):Option Int:=z39_r N a
def z19_k1 (a:(List T10)) (b:Int) (c:Int):Option Bool :=
 bif (decide ((a.length:Int)≤12)) then (bif (decide (b≤320)) then (some (decide (c≤60)))
 else some false)
 else some false
def z19_k3 (a:Int) (b:Int) (c:Int) (d:Int→Int→Int→Option Bool) (e:Int) (f:T10):Option Bool :=
 d (w64 (a+e)) (w64 (b+(f.Messages.length:Int))) (w64 (c+1))
def z19_l4 (a:(List T10)) (b:Int) (c:Int) (d:Int) (e:Int→Int→Int→Option Bool) (f:Int) (g:T10):Nat→Int→Option Bool
 | 0,_=>none
 | h+1,i =>
 (idx a d).bind fun j =>
 bif (decide (i < (j.Messages.length:Int))) then ((idx a d).bind fun k =>
 (idx k.Messages i).bind fun l =>
 bif (decide ((l.Fields.length:Int) > 8)) then (some false)
 else (idx a d).bind fun m =>
 (idx m.Messages i).bind fun o =>
 bif (decide ((o.Where.length:Int) > 10)) then (some false)
 else (z19_l4 a b c d e f g h) (w64 (i+1)))
 else z19_k3 b c d e f g
def z19_l2 (N:Nat) (a:(List T10)):Nat→Int→Int→Int→Option Bool
 | 0,_,_,_=>none
 | b+1,c,d,e =>
 bif (decide (e < (a.length:Int))) then ((idx a e).bind fun f =>
 (z39 N f.Body).bind fun g =>
 (idx a e).bind fun h =>
 z19_l4 a c d e (z19_l2 N a b) g h N 0)
 else z19_k1 a c d
def z19 (N:Nat) (a:(List T10)):Option Bool :=
 z19_l2 N a N 0 0 0
def z8_k1 (N:Nat) (a:(List T10)):Option Bool :=
 (z19 N a).bind fun b =>
 some b
def z8_l2 (N:Nat) (a:(List T10)):Nat→Int→Option Bool
 | 0,_=>none
 | b+1,c =>
 bif (decide (c < (a.length:Int))) then ((idx a c).bind fun d =>
 (z12 N d.Body).bind fun e =>
 bif (decide (e > 4)) then (some false)
 else (z8_l2 N a b) (w64 (c+1)))
 else z8_k1 N a
def z8 (N:Nat) (a:(List T10)):Option Bool :=
 z8_l2 N a N 0
def z31_k1 (a:(List T13)):Option (List T13) :=
 some a
def z31_k3 (a:(List T13)) (b:Int) (c:(List T13)→Int→Option (List T13)) (d:T8) (e:(List (List T13))):Option (List T13) :=
 (appL a ([(⟨d.Kind,d.From,d.To,d.Name,d.As,d.Ticks,e⟩:T13)]:List T13)).bind fun f =>
 c f (w64 (b+1))
def z31_l4 (rc:(List T8)→Option (List T13)) (a:(List T13)) (b:Int) (c:(List T13)→Int→Option (List T13)) (d:T8):Nat→(List (List T13))→Int→Option (List T13)
 | 0,_,_=>none
 | e+1,f,g =>
 bif (decide (g < (d.Blocks.length:Int))) then ((idx d.Blocks g).bind fun h =>
 (rc h).bind fun i =>
 (appL f ([i]:List (List T13))).bind fun j =>
 (z31_l4 rc a b c d e) j (w64 (g+1)))
 else z31_k3 a b c d f
def z31_l2 (N:Nat) (rc:(List T8)→Option (List T13)) (a:(List T8)):Nat→(List T13)→Int→Option (List T13)
 | 0,_,_=>none
 | b+1,c,d =>
 bif (decide (d < (a.length:Int))) then ((idx a d).bind fun e =>
 z31_l4 rc c d (z31_l2 N rc a b) e N ([]:List (List T13)) 0)
 else z31_k1 c
def z31_b (N:Nat) (rc:(List T8)→Option (List T13)) (a:(List T8)):Option (List T13) :=
 z31_l2 N rc a N ([]:List T13) 0
def z31_r:Nat→(List T8)→Option (List T13)
 | 0,_=>none
 | N+1,a0=>z31_b N (z31_r N) a0
def z31 (N:Nat) (a:(List T8)):Option (List T13):=z31_r N a
def z10_k1 (a:(List T15)):Option (List T15) :=
 some a
def z10_k3 (a:(List T15)) (b:Int) (c:(List T15)→Int→Option (List T15)) (d:T10) (e:(List T13)) (f:(List T14)):Option (List T15) :=
 (appL a ([(⟨d.Name,d.Roles,f,e⟩:T15)]:List T15)).bind fun g =>
 c g (w64 (b+1))
def z10_k5 (a:(List T14)) (b:Int) (c:(List T14)→Int→Option (List T15)) (d:T9) (e:(List T12)):Option (List T15) :=
 (appL a ([(⟨d.Name,d.Fields,e⟩:T14)]:List T14)).bind fun f =>
 c f (w64 (b+1))
def z10_l6 (a:(List T14)) (b:Int) (c:(List T14)→Int→Option (List T15)) (d:T9):Nat→(List T12)→Int→Option (List T15)
 | 0,_,_=>none
 | e+1,f,g =>
 bif (decide (g < (d.Where.length:Int))) then ((idx d.Where g).bind fun h =>
 (appL f ([(⟨h.Left,h.Op,h.Right⟩:T12)]:List T12)).bind fun i =>
 (z10_l6 a b c d e) i (w64 (g+1)))
 else z10_k5 a b c d f
def z10_l4 (N:Nat) (a:(List T15)) (b:Int) (c:(List T15)→Int→Option (List T15)) (d:T10) (e:(List T13)):Nat→(List T14)→Int→Option (List T15)
 | 0,_,_=>none
 | f+1,g,h =>
 bif (decide (h < (d.Messages.length:Int))) then ((idx d.Messages h).bind fun i =>
 z10_l6 g h (z10_l4 N a b c d e f) i N ([]:List T12) 0)
 else z10_k3 a b c d e g
def z10_l2 (N:Nat) (a:(List T10)):Nat→(List T15)→Int→Option (List T15)
 | 0,_,_=>none
 | b+1,c,d =>
 bif (decide (d < (a.length:Int))) then ((idx a d).bind fun e =>
 (z31 N e.Body).bind fun f =>
 z10_l4 N c d (z10_l2 N a b) e f N ([]:List T14) 0)
 else z10_k1 c
def z10 (N:Nat) (a:(List T10)):Option (List T15) :=
 z10_l2 N a N ([]:List T15) 0
def z14 (N:Nat) (a:(List T15)):Option (ByteArray × Int) :=
 (z11 N a).bind fun b =>
 bif (!b) then (some ((str []),1))
 else (z36 N a).bind fun c =>
 some (c,0)
def z38 (N:Nat) (a:ByteArray) (b:ByteArray) (c:ByteArray):Option ByteArray :=
 bif (a.toList==b.toList) then (some c)
 else some a
def z16_k1 (a:(List ByteArray)):Option (List ByteArray) :=
 some a
def z16_l2 (N:Nat) (a:(List ByteArray)) (b:ByteArray) (c:ByteArray):Nat→(List ByteArray)→Int→Option (List ByteArray)
 | 0,_,_=>none
 | d+1,e,f =>
 bif (decide (f < (a.length:Int))) then ((idx a f).bind fun g =>
 (z38 N g b c).bind fun h =>
 (appL e ([h]:List ByteArray)).bind fun i =>
 (z16_l2 N a b c d) i (w64 (f+1)))
 else z16_k1 e
def z16 (N:Nat) (a:(List ByteArray)) (b:ByteArray) (c:ByteArray):Option (List ByteArray) :=
 z16_l2 N a b c N ([]:List ByteArray) 0
def z17_k1 (a:(List T13)):Option (List T13) :=
 some a
def z17_k3 (a:(List T13)) (b:Int) (c:(List T13)→Int→Option (List T13)) (d:T13) (e:ByteArray) (f:(List ByteArray)) (g:ByteArray) (h:(List (List T13))):Option (List T13) :=
 (appL a ([(⟨d.Kind,e,f,g,d.As,d.Ticks,h⟩:T13)]:List T13)).bind fun i =>
 c i (w64 (b+1))
def z17_l4 (rc:(List T13)→Int→ByteArray→ByteArray→Option (List T13)) (a:Int) (b:ByteArray) (c:ByteArray) (d:(List T13)) (e:Int) (f:(List T13)→Int→Option (List T13)) (g:T13) (h:ByteArray) (i:(List ByteArray)) (j:ByteArray):Nat→(List (List T13))→Int→Option (List T13)
 | 0,_,_=>none
 | k+1,l,m =>
 bif (decide (m < (g.Blocks.length:Int))) then ((idx g.Blocks m).bind fun o =>
 (rc o a b c).bind fun p =>
 (appL l ([p]:List (List T13))).bind fun q =>
 (z17_l4 rc a b c d e f g h i j k) q (w64 (m+1)))
 else z17_k3 d e f g h i j l
def z17_k5 (N:Nat) (rc:(List T13)→Int→ByteArray→ByteArray→Option (List T13)) (a:Int) (b:ByteArray) (c:ByteArray) (d:(List T13)) (e:Int) (f:(List T13)→Int→Option (List T13)) (g:T13) (h:ByteArray) (i:(List ByteArray)) (j:ByteArray):Option (List T13) :=
 z17_l4 rc a b c d e f g h i j N ([]:List (List T13)) 0
def z17_k6 (N:Nat) (rc:(List T13)→Int→ByteArray→ByteArray→Option (List T13)) (a:Int) (b:ByteArray) (c:ByteArray) (d:(List T13)) (e:Int) (f:(List T13)→Int→Option (List T13)) (g:T13) (h:Bool):Option (List T13) :=
 bif (a==0) then ((z38 N g.From b c).bind fun i =>
 (z16 N g.To b c).bind fun j =>
 z17_k5 N rc a b c d e f g i j g.Name)
 else bif (a==1) then (bif h then ((z38 N g.Name b c).bind fun k =>
 z17_k5 N rc a b c d e f g g.From g.To k)
 else bif (a==2) then (bif (g.Kind==1) then ((z38 N g.Name b c).bind fun l =>
 z17_k5 N rc a b c d e f g g.From g.To l)
 else z17_k5 N rc a b c d e f g g.From g.To g.Name)
 else z17_k5 N rc a b c d e f g g.From g.To g.Name)
 else bif (a==2) then (bif (g.Kind==1) then ((z38 N g.Name b c).bind fun m =>
 z17_k5 N rc a b c d e f g g.From g.To m)
 else z17_k5 N rc a b c d e f g g.From g.To g.Name)
 else z17_k5 N rc a b c d e f g g.From g.To g.Name
def z17_l2 (N:Nat) (rc:(List T13)→Int→ByteArray→ByteArray→Option (List T13)) (a:(List T13)) (b:Int) (c:ByteArray) (d:ByteArray):Nat→(List T13)→Int→Option (List T13)
 | 0,_,_=>none
 | e+1,f,g =>
 bif (decide (g < (a.length:Int))) then ((idx a g).bind fun h =>
 bif (h.Kind==3) then (z17_k6 N rc b c d f g (z17_l2 N rc a b c d e) h true)
 else z17_k6 N rc b c d f g (z17_l2 N rc a b c d e) h (h.Kind==4))
 else z17_k1 f
def z17_b (N:Nat) (rc:(List T13)→Int→ByteArray→ByteArray→Option (List T13)) (a:(List T13)) (b:Int) (c:ByteArray) (d:ByteArray):Option (List T13) :=
 z17_l2 N rc a b c d N ([]:List T13) 0
def z17_r:Nat→(List T13)→Int→ByteArray→ByteArray→Option (List T13)
 | 0,_,_,_,_=>none
 | N+1,a0,a1,a2,a3=>z17_b N (z17_r N) a0 a1 a2 a3
def z17 (N:Nat) (a:(List T13)) (b:Int) (c:ByteArray) (d:ByteArray):Option (List T13):=z17_r N a b c d
def z18_k1 (a:(List T14)):Option (List T14) :=
 some a
def z18_k3 (a:(List T14)) (b:Int) (c:(List T14)→Int→Option (List T14)) (d:T14) (e:ByteArray) (f:(List T12)):Option (List T14) :=
 (appL a ([(⟨e,d.Fields,f⟩:T14)]:List T14)).bind fun g =>
 c g (w64 (b+1))
def z18_l4 (N:Nat) (a:ByteArray) (b:ByteArray) (c:(List T14)) (d:Int) (e:(List T14)→Int→Option (List T14)) (f:T14) (g:ByteArray):Nat→(List T12)→Int→Option (List T14)
 | 0,_,_=>none
 | h+1,i,j =>
 bif (decide (j < (f.Where.length:Int))) then ((idx f.Where j).bind fun k =>
 (z38 N k.Left.Message a b).bind fun l =>
 (z38 N k.Right.Message a b).bind fun m =>
 (appL i ([(⟨(⟨k.Left.Kind,l,k.Left.Field,k.Left.N⟩:T11),k.Op,(⟨k.Right.Kind,m,k.Right.Field,k.Right.N⟩:T11)⟩:T12)]:List T12)).bind fun o =>
 (z18_l4 N a b c d e f g h) o (w64 (j+1)))
 else z18_k3 c d e f g i
def z18_l2 (N:Nat) (a:(List T14)) (b:ByteArray) (c:ByteArray):Nat→(List T14)→Int→Option (List T14)
 | 0,_,_=>none
 | d+1,e,f =>
 bif (decide (f < (a.length:Int))) then ((idx a f).bind fun g =>
 (z38 N g.Name b c).bind fun h =>
 z18_l4 N b c e f (z18_l2 N a b c d) g h N ([]:List T12) 0)
 else z18_k1 e
def z18 (N:Nat) (a:(List T14)) (b:ByteArray) (c:ByteArray):Option (List T14) :=
 z18_l2 N a b c N ([]:List T14) 0
def law11_NamesRename_k1 (N:Nat) (a:(List T15)) (b:T15) (c:(List ByteArray)) (d:(List T14)) (e:(List T13)):Option Bool :=
 (lsl a (some 1) none).bind fun f =>
 (appL ([(⟨b.Name,c,d,e⟩:T15)]:List T15) f).bind fun g =>
 (z11 N g).bind fun h =>
 bif (!h) then (some true)
 else (z9 N g).bind fun i =>
 some (i.Err==0)
def law11_NamesRename_k2 (N:Nat) (a:(List T15)) (b:T15) (c:(List T13)):Option Bool :=
 law11_NamesRename_k1 N a b b.Roles b.Messages c
def law11_NamesRename_l3 (N:Nat) (a:(List T15)) (b:T15):Nat→Int→Option Bool
 | 0,_=>none
 | c+1,d =>
 bif (decide (d < (b.Body.length:Int))) then ((idx b.Body d).bind fun e =>
 bif (e.Kind==3) then ((z17 N b.Body 1 e.Name (str [122,122,95,110,101,119])).bind fun f =>
 law11_NamesRename_k2 N a b f)
 else (law11_NamesRename_l3 N a b c) (w64 (d+1)))
 else law11_NamesRename_k2 N a b b.Body
def law11_NamesRename (N:Nat) (a:(List T10)) (b:Int) (c:Int):Option Bool :=
 (z7 N).bind fun d =>
 bif (!d) then ((z7 N).bind fun e =>
 some e)
 else (z8 N a).bind fun f =>
 bif (!f) then ((z7 N).bind fun g =>
 some g)
 else bif ((a.length:Int)==(0:Int)) then ((z7 N).bind fun h =>
 some h)
 else (z10 N a).bind fun i =>
 (z9 N i).bind fun j =>
 bif (j.Err != (0:Int)) then (some true)
 else (idx i (0:Int)).bind fun k =>
 (z14 N i).bind fun l =>
 (hasS l.1 (str [122,122,95,110,101,119])).bind fun m =>
 bif m then (some true)
 else bif ((b.tmod (3:Int))==(0:Int)) then ((binO .rem .i64 (w64 (c)) (k.Roles.length:Int)).bind fun o =>
 (idx k.Roles o).bind fun p =>
 (z16 N k.Roles p (str [122,122,95,110,101,119])).bind fun q =>
 (z17 N k.Body (0:Int) p (str [122,122,95,110,101,119])).bind fun r =>
 law11_NamesRename_k1 N i k q k.Messages r)
 else bif ((b.tmod (3:Int))==(1:Int)) then (law11_NamesRename_l3 N i k N (0:Int))
 else bif (decide ((k.Messages.length:Int) > (0:Int))) then ((binO .rem .i64 (w64 (c)) (k.Messages.length:Int)).bind fun s =>
 (idx k.Messages s).bind fun t =>
 (z18 N k.Messages t.Name (str [122,122,95,110,101,119])).bind fun u =>
 (z17 N k.Body (2:Int) t.Name (str [122,122,95,110,101,119])).bind fun v =>
 law11_NamesRename_k1 N i k k.Roles u v)
 else law11_NamesRename_k1 N i k k.Roles k.Messages k.Body
end Gx
end
