/- What each function of the statement computes, as plain definitions. -/
import Derived.Test.YtnlleampnlmdlaaGreatDoorExpandApartCore4
set_option linter.all false
section
open Go Go.Kx
namespace Gx
def digN:Nat→Nat→List UInt8
 | 0,_=>[]
 | f+1,u=>bif Nat.blt u 10 then [UInt8.ofNat (48+u)] else digN f (u / 10)++[UInt8.ofNat (48+u % 10)]
def itoaS (n:Int):ByteArray:=⟨(bif decide (n < 0) then 45::digN 25 n.natAbs else digN 25 n.toNat).toArray⟩
def joinL (sep:List UInt8):List (List UInt8)→List UInt8
 | []=>[]
 | x::r=>x++(r.map (sep++·)).flatten
structure T1 where
  Kind:Int
  Lo:Int
  Hi:Int
structure T0 where
  Name:ByteArray
  Sort':T1
structure T18 where
  Kind:Int
  Message:ByteArray
  Field:ByteArray
  N:Int
structure T14 where
  Left:T18
  Op:ByteArray
  Right:T18
structure T16 where
  Name:ByteArray
  Fields:(List T0)
  Where:(List T14)
structure T15 where
  Kind:Int
  From:ByteArray
  To:(List ByteArray)
  Name:ByteArray
  As:ByteArray
  Ticks:Int
  Blocks:(List (List T15))
structure T17 where
  Name:ByteArray
  Roles:(List ByteArray)
  Messages:(List T16)
  Body:(List T15)
structure T4 where
  Kind:Int
  Text:ByteArray
  Value:Int
  From:Int
structure T5 where
  s':ByteArray
  at':Int
structure T19 where
  l':(List T4)
  n':Int
  end':Int
  at':Int
  err':Int
structure T20 where
  Builder:ByteArray
  depth':Int
structure T6 where
  Protocol:ByteArray
  Name:ByteArray
  Err:Int
structure T7 where
  all':(List T17)
  p':T17
  calls':(List ByteArray)
  out':T6
structure T8 where
  name':ByteArray
  tail':Bool
  hidden':Bool
structure T2 where
  all':(List (ByteArray × T17))
  done':(List (ByteArray × T17))
structure T3 where
  roles':(List (ByteArray × ByteArray))
  head':ByteArray
structure T9 where
  Left:T18
  Op:ByteArray
  Right:T18
structure T11 where
  Name:ByteArray
  Fields:(List T0)
  Where:(List T9)
structure T10 where
  Kind:Int
  From:ByteArray
  To:(List ByteArray)
  Name:ByteArray
  As:ByteArray
  Ticks:Int
  Blocks:(List (List T10))
structure T12 where
  Name:ByteArray
  Roles:(List ByteArray)
  Messages:(List T11)
  Body:(List T10)
structure T13 where
  l':(List T12)
  p':T12
  calls':(List ByteArray)
  first':T6
def z180 (N:Nat) (a:ByteArray) (b:Int):Option Int :=
 some (firstB a b)
def z138 (N:Nat) (a:ByteArray) (b:Int):Option Int :=
 (z180 N a b).bind fun c =>
 some c
def z205 (N:Nat) (a:Int):Option Bool :=
 bif (decide (0≤a)) then (bif (decide (a < 55296)) then (some true)
 else bif (decide (57343 < a)) then (bif (decide (a≤1114111)) then (some true)
 else some false)
 else some false)
 else bif (decide (57343 < a)) then (bif (decide (a≤1114111)) then (some true)
 else some false)
 else some false
def z178_k1 (a:Nat):Option Int :=
 some (-1)
def z178_l2 (a:ByteArray):Nat→Nat→Option Int
 | 0,_=>none
 | b+1,c =>
 bif decide (c < a.size) then (bif (((Utf8.decode a c).1:Int)==65533) then (some ((c:Nat):Int))
 else (z178_l2 a b) (c+(Utf8.decode a c).2))
 else z178_k1 c
def z178_k3:Option Int :=
 some (-1)
def z178_k5 (a:Int) (b:Int):Option Int :=
 some (w64 (b-(w64 (((Utf8.encode a).size:Int)-1))))
def z178_l6 (a:ByteArray) (b:Int) (c:Int):Nat→Int→Option Int
 | 0,_=>none
 | d+1,e =>
 bif (decide (e < ((Utf8.encode b).size:Int))) then ((sidx a (w64 (c-e))).bind fun f =>
 (sidx (Utf8.encode b) (w64 ((w64 (((Utf8.encode b).size:Int)-1))-e))).bind fun g =>
 bif (f != g) then (dead 0)
 else (z178_l6 a b c d) (w64 (e+1)))
 else z178_k5 b c
def z178_k7 (N:Nat) (a:ByteArray) (b:Int) (c:Int):Option Int :=
 z178_l6 a b c N 1
def z178_l4 (N:Nat) (a:ByteArray) (b:Int):Nat→Option Int
 | 0=>none
 | c+1 =>
 bif (decide ((w64 (((Utf8.encode b).size:Int)-1)) < (a.size:Int))) then ((sidx a (w64 (((Utf8.encode b).size:Int)-1))).bind fun d =>
 (sidx (Utf8.encode b) (w64 (((Utf8.encode b).size:Int)-1))).bind fun e =>
 bif (d != e) then ((ssl a (some (w64 ((w64 (((Utf8.encode b).size:Int)-1))+1))) none).bind fun f =>
 (sidx (Utf8.encode b) (w64 (((Utf8.encode b).size:Int)-1))).bind fun g =>
 (z138 N f g).bind fun h =>
 bif (decide (h < 0)) then (some (-1))
 else z178_k7 N a b (w64 ((w64 (((Utf8.encode b).size:Int)-1))+(w64 (h+1)))))
 else z178_k7 N a b (w64 (((Utf8.encode b).size:Int)-1)))
 else z178_k3
def z178_k8 (N:Nat) (a:ByteArray) (b:Int) (c:Bool):Option Int :=
 bif c then ((z138 N a (wk .u8 (b))).bind fun d =>
 some d)
 else bif (b==65533) then (z178_l2 a N (0:Nat))
 else (z205 N b).bind fun e =>
 bif (!e) then (some (-1))
 else z178_l4 N a b N
def z178 (N:Nat) (a:ByteArray) (b:Int):Option Int :=
 bif (decide (0≤b)) then (z178_k8 N a b (decide (b < 128)))
 else z178_k8 N a b false
def z136 (N:Nat) (a:ByteArray) (b:Int):Option Bool :=
 (z178 N a b).bind fun c =>
 some (decide (c≥0))
def z179 (N:Nat) (a:ByteArray) (b:ByteArray):Option Bool :=
 bif (decide ((a.size:Int)≥(b.size:Int))) then ((ssl a none (some (b.size:Int))).bind fun c =>
 some (c.toList==b.toList))
 else some false
def z137 (N:Nat) (a:ByteArray) (b:ByteArray):Option Bool :=
 (z179 N a b).bind fun c =>
 some c
def z80_k1 (a:T5) (vbk0_0_1_1:Int):Option T5 :=
 some (⟨a.s',vbk0_0_1_1⟩:T5)
def z80_l2 (N:Nat) (a:T5):Nat→Int→Option T5
 | 0,_=>none
 | b+1,vbk0_0_1_3 =>
 bif (decide (vbk0_0_1_3 < (a.s'.size:Int))) then ((ssl a.s' (some vbk0_0_1_3) none).bind fun c =>
 (sidx c 0).bind fun d =>
 (z136 N (str [32,9,10,13]) (wk .i32 (d))).bind fun e =>
 bif e then ((z80_l2 N a b) (w64 (vbk0_0_1_3+1)))
 else (z137 N c (str [47,47])).bind fun f =>
 bif f then ((z138 N c 10).bind fun g =>
 bif (decide (g < 0)) then ((z80_l2 N a b) (w64 (vbk0_0_1_3+(w64 ((w64 ((c.size:Int)-1))+1)))))
 else (z80_l2 N a b) (w64 (vbk0_0_1_3+(w64 (g+1)))))
 else some (⟨a.s',vbk0_0_1_3⟩:T5))
 else z80_k1 a vbk0_0_1_3
def z80 (N:Nat) (a:T5):Option T5 :=
 z80_l2 N a N a.at'
def z82 (N:Nat) (a:Int):Option Bool :=
 bif (decide (97≤a)) then (bif (decide (a≤122)) then (some true)
 else bif (decide (65≤a)) then (some (decide (a≤90)))
 else some false)
 else bif (decide (65≤a)) then (some (decide (a≤90)))
 else some false
def z84 (N:Nat) (a:Int):Option Bool :=
 bif (decide (48≤a)) then (some (decide (a≤57)))
 else some false
def z141 (N:Nat) (a:Int):Option Bool :=
 (z82 N a).bind fun b =>
 bif b then (some true)
 else (z84 N a).bind fun c =>
 bif c then (some true)
 else some (a==95)
def z140_0_k1 (a:T5) (vbk0_0_1_1:Int):Option (ByteArray × T5) :=
 (ssl a.s' (some a.at') (some vbk0_0_1_1)).bind fun b =>
 some (b,(⟨a.s',vbk0_0_1_1⟩:T5))
def z140_0_l2 (N:Nat) (a:T5):Nat→Int→Option (ByteArray × T5)
 | 0,_=>none
 | b+1,vbk0_0_1_3 =>
 bif (decide (vbk0_0_1_3 < (a.s'.size:Int))) then ((sidx a.s' vbk0_0_1_3).bind fun c =>
 (z141 N c).bind fun d =>
 bif d then ((z140_0_l2 N a b) (w64 (vbk0_0_1_3+1)))
 else z140_0_k1 a vbk0_0_1_3)
 else z140_0_k1 a vbk0_0_1_3
def z140_0 (N:Nat) (a:T5):Option (ByteArray × T5) :=
 z140_0_l2 N a N a.at'
def z83 (N:Nat) (a:T5):Option (T4 × Int × T5) :=
 (z140_0 N a).bind fun b =>
 bif (decide ((b.1.size:Int) > 16)) then (some ((⟨0,(str []),0,0⟩:T4),6,b.2))
 else some ((⟨1,b.1,0,0⟩:T4),0,b.2)
def z140_1_k1 (a:T5) (vbk0_0_1_1:Int):Option (ByteArray × T5) :=
 (ssl a.s' (some a.at') (some vbk0_0_1_1)).bind fun b =>
 some (b,(⟨a.s',vbk0_0_1_1⟩:T5))
def z140_1_l2 (N:Nat) (a:T5):Nat→Int→Option (ByteArray × T5)
 | 0,_=>none
 | b+1,vbk0_0_1_3 =>
 bif (decide (vbk0_0_1_3 < (a.s'.size:Int))) then ((sidx a.s' vbk0_0_1_3).bind fun c =>
 (z84 N c).bind fun d =>
 bif d then ((z140_1_l2 N a b) (w64 (vbk0_0_1_3+1)))
 else z140_1_k1 a vbk0_0_1_3)
 else z140_1_k1 a vbk0_0_1_3
def z140_1 (N:Nat) (a:T5):Option (ByteArray × T5) :=
 z140_1_l2 N a N a.at'
def z85_k1 (a:ByteArray × T5) (b:Int):Option (T4 × Int × T5) :=
 some ((⟨2,(str []),b,0⟩:T4),0,a.2)
def z85_l2 (a:ByteArray × T5):Nat→Int→Int→Option (T4 × Int × T5)
 | 0,_,_=>none
 | b+1,c,d =>
 bif (decide (d < (a.1.size:Int))) then ((sidx a.1 d).bind fun e =>
 (z85_l2 a b) (w64 ((w64 (10 * c))+(w64 ((wk .u8 (e-48)))))) (w64 (d+1)))
 else z85_k1 a c
def z85_k3 (N:Nat) (a:ByteArray × T5) (b:Bool):Option (T4 × Int × T5) :=
 bif b then (some ((⟨0,(str []),0,0⟩:T4),2,a.2))
 else z85_l2 a N 0 0
def z85_k4 (N:Nat) (a:ByteArray × T5) (b:Bool):Option (T4 × Int × T5) :=
 bif b then (some ((⟨0,(str []),0,0⟩:T4),3,a.2))
 else bif (decide ((a.1.size:Int) > 6)) then (z85_k3 N a true)
 else bif (decide ((a.1.size:Int) > 1)) then ((sidx a.1 0).bind fun c =>
 z85_k3 N a (c==48))
 else z85_k3 N a false
def z85 (N:Nat) (a:T5):Option (T4 × Int × T5) :=
 (z140_1 N a).bind fun b =>
 bif (decide (b.2.at' < (b.2.s'.size:Int))) then ((sidx b.2.s' b.2.at').bind fun c =>
 (z141 N c).bind fun d =>
 z85_k4 N b d)
 else z85_k4 N b false
def z86_k1 (a:T5) (vbk0_0_1_1:Int):Option (T4 × Int × T5) :=
 some ((⟨0,(str []),0,0⟩:T4),3,(⟨a.s',vbk0_0_1_1⟩:T5))
def z86_k3 (a:T5) (b:(List Int)) (c:Int→(List Int)→Option (T4 × Int × T5)) (vbk0_0_1_9:Int) (d:Int):Option (T4 × Int × T5) :=
 bif (decide (d < 32)) then (some ((⟨0,(str []),0,0⟩:T4),3,(⟨a.s',vbk0_0_1_9⟩:T5)))
 else bif (decide (d > 126)) then (some ((⟨0,(str []),0,0⟩:T4),3,(⟨a.s',vbk0_0_1_9⟩:T5)))
 else (appL b ([d]:List Int)).bind fun e =>
 c (w64 (vbk0_0_1_9+1)) e
def z86_l2 (a:T5):Nat→Int→(List Int)→Option (T4 × Int × T5)
 | 0,_,_=>none
 | b+1,vbk0_0_1_6,c =>
 bif (decide (vbk0_0_1_6 < (a.s'.size:Int))) then ((sidx a.s' vbk0_0_1_6).bind fun d =>
 bif (d==34) then (bif (decide ((c.length:Int) > 40)) then (some ((⟨0,(str []),0,0⟩:T4),6,(⟨a.s',(w64 (vbk0_0_1_6+1))⟩:T5)))
 else some ((⟨3,(strOf c),0,0⟩:T4),0,(⟨a.s',(w64 (vbk0_0_1_6+1))⟩:T5)))
 else bif (d==92) then (bif ((w64 (vbk0_0_1_6+1))==(a.s'.size:Int)) then (some ((⟨0,(str []),0,0⟩:T4),3,(⟨a.s',(w64 (vbk0_0_1_6+1))⟩:T5)))
 else (sidx a.s' (w64 (vbk0_0_1_6+1))).bind fun e =>
 bif (e != 34) then ((sidx a.s' (w64 (vbk0_0_1_6+1))).bind fun f =>
 bif (f != 92) then (some ((⟨0,(str []),0,0⟩:T4),3,(⟨a.s',(w64 (vbk0_0_1_6+1))⟩:T5)))
 else (sidx a.s' (w64 (vbk0_0_1_6+1))).bind fun g =>
 z86_k3 a c (z86_l2 a b) (w64 (vbk0_0_1_6+1)) g)
 else (sidx a.s' (w64 (vbk0_0_1_6+1))).bind fun h =>
 z86_k3 a c (z86_l2 a b) (w64 (vbk0_0_1_6+1)) h)
 else z86_k3 a c (z86_l2 a b) vbk0_0_1_6 d)
 else z86_k1 a vbk0_0_1_6
def z86 (N:Nat) (a:T5):Option (T4 × Int × T5) :=
 z86_l2 a N (w64 (a.at'+1)) ([]:List Int)
def z209 (N:Nat) (a:ByteArray) (b:ByteArray):Option Int :=
 bif ((b.size:Int)==0) then (some 0)
 else bif (b.toList==a.toList) then (some 0)
 else bif ((b.size:Int)==1) then ((sidx b 0).bind fun c =>
 (z180 N a c).bind fun d =>
 some d)
 else bif (decide ((b.size:Int)≥(a.size:Int))) then (some (-1))
 else dead 0
def z181 (N:Nat) (a:ByteArray) (b:ByteArray):Option Int :=
 (z209 N a b).bind fun c =>
 some c
def z139 (N:Nat) (a:ByteArray) (b:ByteArray):Option Bool :=
 (z181 N a b).bind fun c =>
 some (decide (c≥0))
def z81_k1 (N:Nat) (a:T5):Option (T4 × Int × T5) :=
 (ssl a.s' (some a.at') (some (w64 (a.at'+1)))).bind fun b =>
 (z139 N (str [40,41,123,125,44,59,58,46,43,45,42,47,37,60,62,61,33]) b).bind fun c =>
 bif (!c) then (some ((⟨0,(str []),0,0⟩:T4),3,a))
 else some ((⟨4,b,0,0⟩:T4),0,(⟨a.s',(w64 (a.at'+1))⟩:T5))
def z81_l2 (N:Nat) (a:T5):Nat→Int→Option (T4 × Int × T5)
 | 0,_=>none
 | b+1,c =>
 bif (decide (c < 8)) then ((idx ([(str [45,62]),(str [46,46]),(str [60,61]),(str [62,61]),(str [61,61]),(str [33,61]),(str [38,38]),(str [124,124])]:List ByteArray) c).bind fun d =>
 (ssl a.s' (some a.at') none).bind fun e =>
 (z137 N e d).bind fun f =>
 bif f then (some ((⟨4,d,0,0⟩:T4),0,(⟨a.s',(w64 (a.at'+2))⟩:T5)))
 else (z81_l2 N a b) (w64 (c+1)))
 else z81_k1 N a
def z81 (N:Nat) (a:T5):Option (T4 × Int × T5) :=
 z81_l2 N a N 0
def z32_k1 (a:(List T4)):Option ((List T4) × Int × Int) :=
 some (a,0,0)
def z32_l2 (N:Nat) (a:ByteArray):Nat→(List T4)→ByteArray→Int→Option ((List T4) × Int × Int)
 | 0,_,_,_=>none
 | b+1,c,d,e =>
 bif (decide (e < (a.size:Int))) then ((sidx a e).bind fun f =>
 (z82 N f).bind fun g =>
 bif g then ((z83 N (⟨d,e⟩:T5)).bind fun h =>
 bif (h.2.1 != 0) then (some (([]:List T4),e,h.2.1))
 else (appL c ([(⟨h.1.Kind,h.1.Text,h.1.Value,e⟩:T4)]:List T4)).bind fun i =>
 (z80 N h.2.2).bind fun j =>
 (z32_l2 N a b) i j.s' j.at')
 else (z84 N f).bind fun k =>
 bif k then ((z85 N (⟨d,e⟩:T5)).bind fun l =>
 bif (l.2.1 != 0) then (some (([]:List T4),e,l.2.1))
 else (appL c ([(⟨l.1.Kind,l.1.Text,l.1.Value,e⟩:T4)]:List T4)).bind fun m =>
 (z80 N l.2.2).bind fun o =>
 (z32_l2 N a b) m o.s' o.at')
 else bif (f==34) then ((z86 N (⟨d,e⟩:T5)).bind fun p =>
 bif (p.2.1 != 0) then (some (([]:List T4),e,p.2.1))
 else (appL c ([(⟨p.1.Kind,p.1.Text,p.1.Value,e⟩:T4)]:List T4)).bind fun q =>
 (z80 N p.2.2).bind fun r =>
 (z32_l2 N a b) q r.s' r.at')
 else (z81 N (⟨d,e⟩:T5)).bind fun s =>
 bif (s.2.1 != 0) then (some (([]:List T4),e,s.2.1))
 else (appL c ([(⟨s.1.Kind,s.1.Text,s.1.Value,e⟩:T4)]:List T4)).bind fun t =>
 (z80 N s.2.2).bind fun u =>
 (z32_l2 N a b) t u.s' u.at')
 else z32_k1 c
def z32 (N:Nat) (a:ByteArray):Option ((List T4) × Int × Int) :=
 bif (decide ((a.size:Int) > 8000)) then (some (([]:List T4),8000,6))
 else (z80 N (⟨a,0⟩:T5)).bind fun b =>
 z32_l2 N a N ([]:List T4) b.s' b.at'
def z143 (N:Nat) (a:T19):Option T4 :=
 bif (a.err' != 0) then (some (⟨0,(str []),0,0⟩:T4))
 else bif (decide (a.n'≥(a.l'.length:Int))) then (some (⟨0,(str []),0,0⟩:T4))
 else (idx a.l' a.n').bind fun b =>
 some b
def z144 (N:Nat) (a:T19) (b:ByteArray):Option Bool :=
 (z143 N a).bind fun c =>
 bif (c.Kind==4) then (some (c.Text.toList==b.toList))
 else bif (c.Kind==1) then (some (c.Text.toList==b.toList))
 else some false
def z90 (N:Nat) (a:T19) (b:ByteArray):Option (Bool × T19) :=
 (z144 N a b).bind fun c =>
 bif (!c) then (some (false,a))
 else some (true,(⟨a.l',(w64 (a.n'+1)),a.end',a.at',a.err'⟩:T19))
def z142 (N:Nat) (a:T19) (b:Int):Option T19 :=
 bif (a.err' != 0) then (some a)
 else bif (decide (a.n' < (a.l'.length:Int))) then ((idx a.l' a.n').bind fun c =>
 some (⟨a.l',a.n',a.end',c.From,b⟩:T19))
 else some (⟨a.l',a.n',a.end',a.end',b⟩:T19)
def z87 (N:Nat) (a:T19) (b:ByteArray):Option T19 :=
 (z90 N a b).bind fun c =>
 bif (!c.1) then ((z142 N c.2 3).bind fun d =>
 some d)
 else some c.2
def z97_k1:Option Bool :=
 some true
def z97_l2 (N:Nat) (a:ByteArray):Nat→Int→Option Bool
 | 0,_=>none
 | b+1,c =>
 bif (decide (c < (a.size:Int))) then ((sidx a c).bind fun d =>
 (z141 N d).bind fun e =>
 bif (!e) then (some false)
 else (z97_l2 N a b) (w64 (c+1)))
 else z97_k1
def z97 (N:Nat) (a:ByteArray):Option Bool :=
 bif (a.toList==(str []).toList) then (some false)
 else bif (decide ((a.size:Int) > 16)) then (some false)
 else (sidx a 0).bind fun b =>
 (z82 N b).bind fun c =>
 bif (!c) then (some false)
 else z97_l2 N a N 0
def z122_k1:Option Int :=
 some (-1)
def z122_l2 (a:(List ByteArray)) (b:ByteArray):Nat→Int→Option Int
 | 0,_=>none
 | c+1,d =>
 bif (decide (d < (a.length:Int))) then ((idx a d).bind fun e =>
 bif (b.toList==e.toList) then (some d)
 else (z122_l2 a b c) (w64 (d+1)))
 else z122_k1
def z122 (N:Nat) (a:(List ByteArray)) (b:ByteArray):Option Int :=
 z122_l2 a b N 0
def z54 (N:Nat) (a:(List ByteArray)) (b:ByteArray):Option Bool :=
 (z122 N a b).bind fun c =>
 some (decide (c≥0))
def z41 (N:Nat) (a:ByteArray):Option Bool :=
 (z97 N a).bind fun b =>
 bif b then ((z54 N ([(str [97,103,97,105,110]),(str [97,110,100]),(str [97,115]),(str [97,116]),(str [99,97,108,108]),(str [99,104,111,105,99,101]),(str [101,108,115,101]),(str [102,114,111,109]),(str [105,102]),(str [105,110,116]),(str [108,101,110]),(str [108,111,111,112]),(str [109,101,115,115,97,103,101]),(str [111,102]),(str [111,102,102,101,114]),(str [111,110]),(str [111,114]),(str [112,97,114]),(str [112,108,97,121,115]),(str [112,114,111,116,111,99,111,108]),(str [115,101,114,118,105,99,101]),(str [116,101,120,116]),(str [116,105,109,101,115]),(str [116,111]),(str [118,97,114]),(str [119,104,101,114,101]),(str [119,104,105,108,101]),(str [119,105,116,104,105,110])]:List ByteArray) a).bind fun c =>
 some (!c))
 else some false
def z88 (N:Nat) (a:T19):Option (ByteArray × T19) :=
 (z143 N a).bind fun b =>
 bif (b.Kind != 1) then ((z142 N a 3).bind fun c =>
 some ((str []),c))
 else (z41 N b.Text).bind fun d =>
 bif (!d) then ((z142 N a 3).bind fun e =>
 some ((str []),e))
 else some (b.Text,(⟨a.l',(w64 (a.n'+1)),a.end',a.at',a.err'⟩:T19))
def z89_k1 (vbk0_0_0_1:(List T4)) (vbk0_0_1_1:Int) (vbk0_0_2_1:Int) (vbk0_0_3_1:Int) (vbk0_0_4_1:Int) (a:(List ByteArray)):Option ((List ByteArray) × T19) :=
 some (a,(⟨vbk0_0_0_1,vbk0_0_1_1,vbk0_0_2_1,vbk0_0_3_1,vbk0_0_4_1⟩:T19))
def z89_l2 (N:Nat):Nat→(List T4)→Int→Int→Int→Int→(List ByteArray)→Option ((List ByteArray) × T19)
 | 0,_,_,_,_,_,_=>none
 | a+1,vbk0_0_0_3,vbk0_0_1_3,vbk0_0_2_3,vbk0_0_3_3,vbk0_0_4_3,b =>
 (z90 N (⟨vbk0_0_0_3,vbk0_0_1_3,vbk0_0_2_3,vbk0_0_3_3,vbk0_0_4_3⟩:T19) (str [44])).bind fun c =>
 bif c.1 then ((z88 N c.2).bind fun d =>
 (appL b ([d.1]:List ByteArray)).bind fun e =>
 (z89_l2 N a) d.2.l' d.2.n' d.2.end' d.2.at' d.2.err' e)
 else z89_k1 c.2.l' c.2.n' c.2.end' c.2.at' c.2.err' b
def z89 (N:Nat) (a:T19):Option ((List ByteArray) × T19) :=
 (z88 N a).bind fun b =>
 z89_l2 N N b.2.l' b.2.n' b.2.end' b.2.at' b.2.err' ([b.1]:List ByteArray)
def z145_k1 (vbk0_0_0_1:(List T4)) (vbk0_0_1_1:Int) (vbk0_0_2_1:Int) (vbk0_0_3_1:Int) (vbk0_0_4_1:Int) (a:ByteArray):Option (ByteArray × T19) :=
 some (a,(⟨vbk0_0_0_1,vbk0_0_1_1,vbk0_0_2_1,vbk0_0_3_1,vbk0_0_4_1⟩:T19))
def z145_l2 (N:Nat):Nat→(List T4)→Int→Int→Int→Int→ByteArray→Option (ByteArray × T19)
 | 0,_,_,_,_,_,_=>none
 | a+1,vbk0_0_0_3,vbk0_0_1_3,vbk0_0_2_3,vbk0_0_3_3,vbk0_0_4_3,b =>
 (z90 N (⟨vbk0_0_0_3,vbk0_0_1_3,vbk0_0_2_3,vbk0_0_3_3,vbk0_0_4_3⟩:T19) (str [46])).bind fun c =>
 bif c.1 then ((z88 N c.2).bind fun d =>
 (catS (str [46]) d.1).bind fun e =>
 (catS b e).bind fun f =>
 (z145_l2 N a) d.2.l' d.2.n' d.2.end' d.2.at' d.2.err' f)
 else z145_k1 c.2.l' c.2.n' c.2.end' c.2.at' c.2.err' b
def z145 (N:Nat) (a:T19):Option (ByteArray × T19) :=
 (z88 N a).bind fun b =>
 z145_l2 N N b.2.l' b.2.n' b.2.end' b.2.at' b.2.err' b.1
def z183 (N:Nat) (a:T19):Option (Int × T19) :=
 (z143 N a).bind fun b =>
 bif (b.Kind != 2) then ((z142 N a 3).bind fun c =>
 some (0,c))
 else some (b.Value,(⟨a.l',(w64 (a.n'+1)),a.end',a.at',a.err'⟩:T19))
def z182 (N:Nat) (a:T19):Option (Int × T19) :=
 (z90 N a (str [45])).bind fun b =>
 bif b.1 then ((z183 N b.2).bind fun c =>
 some ((w64 (0-c.1)),c.2))
 else (z183 N b.2).bind fun d =>
 some (d.1,d.2)
def z146 (N:Nat) (a:T19):Option (T0 × T19) :=
 (z88 N a).bind fun b =>
 (z87 N b.2 (str [58])).bind fun c =>
 (z90 N c (str [105,110,116])).bind fun d =>
 bif (!d.1) then ((z87 N d.2 (str [116,101,120,116])).bind fun e =>
 (z183 N e).bind fun f =>
 (z87 N f.2 (str [46,46])).bind fun g =>
 (z183 N g).bind fun h =>
 some ((⟨b.1,(⟨2,f.1,h.1⟩:T1)⟩:T0),h.2))
 else (z182 N d.2).bind fun i =>
 (z87 N i.2 (str [46,46])).bind fun j =>
 (z182 N j).bind fun k =>
 some ((⟨b.1,(⟨1,i.1,k.1⟩:T1)⟩:T0),k.2)
def z222_k1:Option Int :=
 some (-1)
def z222_l2 (a:ByteArray) (b:Int):Nat→Int→Option Int
 | 0,_=>none
 | c+1,d =>
 bif (decide (d≥0)) then ((sidx a d).bind fun e =>
 bif (e==b) then (some d)
 else (z222_l2 a b c) (w64 (d-1)))
 else z222_k1
def z222 (N:Nat) (a:ByteArray) (b:Int):Option Int :=
 z222_l2 a b N (w64 ((a.size:Int)-1))
def z210 (N:Nat) (a:ByteArray) (b:Int):Option Int :=
 (z222 N a b).bind fun c =>
 some c
def z184_k1 (N:Nat) (vbk0_0_0_1:(List T4)) (vbk0_0_1_1:Int) (vbk0_0_2_1:Int) (vbk0_0_3_1:Int) (vbk0_0_4_1:Int) (a:Int) (b:ByteArray) (c:ByteArray):Option (T18 × T19) :=
 (z90 N (⟨vbk0_0_0_1,vbk0_0_1_1,vbk0_0_2_1,vbk0_0_3_1,vbk0_0_4_1⟩:T19) (str [43])).bind fun d =>
 bif d.1 then ((z183 N d.2).bind fun e =>
 some ((⟨a,b,c,e.1⟩:T18),e.2))
 else (z90 N d.2 (str [45])).bind fun f =>
 bif f.1 then ((z183 N f.2).bind fun g =>
 some ((⟨a,b,c,(w64 (0-g.1))⟩:T18),g.2))
 else some ((⟨a,b,c,0⟩:T18),f.2)
def z184_k2 (N:Nat) (vbk0_0_0_1:(List T4)) (vbk0_0_1_1:Int) (vbk0_0_2_1:Int) (vbk0_0_3_1:Int) (vbk0_0_4_1:Int) (a:Int) (b:ByteArray):Option (T18 × T19) :=
 (z210 N b 46).bind fun c =>
 bif (decide (c≥0)) then ((ssl b none (some c)).bind fun d =>
 (ssl b (some (w64 (c+1))) none).bind fun e =>
 z184_k1 N vbk0_0_0_1 vbk0_0_1_1 vbk0_0_2_1 vbk0_0_3_1 vbk0_0_4_1 a d e)
 else z184_k1 N vbk0_0_0_1 vbk0_0_1_1 vbk0_0_2_1 vbk0_0_3_1 vbk0_0_4_1 a (str []) b
def z184 (N:Nat) (a:T19):Option (T18 × T19) :=
 (z144 N a (str [45])).bind fun b =>
 bif b then ((z182 N a).bind fun c =>
 some ((⟨1,(str []),(str []),c.1⟩:T18),c.2))
 else (z143 N a).bind fun d =>
 bif (d.Kind==2) then ((z182 N a).bind fun e =>
 some ((⟨1,(str []),(str []),e.1⟩:T18),e.2))
 else (z90 N a (str [108,101,110])).bind fun f =>
 bif f.1 then ((z87 N f.2 (str [40])).bind fun g =>
 (z145 N g).bind fun h =>
 (z87 N h.2 (str [41])).bind fun i =>
 z184_k2 N i.l' i.n' i.end' i.at' i.err' 3 h.1)
 else (z145 N f.2).bind fun j =>
 z184_k2 N j.2.l' j.2.n' j.2.end' j.2.at' j.2.err' 2 j.1
def z103 (N:Nat):Option (List ByteArray) :=
 some ([(str [60]),(str [60,61]),(str [61,61]),(str [62,61]),(str [62])]:List ByteArray)
def z147 (N:Nat) (a:T19):Option (T14 × T19) :=
 (z184 N a).bind fun b =>
 (z143 N b.2).bind fun c =>
 bif (c.Kind==4) then ((z103 N).bind fun d =>
 (z54 N d c.Text).bind fun e =>
 bif e then ((z184 N (⟨b.2.l',(w64 (b.2.n'+1)),b.2.end',b.2.at',b.2.err'⟩:T19)).bind fun f =>
 some ((⟨b.1,c.Text,f.1⟩:T14),f.2))
 else (z142 N b.2 3).bind fun g =>
 (z184 N g).bind fun h =>
 some ((⟨b.1,(str []),h.1⟩:T14),h.2))
 else (z142 N b.2 3).bind fun i =>
 (z184 N i).bind fun j =>
 some ((⟨b.1,(str []),j.1⟩:T14),j.2)
def z91_k1 (N:Nat) (a:ByteArray × T19) (b:(List T0)) (vbk0_0_0_5:(List T4)) (vbk0_0_1_5:Int) (vbk0_0_2_5:Int) (vbk0_0_3_5:Int) (vbk0_0_4_5:Int) (c:(List T14)):Option (T16 × T19) :=
 (z87 N (⟨vbk0_0_0_5,vbk0_0_1_5,vbk0_0_2_5,vbk0_0_3_5,vbk0_0_4_5⟩:T19) (str [59])).bind fun d =>
 some ((⟨a.1,b,c⟩:T16),d)
def z91_l2 (N:Nat) (a:ByteArray × T19) (b:(List T0)):Nat→(List T4)→Int→Int→Int→Int→(List T14)→Option (T16 × T19)
 | 0,_,_,_,_,_,_=>none
 | c+1,vbk0_0_0_7,vbk0_0_1_7,vbk0_0_2_7,vbk0_0_3_7,vbk0_0_4_7,d =>
 (z90 N (⟨vbk0_0_0_7,vbk0_0_1_7,vbk0_0_2_7,vbk0_0_3_7,vbk0_0_4_7⟩:T19) (str [97,110,100])).bind fun e =>
 bif e.1 then ((z147 N e.2).bind fun f =>
 (appL d ([f.1]:List T14)).bind fun g =>
 (z91_l2 N a b c) f.2.l' f.2.n' f.2.end' f.2.at' f.2.err' g)
 else z91_k1 N a b e.2.l' e.2.n' e.2.end' e.2.at' e.2.err' d
def z91_k3 (N:Nat) (a:ByteArray × T19) (vbk0_0_0_1:(List T4)) (vbk0_0_1_1:Int) (vbk0_0_2_1:Int) (vbk0_0_3_1:Int) (vbk0_0_4_1:Int) (b:(List T0)):Option (T16 × T19) :=
 (z90 N (⟨vbk0_0_0_1,vbk0_0_1_1,vbk0_0_2_1,vbk0_0_3_1,vbk0_0_4_1⟩:T19) (str [119,104,101,114,101])).bind fun c =>
 bif c.1 then ((z147 N c.2).bind fun d =>
 (appL ([]:List T14) ([d.1]:List T14)).bind fun e =>
 z91_l2 N a b N d.2.l' d.2.n' d.2.end' d.2.at' d.2.err' e)
 else (z87 N c.2 (str [59])).bind fun f =>
 some ((⟨a.1,b,([]:List T14)⟩:T16),f)
def z91_k4 (N:Nat) (a:ByteArray × T19) (vbk0_0_0_8:(List T4)) (vbk0_0_1_8:Int) (vbk0_0_2_8:Int) (vbk0_0_3_8:Int) (vbk0_0_4_8:Int) (b:(List T0)):Option (T16 × T19) :=
 (z87 N (⟨vbk0_0_0_8,vbk0_0_1_8,vbk0_0_2_8,vbk0_0_3_8,vbk0_0_4_8⟩:T19) (str [41])).bind fun c =>
 z91_k3 N a c.l' c.n' c.end' c.at' c.err' b
def z91_l5 (N:Nat) (a:ByteArray × T19):Nat→(List T4)→Int→Int→Int→Int→(List T0)→Option (T16 × T19)
 | 0,_,_,_,_,_,_=>none
 | b+1,vbk0_0_0_10,vbk0_0_1_10,vbk0_0_2_10,vbk0_0_3_10,vbk0_0_4_10,c =>
 (z90 N (⟨vbk0_0_0_10,vbk0_0_1_10,vbk0_0_2_10,vbk0_0_3_10,vbk0_0_4_10⟩:T19) (str [44])).bind fun d =>
 bif d.1 then ((z146 N d.2).bind fun e =>
 (appL c ([e.1]:List T0)).bind fun f =>
 (z91_l5 N a b) e.2.l' e.2.n' e.2.end' e.2.at' e.2.err' f)
 else z91_k4 N a d.2.l' d.2.n' d.2.end' d.2.at' d.2.err' c
def z91 (N:Nat) (a:T19):Option (T16 × T19) :=
 (z145 N a).bind fun b =>
 (z87 N b.2 (str [40])).bind fun c =>
 (z90 N c (str [41])).bind fun d =>
 bif (!d.1) then ((z146 N d.2).bind fun e =>
 (appL ([]:List T0) ([e.1]:List T0)).bind fun f =>
 z91_l5 N b N e.2.l' e.2.n' e.2.end' e.2.at' e.2.err' f)
 else z91_k3 N b d.2.l' d.2.n' d.2.end' d.2.at' d.2.err' ([]:List T0)
def z186 (N:Nat) (rc:T19→Option ((List T15) × T19)) (a:T19):Option ((List T15) × T19) :=
 (z87 N a (str [123])).bind fun b =>
 (rc b).bind fun c =>
 (z87 N c.2 (str [125])).bind fun d =>
 some (c.1,d)
def z185_k1 (N:Nat) (rc:T19→Option ((List T15) × T19)) (a:ByteArray × T19) (b:Int) (vbk0_0_0_2:(List T4)) (vbk0_0_1_2:Int) (vbk0_0_2_2:Int) (vbk0_0_3_2:Int) (vbk0_0_4_2:Int) (c:(List (List T15))):Option (T15 × T19) :=
 bif (decide (b > 0)) then ((z87 N (⟨vbk0_0_0_2,vbk0_0_1_2,vbk0_0_2_2,vbk0_0_3_2,vbk0_0_4_2⟩:T19) (str [101,108,115,101])).bind fun d =>
 (z186 N rc d).bind fun e =>
 (appL c ([e.1]:List (List T15))).bind fun f =>
 some ((⟨2,a.1,([]:List ByteArray),(str []),(str []),b,f⟩:T15),e.2))
 else some ((⟨2,a.1,([]:List ByteArray),(str []),(str []),b,c⟩:T15),(⟨vbk0_0_0_2,vbk0_0_1_2,vbk0_0_2_2,vbk0_0_3_2,vbk0_0_4_2⟩:T19))
def z185_l2 (N:Nat) (rc:T19→Option ((List T15) × T19)) (a:ByteArray × T19) (b:Int):Nat→(List T4)→Int→Int→Int→Int→(List (List T15))→Option (T15 × T19)
 | 0,_,_,_,_,_,_=>none
 | c+1,vbk0_0_0_4,vbk0_0_1_4,vbk0_0_2_4,vbk0_0_3_4,vbk0_0_4_4,d =>
 (z90 N (⟨vbk0_0_0_4,vbk0_0_1_4,vbk0_0_2_4,vbk0_0_3_4,vbk0_0_4_4⟩:T19) (str [111,114])).bind fun e =>
 bif e.1 then ((z186 N rc e.2).bind fun f =>
 (appL d ([f.1]:List (List T15))).bind fun g =>
 (z185_l2 N rc a b c) f.2.l' f.2.n' f.2.end' f.2.at' f.2.err' g)
 else z185_k1 N rc a b e.2.l' e.2.n' e.2.end' e.2.at' e.2.err' d
def z185_k3 (N:Nat) (rc:T19→Option ((List T15) × T19)) (a:ByteArray × T19) (vbk0_0_0_1:(List T4)) (vbk0_0_1_1:Int) (vbk0_0_2_1:Int) (vbk0_0_3_1:Int) (vbk0_0_4_1:Int) (b:Int):Option (T15 × T19) :=
 (z186 N rc (⟨vbk0_0_0_1,vbk0_0_1_1,vbk0_0_2_1,vbk0_0_3_1,vbk0_0_4_1⟩:T19)).bind fun c =>
 z185_l2 N rc a b N c.2.l' c.2.n' c.2.end' c.2.at' c.2.err' ([c.1]:List (List T15))
def z185 (N:Nat) (rc:T19→Option ((List T15) × T19)) (a:T19):Option (T15 × T19) :=
 (z87 N a (str [97,116])).bind fun b =>
 (z88 N b).bind fun c =>
 (z90 N c.2 (str [119,105,116,104,105,110])).bind fun d =>
 bif d.1 then ((z143 N d.2).bind fun e =>
 bif (e.Kind==2) then (bif (decide (e.Value < 1)) then ((z142 N d.2 2).bind fun f =>
 (z183 N f).bind fun g =>
 z185_k3 N rc c g.2.l' g.2.n' g.2.end' g.2.at' g.2.err' g.1)
 else bif (decide (e.Value > 1000)) then ((z142 N d.2 2).bind fun h =>
 (z183 N h).bind fun i =>
 z185_k3 N rc c i.2.l' i.2.n' i.2.end' i.2.at' i.2.err' i.1)
 else (z183 N d.2).bind fun j =>
 z185_k3 N rc c j.2.l' j.2.n' j.2.end' j.2.at' j.2.err' j.1)
 else (z183 N d.2).bind fun k =>
 z185_k3 N rc c k.2.l' k.2.n' k.2.end' k.2.at' k.2.err' k.1)
 else z185_k3 N rc c d.2.l' d.2.n' d.2.end' d.2.at' d.2.err' 0
def z148_k1 (vbk0_0_0_1:(List T4)) (vbk0_0_1_1:Int) (vbk0_0_2_1:Int) (vbk0_0_3_1:Int) (vbk0_0_4_1:Int) (a:(List (List T15))):Option (T15 × T19) :=
 some ((⟨5,(str []),([]:List ByteArray),(str []),(str []),0,a⟩:T15),(⟨vbk0_0_0_1,vbk0_0_1_1,vbk0_0_2_1,vbk0_0_3_1,vbk0_0_4_1⟩:T19))
def z148_l2 (N:Nat) (rc:T19→Option ((List T15) × T19)):Nat→(List T4)→Int→Int→Int→Int→(List (List T15))→Option (T15 × T19)
 | 0,_,_,_,_,_,_=>none
 | a+1,vbk0_0_0_3,vbk0_0_1_3,vbk0_0_2_3,vbk0_0_3_3,vbk0_0_4_3,b =>
 (z90 N (⟨vbk0_0_0_3,vbk0_0_1_3,vbk0_0_2_3,vbk0_0_3_3,vbk0_0_4_3⟩:T19) (str [97,110,100])).bind fun c =>
 bif c.1 then ((z186 N rc c.2).bind fun d =>
 (appL b ([d.1]:List (List T15))).bind fun e =>
 (z148_l2 N rc a) d.2.l' d.2.n' d.2.end' d.2.at' d.2.err' e)
 else z148_k1 c.2.l' c.2.n' c.2.end' c.2.at' c.2.err' b
def z148 (N:Nat) (rc:T19→Option ((List T15) × T19)) (a:T19):Option (T15 × T19) :=
 (z90 N a (str [99,104,111,105,99,101])).bind fun b =>
 bif b.1 then ((z185 N rc b.2).bind fun c =>
 some (c.1,c.2))
 else (z90 N b.2 (str [108,111,111,112])).bind fun d =>
 bif d.1 then ((z145 N d.2).bind fun e =>
 (z186 N rc e.2).bind fun f =>
 some ((⟨3,(str []),([]:List ByteArray),e.1,(str []),0,([f.1]:List (List T15))⟩:T15),f.2))
 else (z90 N d.2 (str [97,103,97,105,110])).bind fun g =>
 bif g.1 then ((z145 N g.2).bind fun h =>
 (z87 N h.2 (str [59])).bind fun i =>
 some ((⟨4,(str []),([]:List ByteArray),h.1,(str []),0,([]:List (List T15))⟩:T15),i))
 else (z90 N g.2 (str [112,97,114])).bind fun j =>
 bif j.1 then ((z186 N rc j.2).bind fun k =>
 (z87 N k.2 (str [97,110,100])).bind fun l =>
 (z186 N rc l).bind fun m =>
 (appL ([k.1]:List (List T15)) ([m.1]:List (List T15))).bind fun o =>
 z148_l2 N rc N m.2.l' m.2.n' m.2.end' m.2.at' m.2.err' o)
 else (z90 N j.2 (str [99,97,108,108])).bind fun p =>
 bif p.1 then ((z88 N p.2).bind fun q =>
 (z87 N q.2 (str [40])).bind fun r =>
 (z89 N r).bind fun s =>
 (z87 N s.2 (str [41])).bind fun t =>
 (z87 N t (str [97,115])).bind fun u =>
 (z88 N u).bind fun v =>
 (z87 N v.2 (str [59])).bind fun w =>
 some ((⟨6,(str []),s.1,q.1,v.1,0,([]:List (List T15))⟩:T15),w))
 else (z88 N p.2).bind fun x =>
 (z87 N x.2 (str [45,62])).bind fun y =>
 (z89 N y).bind fun z =>
 (z87 N z.2 (str [58])).bind fun A =>
 (z145 N A).bind fun B =>
 (z87 N B.2 (str [59])).bind fun C =>
 some ((⟨1,x.1,z.1,B.1,(str []),0,([]:List (List T15))⟩:T15),C)
def z92_l1 (N:Nat) (rc:T19→Option ((List T15) × T19)):Nat→(List T4)→Int→Int→Int→Int→(List T15)→Option ((List T15) × T19)
 | 0,_,_,_,_,_,_=>none
 | a+1,vbk0_0_0_1,vbk0_0_1_1,vbk0_0_2_1,vbk0_0_3_1,vbk0_0_4_1,b =>
 (z143 N (⟨vbk0_0_0_1,vbk0_0_1_1,vbk0_0_2_1,vbk0_0_3_1,vbk0_0_4_1⟩:T19)).bind fun c =>
 bif (c.Kind != 1) then (some (b,(⟨vbk0_0_0_1,vbk0_0_1_1,vbk0_0_2_1,vbk0_0_3_1,vbk0_0_4_1⟩:T19)))
 else (z41 N c.Text).bind fun d =>
 bif (!d) then ((z54 N ([(str [99,104,111,105,99,101]),(str [108,111,111,112]),(str [97,103,97,105,110]),(str [112,97,114]),(str [99,97,108,108])]:List ByteArray) c.Text).bind fun e =>
 bif (!e) then (some (b,(⟨vbk0_0_0_1,vbk0_0_1_1,vbk0_0_2_1,vbk0_0_3_1,vbk0_0_4_1⟩:T19)))
 else (z148 N rc (⟨vbk0_0_0_1,vbk0_0_1_1,vbk0_0_2_1,vbk0_0_3_1,vbk0_0_4_1⟩:T19)).bind fun f =>
 (appL b ([f.1]:List T15)).bind fun g =>
 (z92_l1 N rc a) f.2.l' f.2.n' f.2.end' f.2.at' f.2.err' g)
 else (z148 N rc (⟨vbk0_0_0_1,vbk0_0_1_1,vbk0_0_2_1,vbk0_0_3_1,vbk0_0_4_1⟩:T19)).bind fun h =>
 (appL b ([h.1]:List T15)).bind fun i =>
 (z92_l1 N rc a) h.2.l' h.2.n' h.2.end' h.2.at' h.2.err' i
def z92_b (N:Nat) (rc:T19→Option ((List T15) × T19)) (a:T19):Option ((List T15) × T19) :=
 z92_l1 N rc N a.l' a.n' a.end' a.at' a.err' ([]:List T15)
def z92_r:Nat→T19→Option ((List T15) × T19)
 | 0,_=>none
 | N+1,a0=>z92_b N (z92_r N) a0
def z92 (N:Nat) (a:T19):Option ((List T15) × T19):=z92_r N a
def z33_k1 (N:Nat) (a:ByteArray × T19) (b:(List ByteArray) × T19) (vbk0_0_0_1:(List T4)) (vbk0_0_1_1:Int) (vbk0_0_2_1:Int) (vbk0_0_3_1:Int) (vbk0_0_4_1:Int) (c:(List T16)):Option (T17 × T19) :=
 (z92 N (⟨vbk0_0_0_1,vbk0_0_1_1,vbk0_0_2_1,vbk0_0_3_1,vbk0_0_4_1⟩:T19)).bind fun d =>
 (z87 N d.2 (str [125])).bind fun e =>
 some ((⟨a.1,b.1,c,d.1⟩:T17),e)
def z33_l2 (N:Nat) (a:ByteArray × T19) (b:(List ByteArray) × T19):Nat→(List T4)→Int→Int→Int→Int→(List T16)→Option (T17 × T19)
 | 0,_,_,_,_,_,_=>none
 | c+1,vbk0_0_0_3,vbk0_0_1_3,vbk0_0_2_3,vbk0_0_3_3,vbk0_0_4_3,d =>
 (z90 N (⟨vbk0_0_0_3,vbk0_0_1_3,vbk0_0_2_3,vbk0_0_3_3,vbk0_0_4_3⟩:T19) (str [109,101,115,115,97,103,101])).bind fun e =>
 bif e.1 then ((z91 N e.2).bind fun f =>
 (appL d ([f.1]:List T16)).bind fun g =>
 (z33_l2 N a b c) f.2.l' f.2.n' f.2.end' f.2.at' f.2.err' g)
 else z33_k1 N a b e.2.l' e.2.n' e.2.end' e.2.at' e.2.err' d
def z33 (N:Nat) (a:T19):Option (T17 × T19) :=
 (z87 N a (str [112,114,111,116,111,99,111,108])).bind fun b =>
 (z88 N b).bind fun c =>
 (z87 N c.2 (str [40])).bind fun d =>
 (z89 N d).bind fun e =>
 (z87 N e.2 (str [41])).bind fun f =>
 (z87 N f (str [123])).bind fun g =>
 z33_l2 N c e N g.l' g.n' g.end' g.at' g.err' ([]:List T16)
def z99 (N:Nat) (a:ByteArray):Option Bool :=
 (z41 N a).bind fun b =>
 some (!b)
def z131_2_k1:Option Int :=
 some (-1)
def z131_2_l2 (N:Nat) (a:(List ByteArray)):Nat→Int→Option Int
 | 0,_=>none
 | b+1,c =>
 bif (decide (c < (a.length:Int))) then ((idx a c).bind fun d =>
 (z99 N d).bind fun e =>
 bif e then (some c)
 else (z131_2_l2 N a b) (w64 (c+1)))
 else z131_2_k1
def z131_2 (N:Nat) (a:(List ByteArray)):Option Int :=
 z131_2_l2 N a N 0
def z98_3 (N:Nat) (a:(List ByteArray)):Option Bool :=
 (z131_2 N a).bind fun b =>
 some (decide (b≥0))
def z42 (N:Nat) (a:(List ByteArray)) (b:Int):Option Bool :=
 bif (decide ((a.length:Int)≥1)) then (bif (decide ((a.length:Int)≤b)) then ((z98_3 N a).bind fun c =>
 some (!c))
 else some false)
 else some false
def z223_k1 (a:Int) (b:Nat):Option Int :=
 some a
def z223_l2 (a:ByteArray):Nat→Int→Nat→Option Int
 | 0,_,_=>none
 | b+1,c,d =>
 bif decide (d < a.size) then ((z223_l2 a b) (w64 (c+1)) (d+(Utf8.decode a d).2))
 else z223_k1 c d
def z223 (N:Nat) (a:ByteArray):Option Int :=
 z223_l2 a N 0 (0:Nat)
def z232 (N:Nat) (a:ByteArray):Option (Int × Int) :=
 bif (decide ((a.size:Int) < 1)) then (some (65533,0))
 else (sidx a 0).bind fun b =>
 dead 0
def z224 (N:Nat) (a:ByteArray):Option (Int × Int) :=
 bif (!(a.toList==(str []).toList)) then ((sidx a 0).bind fun b =>
 bif (decide (b < 128)) then ((sidx a 0).bind fun c =>
 some ((wk .i32 (c)),1))
 else (z232 N a).bind fun d =>
 some (d.1,d.2))
 else (z232 N a).bind fun e =>
 some (e.1,e.2)
def z211_k1 (a:Int) (b:ByteArray) (c:(List ByteArray)):Option (List ByteArray) :=
 bif (decide (a > 0)) then ((idx c (w64 (a-1))).bind fun d =>
 some (setL' c (w64 (a-1)) b))
 else some c
def z211_l2 (N:Nat) (a:Int):Nat→ByteArray→(List ByteArray)→Int→Option (List ByteArray)
 | 0,_,_,_=>none
 | b+1,c,d,e =>
 bif (decide (e < (w64 (a-1)))) then ((z224 N c).bind fun f =>
 (ssl c none (some f.2)).bind fun g =>
 (idx d e).bind fun h =>
 (ssl c (some f.2) none).bind fun i =>
 (z211_l2 N a b) i (setL' d e g) (w64 (e+1)))
 else z211_k1 a c d
def z211_k3 (N:Nat) (a:ByteArray) (b:Int):Option (List ByteArray) :=
 (mkL (str []) b b).bind fun c =>
 z211_l2 N b N a c 0
def z211_k4 (N:Nat) (a:ByteArray) (b:Int) (c:Int) (d:Bool):Option (List ByteArray) :=
 bif d then (z211_k3 N a c)
 else z211_k3 N a b
def z211 (N:Nat) (a:ByteArray) (b:Int):Option (List ByteArray) :=
 (z223 N a).bind fun c =>
 bif (decide (b < 0)) then (z211_k4 N a b c true)
 else z211_k4 N a b c (decide (b > c))
def z212_l1 (N:Nat) (a:ByteArray):Nat→ByteArray→Int→Option Int
 | 0,_,_=>none
 | b+1,c,d =>
 (z181 N c a).bind fun e =>
 bif (e==(-1)) then (some d)
 else (ssl c (some (w64 (e+(a.size:Int)))) none).bind fun f =>
 (z212_l1 N a b) f (w64 (d+1))
def z212 (N:Nat) (a:ByteArray) (b:ByteArray):Option Int :=
 bif ((b.size:Int)==0) then ((z223 N a).bind fun c =>
 some (w64 (c+1)))
 else bif ((b.size:Int)==1) then ((sidx b 0).bind fun d =>
 some (countB a d))
 else z212_l1 N b N a 0
def z187_k1 (a:ByteArray) (b:(List ByteArray)) (c:Int):Option (List ByteArray) :=
 (idx b c).bind fun d =>
 (lsl (setL' b c a) none (some (w64 (c+1)))).bind fun e =>
 some e
def z187_l2 (N:Nat) (a:ByteArray) (b:ByteArray) (c:Int) (d:Int):Nat→ByteArray→(List ByteArray)→Int→Option (List ByteArray)
 | 0,_,_,_=>none
 | e+1,f,g,h =>
 bif (decide (h < (w64 ((minI d (w64 ((a.size:Int)+1)))-1)))) then ((z181 N f b).bind fun i =>
 bif (decide (i < 0)) then (z187_k1 f g h)
 else (ssl f none (some (w64 (i+c)))).bind fun j =>
 (idx g h).bind fun k =>
 (ssl f (some (w64 (i+(b.size:Int)))) none).bind fun l =>
 (z187_l2 N a b c d e) l (setL' g h j) (w64 (h+1)))
 else z187_k1 f g h
def z187_k3 (N:Nat) (a:ByteArray) (b:ByteArray) (c:Int) (d:Int):Option (List ByteArray) :=
 (mkL (str []) (minI d (w64 ((a.size:Int)+1))) (minI d (w64 ((a.size:Int)+1)))).bind fun e =>
 z187_l2 N a b c d N a e 0
def z187 (N:Nat) (a:ByteArray) (b:ByteArray) (c:Int) (d:Int):Option (List ByteArray) :=
 bif (d==0) then (some ([]:List ByteArray))
 else bif (b.toList==(str []).toList) then ((z211 N a d).bind fun e =>
 some e)
 else bif (decide (d < 0)) then ((z212 N a b).bind fun f =>
 z187_k3 N a b c (w64 (f+1)))
 else z187_k3 N a b c d
def z149 (N:Nat) (a:ByteArray) (b:ByteArray):Option (List ByteArray) :=
 (z187 N a b 0 (-1)).bind fun c =>
 some c
def z150 (N:Nat) (a:ByteArray):Option Bool :=
 (z41 N a).bind fun b =>
 some (!b)
def z131_4_k1:Option Int :=
 some (-1)
def z131_4_l2 (N:Nat) (a:(List ByteArray)):Nat→Int→Option Int
 | 0,_=>none
 | b+1,c =>
 bif (decide (c < (a.length:Int))) then ((idx a c).bind fun d =>
 (z150 N d).bind fun e =>
 bif e then (some c)
 else (z131_4_l2 N a b) (w64 (c+1)))
 else z131_4_k1
def z131_4 (N:Nat) (a:(List ByteArray)):Option Int :=
 z131_4_l2 N a N 0
def z98_5 (N:Nat) (a:(List ByteArray)):Option Bool :=
 (z131_4 N a).bind fun b =>
 some (decide (b≥0))
def z101 (N:Nat) (a:ByteArray):Option Bool :=
 bif (decide ((a.size:Int)≤50)) then ((z149 N a (str [46])).bind fun b =>
 (z98_5 N b).bind fun c =>
 some (!c))
 else some false
def z100_k1 (N:Nat) (a:T15) (b:Bool):Option Bool :=
 bif b then (bif (a.From.toList==(str []).toList) then (bif ((a.To.length:Int)==0) then ((z101 N a.Name).bind fun c =>
 bif c then (bif (a.As.toList==(str []).toList) then (bif (a.Ticks==0) then (bif ((a.Kind==3)==((a.Blocks.length:Int)==1)) then (some (decide ((a.Blocks.length:Int)≤1)))
 else some false)
 else some false)
 else some false)
 else some false)
 else some false)
 else some false)
 else bif (a.Kind==5) then (bif (a.From.toList==(str []).toList) then (bif ((a.To.length:Int)==0) then (bif (a.Name.toList==(str []).toList) then (bif (a.As.toList==(str []).toList) then (bif (a.Ticks==0) then (bif (decide ((a.Blocks.length:Int)≥2)) then (some (decide ((a.Blocks.length:Int)≤8)))
 else some false)
 else some false)
 else some false)
 else some false)
 else some false)
 else some false)
 else bif (a.Kind==6) then (bif (a.From.toList==(str []).toList) then ((z42 N a.To 6).bind fun d =>
 bif d then ((z41 N a.Name).bind fun e =>
 bif e then ((z41 N a.As).bind fun f =>
 bif f then (bif (a.Ticks==0) then (some ((a.Blocks.length:Int)==0))
 else some false)
 else some false)
 else some false)
 else some false)
 else some false)
 else some false
def z100 (N:Nat) (a:T15):Option Bool :=
 bif (a.Kind==1) then ((z41 N a.From).bind fun b =>
 bif b then ((z42 N a.To 5).bind fun c =>
 bif c then ((z101 N a.Name).bind fun d =>
 bif d then (bif (a.As.toList==(str []).toList) then (bif (a.Ticks==0) then (some ((a.Blocks.length:Int)==0))
 else some false)
 else some false)
 else some false)
 else some false)
 else some false)
 else bif (a.Kind==2) then ((z41 N a.From).bind fun e =>
 bif e then (bif ((a.To.length:Int)==0) then (bif (a.Name.toList==(str []).toList) then (bif (a.As.toList==(str []).toList) then (bif (decide (a.Ticks≥0)) then (bif (decide (a.Ticks≤1000)) then (bif (decide ((a.Blocks.length:Int)≥(w64 (1+(minI a.Ticks 1))))) then (some (decide ((a.Blocks.length:Int)≤8)))
 else some false)
 else some false)
 else some false)
 else some false)
 else some false)
 else some false)
 else some false)
 else bif (a.Kind==3) then (z100_k1 N a true)
 else z100_k1 N a (a.Kind==4)
def z43_k1 (vbk1_1_0_1:Int):Option (Bool × Int) :=
 some (true,vbk1_1_0_1)
def z43_k3 (a:Int) (b:Int→Int→Option (Bool × Int)) (vbk1_1_0_19:Int):Option (Bool × Int) :=
 b vbk1_1_0_19 (w64 (a+1))
def z43_l4 (rc:(List T15)→Int→Int→Option (Bool × Int)) (a:Int) (b:Int) (c:Int→Int→Option (Bool × Int)) (d:T15):Nat→Int→Int→Option (Bool × Int)
 | 0,_,_=>none
 | e+1,vbk1_1_0_21,f =>
 bif (decide (f < (d.Blocks.length:Int))) then ((idx d.Blocks f).bind fun g =>
 (rc g (w64 (a+1)) vbk1_1_0_21).bind fun h =>
 bif (!h.1) then (some (false,h.2))
 else (z43_l4 rc a b c d e) h.2 (w64 (f+1)))
 else z43_k3 b c vbk1_1_0_21
def z43_l2 (N:Nat) (rc:(List T15)→Int→Int→Option (Bool × Int)) (a:(List T15)) (b:Int):Nat→Int→Int→Option (Bool × Int)
 | 0,_,_=>none
 | c+1,vbk1_1_0_12,d =>
 bif (decide (d < (a.length:Int))) then ((idx a d).bind fun e =>
 bif (decide (b > 10)) then (some (false,(w64 (vbk1_1_0_12+1))))
 else bif (decide ((w64 (vbk1_1_0_12+1)) > 300)) then (some (false,(w64 (vbk1_1_0_12+1))))
 else (z100 N e).bind fun f =>
 bif (!f) then (some (false,(w64 (vbk1_1_0_12+1))))
 else z43_l4 rc b d (z43_l2 N rc a b c) e N (w64 (vbk1_1_0_12+1)) 0)
 else z43_k1 vbk1_1_0_12
def z43_b (N:Nat) (rc:(List T15)→Int→Int→Option (Bool × Int)) (a:(List T15)) (b:Int) (c:Int):Option (Bool × Int) :=
 z43_l2 N rc a b N c 0
def z43_r:Nat→(List T15)→Int→Int→Option (Bool × Int)
 | 0,_,_,_=>none
 | N+1,a0,a1,a2=>z43_b N (z43_r N) a0 a1 a2
def z43 (N:Nat) (a:(List T15)) (b:Int) (c:Int):Option (Bool × Int):=z43_r N a b c
def z151 (N:Nat) (a:Int):Option Bool :=
 bif (decide (a≥(-999999))) then (some (decide (a≤999999)))
 else some false
def z102_k1 (N:Nat) (a:T18) (b:Bool):Option Bool :=
 bif b then ((z41 N a.Field).bind fun c =>
 bif c then (bif (a.Message.toList==(str []).toList) then (some true)
 else (z101 N a.Message).bind fun d =>
 some d)
 else some false)
 else some false
def z102 (N:Nat) (a:T18):Option Bool :=
 (z151 N a.N).bind fun b =>
 bif (!b) then (some false)
 else bif (a.Kind==1) then (bif (a.Message.toList==(str []).toList) then (some (a.Field.toList==(str []).toList))
 else some false)
 else bif (a.Kind==2) then (z102_k1 N a true)
 else z102_k1 N a (a.Kind==3)
def z44_k1:Option Bool :=
 some true
def z44_l2 (N:Nat) (a:T16):Nat→Int→Option Bool
 | 0,_=>none
 | b+1,c =>
 bif (decide (c < (a.Where.length:Int))) then ((idx a.Where c).bind fun d =>
 (z102 N d.Left).bind fun e =>
 bif (!e) then (some false)
 else (z102 N d.Right).bind fun f =>
 bif (!f) then (some false)
 else (z103 N).bind fun g =>
 (z54 N g d.Op).bind fun h =>
 bif (!h) then (some false)
 else (z44_l2 N a b) (w64 (c+1)))
 else z44_k1
def z44_k3 (N:Nat) (a:T16):Option Bool :=
 z44_l2 N a N 0
def z44_k5 (N:Nat) (a:Int) (b:Int→Option Bool) (c:T0) (d:Int):Option Bool :=
 (z41 N c.Name).bind fun e =>
 bif (!e) then (some false)
 else bif (c.Sort'.Kind != 1) then (bif (c.Sort'.Kind != 2) then (some false)
 else bif (decide ((minI c.Sort'.Lo c.Sort'.Hi) < d)) then (some false)
 else bif (decide ((maxI c.Sort'.Lo c.Sort'.Hi) > 999999)) then (some false)
 else b (w64 (a+1)))
 else bif (decide ((minI c.Sort'.Lo c.Sort'.Hi) < d)) then (some false)
 else bif (decide ((maxI c.Sort'.Lo c.Sort'.Hi) > 999999)) then (some false)
 else b (w64 (a+1))
def z44_l4 (N:Nat) (a:T16):Nat→Int→Option Bool
 | 0,_=>none
 | b+1,c =>
 bif (decide (c < (a.Fields.length:Int))) then ((idx a.Fields c).bind fun d =>
 bif (d.Sort'.Kind==2) then (z44_k5 N c (z44_l4 N a b) d 0)
 else z44_k5 N c (z44_l4 N a b) d (-999999))
 else z44_k3 N a
def z44 (N:Nat) (a:T16):Option Bool :=
 (z101 N a.Name).bind fun b =>
 bif (!b) then (some false)
 else bif (decide ((a.Fields.length:Int) > 4)) then (some false)
 else bif (decide ((a.Where.length:Int) > 6)) then (some false)
 else z44_l4 N a N 0
def z105 (N:Nat) (a:List ByteArray) (b:ByteArray):Option ByteArray:=bif (decide (a.length≤140737488355328) && decide ((joinL b.data.toList (a.map (·.data.toList))).length≤140737488355328)) then some ⟨(joinL b.data.toList (a.map (·.data.toList))).toArray⟩ else none
def repL (l:List UInt8):Nat→List UInt8
 | 0=>[]
 | n+1=>l++repL l n
def z153 (N:Nat) (a:ByteArray) (b:Int):Option ByteArray :=
 bif (decide (0≤b) && decide (b≤140737488355328)) && decide (a.size * b.toNat≤140737488355328) then some ⟨(repL a.data.toList b.toNat).toArray⟩ else none
def z188_6 (N:Nat) (a:T20):Option T20 :=
 some (⟨ByteArray.empty,a.depth'⟩:T20)
def z152_7 (N:Nat) (a:ByteArray) (b:T20):Option (Int × Unit × T20) :=
 (z188_6 N (⟨ByteArray.empty,b.depth'⟩:T20)).bind fun c =>
 (apB c.Builder a).bind fun d =>
 some ((a.size:Int),(),(⟨d,c.depth'⟩:T20))
def z104_8 (N:Nat) (a:(List ByteArray)) (b:T20):Option T20 :=
 (z153 N (str [9]) b.depth').bind fun c =>
 (z105 N a (str [])).bind fun d =>
 (catS c d).bind fun e =>
 (catS e (str [10])).bind fun f =>
 (z152_7 N f (⟨ByteArray.empty,b.depth'⟩:T20)).bind fun g =>
 some g.2.2
def z155 (N:Nat) (a:Int):Option ByteArray:=bif (decide ((-9223372036854775808)≤a) && decide (a≤9223372036854775807)) then some (itoaS a) else none
def z156_k1 (N:Nat) (a:T18) (b:ByteArray):Option ByteArray :=
 bif (decide (a.N > 0)) then ((z155 N a.N).bind fun c =>
 (catS (str [32,43,32]) c).bind fun d =>
 (catS b d).bind fun e =>
 some e)
 else bif (decide (a.N < 0)) then ((z155 N (w64 (0-a.N))).bind fun f =>
 (catS (str [32,45,32]) f).bind fun g =>
 (catS b g).bind fun h =>
 some h)
 else some b
def z156_k2 (N:Nat) (a:T18) (b:ByteArray):Option ByteArray :=
 bif (a.Kind==3) then ((catS (str [108,101,110,40]) b).bind fun c =>
 (catS c (str [41])).bind fun d =>
 z156_k1 N a d)
 else z156_k1 N a b
def z156 (N:Nat) (a:T18):Option ByteArray :=
 bif (a.Kind==1) then ((z155 N a.N).bind fun b =>
 some b)
 else bif (!(a.Message.toList==(str []).toList)) then ((catS a.Message (str [46])).bind fun c =>
 (catS c a.Field).bind fun d =>
 z156_k2 N a d)
 else z156_k2 N a a.Field
def z188_9 (N:Nat) (a:T20):Option Unit :=
 some ()
def z152_10 (N:Nat) (a:ByteArray) (b:T20):Option (Int × Unit × T20) :=
 (z188_9 N b).bind fun c =>
 (apB b.Builder a).bind fun d =>
 some ((a.size:Int),(),(⟨d,b.depth'⟩:T20))
def z104_11 (N:Nat) (a:(List ByteArray)) (b:T20):Option T20 :=
 (z153 N (str [9]) b.depth').bind fun c =>
 (z105 N a (str [])).bind fun d =>
 (catS c d).bind fun e =>
 (catS e (str [10])).bind fun f =>
 (z152_10 N f b).bind fun g =>
 some g.2.2
def z106_12_k1 (N:Nat) (a:T16) (b:T20) (c:(List ByteArray)) (d:(List ByteArray)):Option T20 :=
 bif (decide ((d.length:Int) > 0)) then ((z105 N d (str [32,97,110,100,32])).bind fun e =>
 (catS (str [32,119,104,101,114,101,32]) e).bind fun f =>
 (z105 N c (str [44,32])).bind fun g =>
 (z104_11 N ([(str [109,101,115,115,97,103,101,32]),a.Name,(str [40]),g,(str [41]),f,(str [59])]:List ByteArray) b).bind fun h =>
 some h)
 else (z105 N c (str [44,32])).bind fun i =>
 (z104_11 N ([(str [109,101,115,115,97,103,101,32]),a.Name,(str [40]),i,(str [41]),(str []),(str [59])]:List ByteArray) b).bind fun j =>
 some j
def z106_12_l2 (N:Nat) (a:T16) (b:T20) (c:(List ByteArray)):Nat→(List ByteArray)→Int→Option T20
 | 0,_,_=>none
 | d+1,e,f =>
 bif (decide (f < (a.Where.length:Int))) then ((idx a.Where f).bind fun g =>
 (z156 N g.Left).bind fun h =>
 (catS h (str [32])).bind fun i =>
 (catS i g.Op).bind fun j =>
 (catS j (str [32])).bind fun k =>
 (z156 N g.Right).bind fun l =>
 (catS k l).bind fun m =>
 (appL e ([m]:List ByteArray)).bind fun o =>
 (z106_12_l2 N a b c d) o (w64 (f+1)))
 else z106_12_k1 N a b c e
def z106_12_k3 (N:Nat) (a:T16) (b:T20) (c:(List ByteArray)):Option T20 :=
 z106_12_l2 N a b c N ([]:List ByteArray) 0
def z106_12_k5 (N:Nat) (a:(List ByteArray)) (b:Int) (c:(List ByteArray)→Int→Option T20) (d:T0) (e:ByteArray):Option T20 :=
 (catS d.Name e).bind fun f =>
 (z155 N d.Sort'.Lo).bind fun g =>
 (catS f g).bind fun h =>
 (catS h (str [46,46])).bind fun i =>
 (z155 N d.Sort'.Hi).bind fun j =>
 (catS i j).bind fun k =>
 (appL a ([k]:List ByteArray)).bind fun l =>
 c l (w64 (b+1))
def z106_12_l4 (N:Nat) (a:T16) (b:T20):Nat→(List ByteArray)→Int→Option T20
 | 0,_,_=>none
 | c+1,d,e =>
 bif (decide (e < (a.Fields.length:Int))) then ((idx a.Fields e).bind fun f =>
 bif (f.Sort'.Kind==2) then (z106_12_k5 N d e (z106_12_l4 N a b c) f (str [58,32,116,101,120,116,32]))
 else z106_12_k5 N d e (z106_12_l4 N a b c) f (str [58,32,105,110,116,32]))
 else z106_12_k3 N a b d
def z106_12 (N:Nat) (a:T16) (b:T20):Option T20 :=
 z106_12_l4 N a b N ([]:List ByteArray) 0
def z157_13_k1 (N:Nat) (vbk1_1_1_1:ByteArray) (vbk1_1_2_1:Int):Option T20 :=
 (z104_11 N ([(str [125])]:List ByteArray) (⟨vbk1_1_1_1,vbk1_1_2_1⟩:T20)).bind fun a =>
 some a
def z157_13_k3 (rc:(List T15)→T20→Option T20) (a:Int) (b:ByteArray→Int→Int→Option T20) (c:(List T15)) (vbk1_1_1_9:ByteArray) (vbk1_1_2_9:Int):Option T20 :=
 (rc c (⟨vbk1_1_1_9,(w64 (vbk1_1_2_9+1))⟩:T20)).bind fun d =>
 b d.Builder (w64 (d.depth'-1)) (w64 (a+1))
def z157_13_l2 (N:Nat) (rc:(List T15)→T20→Option T20) (a:ByteArray) (b:ByteArray) (c:ByteArray) (d:(List (List T15))):Nat→ByteArray→Int→Int→Option T20
 | 0,_,_,_=>none
 | e+1,vbk1_1_1_6,vbk1_1_2_6,f =>
 bif (decide (f < (d.length:Int))) then ((idx d f).bind fun g =>
 bif (f==0) then ((z104_11 N ([a,(str [32,123])]:List ByteArray) (⟨vbk1_1_1_6,vbk1_1_2_6⟩:T20)).bind fun h =>
 z157_13_k3 rc f (z157_13_l2 N rc a b c d e) g h.Builder h.depth')
 else bif (f==(w64 ((d.length:Int)-1))) then (bif (!(c.toList==(str []).toList)) then ((z104_11 N ([(str [125,32]),c,(str [32,123])]:List ByteArray) (⟨vbk1_1_1_6,vbk1_1_2_6⟩:T20)).bind fun i =>
 z157_13_k3 rc f (z157_13_l2 N rc a b c d e) g i.Builder i.depth')
 else (z104_11 N ([(str [125,32]),b,(str [32,123])]:List ByteArray) (⟨vbk1_1_1_6,vbk1_1_2_6⟩:T20)).bind fun j =>
 z157_13_k3 rc f (z157_13_l2 N rc a b c d e) g j.Builder j.depth')
 else (z104_11 N ([(str [125,32]),b,(str [32,123])]:List ByteArray) (⟨vbk1_1_1_6,vbk1_1_2_6⟩:T20)).bind fun k =>
 z157_13_k3 rc f (z157_13_l2 N rc a b c d e) g k.Builder k.depth')
 else z157_13_k1 N vbk1_1_1_6 vbk1_1_2_6
def z157_13 (N:Nat) (rc:(List T15)→T20→Option T20) (a:ByteArray) (b:ByteArray) (c:ByteArray) (d:(List (List T15))) (e:T20):Option T20 :=
 z157_13_l2 N rc a b c d N e.Builder e.depth' 0
def z107_14_k1 (vbk1_1_1_1:ByteArray) (vbk1_1_2_1:Int):Option T20 :=
 some (⟨vbk1_1_1_1,vbk1_1_2_1⟩:T20)
def z107_14_l2 (N:Nat) (rc:(List T15)→T20→Option T20) (a:(List T15)):Nat→ByteArray→Int→Int→Option T20
 | 0,_,_,_=>none
 | b+1,vbk1_1_1_3,vbk1_1_2_3,c =>
 bif (decide (c < (a.length:Int))) then ((idx a c).bind fun d =>
 bif (d.Kind==1) then ((z105 N d.To (str [44,32])).bind fun e =>
 (z104_11 N ([d.From,(str [32,45,62,32]),e,(str [58,32]),d.Name,(str [59])]:List ByteArray) (⟨vbk1_1_1_3,vbk1_1_2_3⟩:T20)).bind fun f =>
 (z107_14_l2 N rc a b) f.Builder f.depth' (w64 (c+1)))
 else bif (d.Kind==2) then (bif (decide (d.Ticks > 0)) then ((catS (str [99,104,111,105,99,101,32,97,116,32]) d.From).bind fun g =>
 (catS g (str [32,119,105,116,104,105,110,32])).bind fun h =>
 (z155 N d.Ticks).bind fun i =>
 (catS h i).bind fun j =>
 (z157_13 N rc j (str [111,114]) (str [101,108,115,101]) d.Blocks (⟨vbk1_1_1_3,vbk1_1_2_3⟩:T20)).bind fun k =>
 (z107_14_l2 N rc a b) k.Builder k.depth' (w64 (c+1)))
 else (catS (str [99,104,111,105,99,101,32,97,116,32]) d.From).bind fun l =>
 (z157_13 N rc l (str [111,114]) (str []) d.Blocks (⟨vbk1_1_1_3,vbk1_1_2_3⟩:T20)).bind fun m =>
 (z107_14_l2 N rc a b) m.Builder m.depth' (w64 (c+1)))
 else bif (d.Kind==3) then ((catS (str [108,111,111,112,32]) d.Name).bind fun o =>
 (z157_13 N rc o (str []) (str []) d.Blocks (⟨vbk1_1_1_3,vbk1_1_2_3⟩:T20)).bind fun p =>
 (z107_14_l2 N rc a b) p.Builder p.depth' (w64 (c+1)))
 else bif (d.Kind==4) then ((z104_11 N ([(str [97,103,97,105,110,32]),d.Name,(str [59])]:List ByteArray) (⟨vbk1_1_1_3,vbk1_1_2_3⟩:T20)).bind fun q =>
 (z107_14_l2 N rc a b) q.Builder q.depth' (w64 (c+1)))
 else bif (d.Kind==5) then ((z157_13 N rc (str [112,97,114]) (str [97,110,100]) (str []) d.Blocks (⟨vbk1_1_1_3,vbk1_1_2_3⟩:T20)).bind fun r =>
 (z107_14_l2 N rc a b) r.Builder r.depth' (w64 (c+1)))
 else bif (d.Kind==6) then ((z105 N d.To (str [44,32])).bind fun s =>
 (z104_11 N ([(str [99,97,108,108,32]),d.Name,(str [40]),s,(str [41,32,97,115,32]),d.As,(str [59])]:List ByteArray) (⟨vbk1_1_1_3,vbk1_1_2_3⟩:T20)).bind fun t =>
 (z107_14_l2 N rc a b) t.Builder t.depth' (w64 (c+1)))
 else (z107_14_l2 N rc a b) vbk1_1_1_3 vbk1_1_2_3 (w64 (c+1)))
 else z107_14_k1 vbk1_1_1_3 vbk1_1_2_3
def z107_14_b (N:Nat) (rc:(List T15)→T20→Option T20) (a:(List T15)) (b:T20):Option T20 :=
 z107_14_l2 N rc a N b.Builder b.depth' 0
def z107_14_r:Nat→(List T15)→T20→Option T20
 | 0,_,_=>none
 | N+1,a0,a1=>z107_14_b N (z107_14_r N) a0 a1
def z107_14 (N:Nat) (a:(List T15)) (b:T20):Option T20:=z107_14_r N a b
def z108_15 (N:Nat) (a:T20):Option ByteArray :=
 (gdB a.Builder).bind fun b =>
 (gdB a.Builder).bind fun c =>
 some a.Builder
def z108_16 (N:Nat) (a:T20):Option ByteArray :=
 some ByteArray.empty
def z45_k2 (N:Nat) (a:Int) (b:ByteArray→Int→Int→Option ByteArray) (c:T17) (d:ByteArray) (e:Int):Option ByteArray :=
 (z107_14 N c.Body (⟨d,e⟩:T20)).bind fun f =>
 (z104_11 N ([(str [125])]:List ByteArray) (⟨f.Builder,(w64 (f.depth'-1))⟩:T20)).bind fun g =>
 b g.Builder g.depth' (w64 (a+1))
def z45_l3 (N:Nat) (a:Int) (b:ByteArray→Int→Int→Option ByteArray) (c:T17):Nat→ByteArray→Int→Int→Option ByteArray
 | 0,_,_,_=>none
 | d+1,e,f,g =>
 bif (decide (g < (c.Messages.length:Int))) then ((idx c.Messages g).bind fun h =>
 (z106_12 N h (⟨e,f⟩:T20)).bind fun i =>
 (z45_l3 N a b c d) i.Builder i.depth' (w64 (g+1)))
 else z45_k2 N a b c e f
def z45_l1 (N:Nat) (a:(List T17)):Nat→ByteArray→Int→Int→Option ByteArray
 | 0,_,_,_=>none
 | b+1,c,d,e =>
 bif (decide (e < (a.length:Int))) then ((idx a e).bind fun f =>
 (z105 N f.Roles (str [44,32])).bind fun g =>
 (z104_11 N ([(str [112,114,111,116,111,99,111,108,32]),f.Name,(str [40]),g,(str [41,32,123])]:List ByteArray) (⟨c,d⟩:T20)).bind fun h =>
 z45_l3 N e (z45_l1 N a b) f N h.Builder (w64 (h.depth'+1)) 0)
 else (z108_15 N (⟨c,d⟩:T20)).bind fun i =>
 some i
def z45_k4 (N:Nat) (a:(List T17)) (b:T17) (c:ByteArray) (d:Int):Option ByteArray :=
 (z107_14 N b.Body (⟨c,d⟩:T20)).bind fun e =>
 (z104_11 N ([(str [125])]:List ByteArray) (⟨e.Builder,(w64 (e.depth'-1))⟩:T20)).bind fun f =>
 z45_l1 N a N f.Builder f.depth' (w64 (0+1))
def z45_l5 (N:Nat) (a:(List T17)) (b:T17):Nat→ByteArray→Int→Int→Option ByteArray
 | 0,_,_,_=>none
 | c+1,d,e,f =>
 bif (decide (f < (b.Messages.length:Int))) then ((idx b.Messages f).bind fun g =>
 (z106_12 N g (⟨d,e⟩:T20)).bind fun h =>
 (z45_l5 N a b c) h.Builder h.depth' (w64 (f+1)))
 else z45_k4 N a b d e
def z45 (N:Nat) (a:(List T17)):Option ByteArray :=
 bif (decide (0 < (a.length:Int))) then ((idx a 0).bind fun b =>
 (z105 N b.Roles (str [44,32])).bind fun c =>
 (z104_8 N ([(str [112,114,111,116,111,99,111,108,32]),b.Name,(str [40]),c,(str [41,32,123])]:List ByteArray) (⟨ByteArray.empty,0⟩:T20)).bind fun d =>
 z45_l5 N a b N d.Builder (w64 (d.depth'+1)) 0)
 else (z108_16 N (⟨ByteArray.empty,0⟩:T20)).bind fun e =>
 some e
def z18_k1 (N:Nat) (a:(List T17)):Option Bool :=
 (z45 N a).bind fun b =>
 some (decide ((b.size:Int)≤8000))
def z18_k3 (a:Int) (b:Int→Option Bool):Option Bool :=
 b (w64 (a+1))
def z18_l4 (N:Nat) (a:Int) (b:Int→Option Bool) (c:T17):Nat→Int→Option Bool
 | 0,_=>none
 | d+1,e =>
 bif (decide (e < (c.Messages.length:Int))) then ((idx c.Messages e).bind fun f =>
 (z44 N f).bind fun g =>
 bif (!g) then (some false)
 else (z18_l4 N a b c d) (w64 (e+1)))
 else z18_k3 a b
def z18_l2 (N:Nat) (a:(List T17)):Nat→Int→Option Bool
 | 0,_=>none
 | b+1,c =>
 bif (decide (c < (a.length:Int))) then ((idx a c).bind fun d =>
 (z41 N d.Name).bind fun e =>
 bif (!e) then (some false)
 else (z42 N d.Roles 6).bind fun f =>
 bif (!f) then (some false)
 else bif (decide ((d.Messages.length:Int) > 40)) then (some false)
 else (z43 N d.Body 1 0).bind fun g =>
 bif (!g.1) then (some false)
 else z18_l4 N c (z18_l2 N a b) d N 0)
 else z18_k1 N a
def z18 (N:Nat) (a:(List T17)):Option Bool :=
 bif (decide ((a.length:Int) > 10)) then (some false)
 else z18_l2 N a N 0
def z15_k1 (N:Nat) (a:(List T17)) (b:(List T4)) (c:Int) (d:Int) (e:Int) (f:Int):Option ((List T17) × Int × Int) :=
 bif (f != 0) then (some (([]:List T17),e,f))
 else (z18 N a).bind fun g =>
 bif (!g) then (some (([]:List T17),0,6))
 else some (a,0,0)
def z15_l2 (N:Nat) (a:(List T4) × Int × Int):Nat→(List T17)→(List T4)→Int→Int→Int→Int→Option ((List T17) × Int × Int)
 | 0,_,_,_,_,_,_=>none
 | b+1,c,d,e,f,g,h =>
 bif (decide (e < (a.1.length:Int))) then (bif (h==0) then ((z33 N (⟨d,e,f,g,h⟩:T19)).bind fun i =>
 (appL c ([i.1]:List T17)).bind fun j =>
 (z15_l2 N a b) j i.2.l' i.2.n' i.2.end' i.2.at' i.2.err')
 else z15_k1 N c d e f g h)
 else z15_k1 N c d e f g h
def z15 (N:Nat) (a:ByteArray):Option ((List T17) × Int × Int) :=
 (z32 N a).bind fun b =>
 bif (b.2.2 != 0) then (some (([]:List T17),b.2.1,b.2.2))
 else z15_l2 N b N ([]:List T17) b.1 0 (a.size:Int) 0 0
def z23_17 (N:Nat) (a:T17) (b:T17):Option Bool :=
 some (a.Name.toList==b.Name.toList)
def z53_18_k1:Option Int :=
 some (-1)
def z53_18_l2 (N:Nat) (a:(List T17)) (b:T17):Nat→Int→Option Int
 | 0,_=>none
 | c+1,d =>
 bif (decide (d < (a.length:Int))) then ((idx a d).bind fun e =>
 (z23_17 N e b).bind fun f =>
 bif f then (some d)
 else (z53_18_l2 N a b c) (w64 (d+1)))
 else z53_18_k1
def z53_18 (N:Nat) (a:(List T17)) (b:T17):Option Int :=
 z53_18_l2 N a b N 0
def z22_19 (N:Nat) (a:(List T17)) (b:T17):Option Bool :=
 (z53_18 N a b).bind fun c =>
 some (decide (c≥0))
def z25 (N:Nat) (a:(List ByteArray)) (b:Int):Option Bool :=
 (lsl a none (some b)).bind fun c =>
 (idx a b).bind fun d =>
 (z54 N c d).bind fun e =>
 some e
def z56_20 (N:Nat) (a:T16) (b:T16):Option Bool :=
 some (a.Name.toList==b.Name.toList)
def z123_21_k1:Option Int :=
 some (-1)
def z123_21_l2 (N:Nat) (a:(List T16)) (b:T16):Nat→Int→Option Int
 | 0,_=>none
 | c+1,d =>
 bif (decide (d < (a.length:Int))) then ((idx a d).bind fun e =>
 (z56_20 N e b).bind fun f =>
 bif f then (some d)
 else (z123_21_l2 N a b c) (w64 (d+1)))
 else z123_21_k1
def z123_21 (N:Nat) (a:(List T16)) (b:T16):Option Int :=
 z123_21_l2 N a b N 0
def z55_22 (N:Nat) (a:(List T16)) (b:T16):Option Bool :=
 (z123_21 N a b).bind fun c =>
 some (decide (c≥0))
def z58_23 (N:Nat) (a:T0) (b:T0):Option Bool :=
 some (a.Name.toList==b.Name.toList)
def z124_24_k1:Option Int :=
 some (-1)
def z124_24_l2 (N:Nat) (a:(List T0)) (b:T0):Nat→Int→Option Int
 | 0,_=>none
 | c+1,d =>
 bif (decide (d < (a.length:Int))) then ((idx a d).bind fun e =>
 (z58_23 N e b).bind fun f =>
 bif f then (some d)
 else (z124_24_l2 N a b c) (w64 (d+1)))
 else z124_24_k1
def z124_24 (N:Nat) (a:(List T0)) (b:T0):Option Int :=
 z124_24_l2 N a b N 0
def z57_25 (N:Nat) (a:(List T0)) (b:T0):Option Bool :=
 (z124_24 N a b).bind fun c =>
 some (decide (c≥0))
def z125_26 (N:Nat) (a:T16) (b:T18):Option Bool :=
 some (a.Name.toList==b.Message.toList)
def z123_27_k1:Option Int :=
 some (-1)
def z123_27_l2 (N:Nat) (a:(List T16)) (b:T18):Nat→Int→Option Int
 | 0,_=>none
 | c+1,d =>
 bif (decide (d < (a.length:Int))) then ((idx a d).bind fun e =>
 (z125_26 N e b).bind fun f =>
 bif f then (some d)
 else (z123_27_l2 N a b c) (w64 (d+1)))
 else z123_27_k1
def z123_27 (N:Nat) (a:(List T16)) (b:T18):Option Int :=
 z123_27_l2 N a b N 0
def z126_28 (N:Nat) (a:T0) (b:T18):Option Bool :=
 some (a.Name.toList==b.Field.toList)
def z124_29_k1:Option Int :=
 some (-1)
def z124_29_l2 (N:Nat) (a:(List T0)) (b:T18):Nat→Int→Option Int
 | 0,_=>none
 | c+1,d =>
 bif (decide (d < (a.length:Int))) then ((idx a d).bind fun e =>
 (z126_28 N e b).bind fun f =>
 bif f then (some d)
 else (z124_29_l2 N a b c) (w64 (d+1)))
 else z124_29_k1
def z124_29 (N:Nat) (a:(List T0)) (b:T18):Option Int :=
 z124_29_l2 N a b N 0
def z59_k1 (N:Nat) (a:T18) (b:ByteArray) (c:(List T0)) (d:(List T14)):Option Int :=
 (z124_29 N c a).bind fun e =>
 bif (decide (e < 0)) then (some 0)
 else (idx c e).bind fun f =>
 some f.Sort'.Kind
def z59 (N:Nat) (a:T7) (b:T16) (c:T18):Option Int :=
 bif (!(c.Message.toList==(str []).toList)) then ((z123_27 N a.p'.Messages c).bind fun d =>
 bif (decide (d < 0)) then (some 0)
 else (idx a.p'.Messages d).bind fun e =>
 z59_k1 N c e.Name e.Fields e.Where)
 else z59_k1 N c b.Name b.Fields b.Where
def z60 (N:Nat) (a:(List T8)):Option (List T8) :=
 (appL ([]:List T8) a).bind fun b =>
 some b
def z127_30 (N:Nat) (a:T16) (b:T15):Option Bool :=
 some (a.Name.toList==b.Name.toList)
def z123_31_k1:Option Int :=
 some (-1)
def z123_31_l2 (N:Nat) (a:(List T16)) (b:T15):Nat→Int→Option Int
 | 0,_=>none
 | c+1,d =>
 bif (decide (d < (a.length:Int))) then ((idx a d).bind fun e =>
 (z127_30 N e b).bind fun f =>
 bif f then (some d)
 else (z123_31_l2 N a b c) (w64 (d+1)))
 else z123_31_k1
def z123_31 (N:Nat) (a:(List T16)) (b:T15):Option Int :=
 z123_31_l2 N a b N 0
def z55_32 (N:Nat) (a:(List T16)) (b:T15):Option Bool :=
 (z123_31 N a b).bind fun c =>
 some (decide (c≥0))
def z64_33 (N:Nat) (a:T8) (b:T15):Option Bool :=
 some (a.name'.toList==b.Name.toList)
def z65_34_k1:Option Int :=
 some (-1)
def z65_34_l2 (N:Nat) (a:(List T8)) (b:T15):Nat→Int→Option Int
 | 0,_=>none
 | c+1,d =>
 bif (decide (d < (a.length:Int))) then ((idx a d).bind fun e =>
 (z64_33 N e b).bind fun f =>
 bif f then (some d)
 else (z65_34_l2 N a b c) (w64 (d+1)))
 else z65_34_k1
def z65_34 (N:Nat) (a:(List T8)) (b:T15):Option Int :=
 z65_34_l2 N a b N 0
def z63_35 (N:Nat) (a:(List T8)) (b:T15):Option Bool :=
 (z65_34 N a b).bind fun c =>
 some (decide (c≥0))
def z66_36 (N:Nat) (a:T8) (b:T15):Option Bool :=
 bif (a.name'.toList==b.Name.toList) then (some (!a.hidden'))
 else some false
def z65_37_k1:Option Int :=
 some (-1)
def z65_37_l2 (N:Nat) (a:(List T8)) (b:T15):Nat→Int→Option Int
 | 0,_=>none
 | c+1,d =>
 bif (decide (d < (a.length:Int))) then ((idx a d).bind fun e =>
 (z66_36 N e b).bind fun f =>
 bif f then (some d)
 else (z65_37_l2 N a b c) (w64 (d+1)))
 else z65_37_k1
def z65_37 (N:Nat) (a:(List T8)) (b:T15):Option Int :=
 z65_37_l2 N a b N 0
def z128_38 (N:Nat) (a:T17) (b:T15):Option Bool :=
 some (a.Name.toList==b.Name.toList)
def z53_39_k1:Option Int :=
 some (-1)
def z53_39_l2 (N:Nat) (a:(List T17)) (b:T15):Nat→Int→Option Int
 | 0,_=>none
 | c+1,d =>
 bif (decide (d < (a.length:Int))) then ((idx a d).bind fun e =>
 (z128_38 N e b).bind fun f =>
 bif f then (some d)
 else (z53_39_l2 N a b c) (w64 (d+1)))
 else z53_39_k1
def z53_39 (N:Nat) (a:(List T17)) (b:T15):Option Int :=
 z53_39_l2 N a b N 0
def z24 (N:Nat) (a:T7) (b:ByteArray) (c:Int):Option T7 :=
 bif (a.out'.Err==0) then (some (⟨a.all',a.p',a.calls',(⟨a.p'.Name,b,c⟩:T6)⟩:T7))
 else some a
def z62 (N:Nat) (a:T7) (b:(List ByteArray)) (c:Int):Option T7 :=
 (idx b c).bind fun d =>
 (z54 N a.p'.Roles d).bind fun e =>
 bif (!e) then ((idx b c).bind fun f =>
 (z24 N a f 12).bind fun g =>
 some g)
 else (z25 N b c).bind fun h =>
 bif h then ((idx b c).bind fun i =>
 (z24 N a i 12).bind fun j =>
 some j)
 else some a
def z67_k1 (N:Nat) (a:T15) (vbk0_0_0_2:(List T17)) (vbk0_0_1_2:ByteArray) (vbk0_0_2_2:(List ByteArray)) (vbk0_0_3_2:(List T16)) (vbk0_0_4_2:(List T15)) (vbk0_0_5_2:(List ByteArray)) (vbk0_0_6_2:ByteArray) (vbk0_0_7_2:ByteArray) (vbk0_0_8_2:Int):Option T7 :=
 (z54 N vbk0_0_5_2 a.As).bind fun b =>
 bif b then ((z24 N (⟨vbk0_0_0_2,(⟨vbk0_0_1_2,vbk0_0_2_2,vbk0_0_3_2,vbk0_0_4_2⟩:T17),vbk0_0_5_2,(⟨vbk0_0_6_2,vbk0_0_7_2,vbk0_0_8_2⟩:T6)⟩:T7) a.As 9).bind fun c =>
 (appL c.calls' ([a.As]:List ByteArray)).bind fun d =>
 some (⟨c.all',c.p',d,c.out'⟩:T7))
 else (appL vbk0_0_5_2 ([a.As]:List ByteArray)).bind fun e =>
 some (⟨vbk0_0_0_2,(⟨vbk0_0_1_2,vbk0_0_2_2,vbk0_0_3_2,vbk0_0_4_2⟩:T17),e,(⟨vbk0_0_6_2,vbk0_0_7_2,vbk0_0_8_2⟩:T6)⟩:T7)
def z67_l2 (N:Nat) (a:T15):Nat→(List T17)→ByteArray→(List ByteArray)→(List T16)→(List T15)→(List ByteArray)→ByteArray→ByteArray→Int→Int→Option T7
 | 0,_,_,_,_,_,_,_,_,_,_=>none
 | b+1,vbk0_0_0_4,vbk0_0_1_4,vbk0_0_2_4,vbk0_0_3_4,vbk0_0_4_4,vbk0_0_5_4,vbk0_0_6_4,vbk0_0_7_4,vbk0_0_8_4,c =>
 bif (decide (c < (a.To.length:Int))) then ((z62 N (⟨vbk0_0_0_4,(⟨vbk0_0_1_4,vbk0_0_2_4,vbk0_0_3_4,vbk0_0_4_4⟩:T17),vbk0_0_5_4,(⟨vbk0_0_6_4,vbk0_0_7_4,vbk0_0_8_4⟩:T6)⟩:T7) a.To c).bind fun d =>
 (z67_l2 N a b) d.all' d.p'.Name d.p'.Roles d.p'.Messages d.p'.Body d.calls' d.out'.Protocol d.out'.Name d.out'.Err (w64 (c+1)))
 else z67_k1 N a vbk0_0_0_4 vbk0_0_1_4 vbk0_0_2_4 vbk0_0_3_4 vbk0_0_4_4 vbk0_0_5_4 vbk0_0_6_4 vbk0_0_7_4 vbk0_0_8_4
def z67_k3 (N:Nat) (a:T15) (vbk0_0_0_1:(List T17)) (vbk0_0_1_1:ByteArray) (vbk0_0_2_1:(List ByteArray)) (vbk0_0_3_1:(List T16)) (vbk0_0_4_1:(List T15)) (vbk0_0_5_1:(List ByteArray)) (vbk0_0_6_1:ByteArray) (vbk0_0_7_1:ByteArray) (vbk0_0_8_1:Int):Option T7 :=
 z67_l2 N a N vbk0_0_0_1 vbk0_0_1_1 vbk0_0_2_1 vbk0_0_3_1 vbk0_0_4_1 vbk0_0_5_1 vbk0_0_6_1 vbk0_0_7_1 vbk0_0_8_1 0
def z67 (N:Nat) (a:T7) (b:T15):Option T7 :=
 (z53_39 N a.all' b).bind fun c =>
 bif (decide (c < 0)) then ((z24 N a b.Name 10).bind fun d =>
 some d)
 else (idx a.all' c).bind fun e =>
 bif ((e.Roles.length:Int) != (b.To.length:Int)) then ((z24 N a b.Name 1).bind fun f =>
 z67_k3 N b f.all' f.p'.Name f.p'.Roles f.p'.Messages f.p'.Body f.calls' f.out'.Protocol f.out'.Name f.out'.Err)
 else z67_k3 N b a.all' a.p'.Name a.p'.Roles a.p'.Messages a.p'.Body a.calls' a.out'.Protocol a.out'.Name a.out'.Err
def z61_k1 (N:Nat) (a:T15) (vbk0_0_0_1:(List T17)) (vbk0_0_1_1:ByteArray) (vbk0_0_2_1:(List ByteArray)) (vbk0_0_3_1:(List T16)) (vbk0_0_4_1:(List T15)) (vbk0_0_5_1:(List ByteArray)) (vbk0_0_6_1:ByteArray) (vbk0_0_7_1:ByteArray) (vbk0_0_8_1:Int):Option T7 :=
 (z55_32 N vbk0_0_3_1 a).bind fun b =>
 bif (!b) then ((z24 N (⟨vbk0_0_0_1,(⟨vbk0_0_1_1,vbk0_0_2_1,vbk0_0_3_1,vbk0_0_4_1⟩:T17),vbk0_0_5_1,(⟨vbk0_0_6_1,vbk0_0_7_1,vbk0_0_8_1⟩:T6)⟩:T7) a.Name 10).bind fun c =>
 some c)
 else some (⟨vbk0_0_0_1,(⟨vbk0_0_1_1,vbk0_0_2_1,vbk0_0_3_1,vbk0_0_4_1⟩:T17),vbk0_0_5_1,(⟨vbk0_0_6_1,vbk0_0_7_1,vbk0_0_8_1⟩:T6)⟩:T7)
def z61_l2 (N:Nat) (a:T15) (b:(List ByteArray)):Nat→(List T17)→ByteArray→(List ByteArray)→(List T16)→(List T15)→(List ByteArray)→ByteArray→ByteArray→Int→Int→Option T7
 | 0,_,_,_,_,_,_,_,_,_,_=>none
 | c+1,vbk0_0_0_3,vbk0_0_1_3,vbk0_0_2_3,vbk0_0_3_3,vbk0_0_4_3,vbk0_0_5_3,vbk0_0_6_3,vbk0_0_7_3,vbk0_0_8_3,d =>
 bif (decide (d < (b.length:Int))) then ((z62 N (⟨vbk0_0_0_3,(⟨vbk0_0_1_3,vbk0_0_2_3,vbk0_0_3_3,vbk0_0_4_3⟩:T17),vbk0_0_5_3,(⟨vbk0_0_6_3,vbk0_0_7_3,vbk0_0_8_3⟩:T6)⟩:T7) b d).bind fun e =>
 (z61_l2 N a b c) e.all' e.p'.Name e.p'.Roles e.p'.Messages e.p'.Body e.calls' e.out'.Protocol e.out'.Name e.out'.Err (w64 (d+1)))
 else z61_k1 N a vbk0_0_0_3 vbk0_0_1_3 vbk0_0_2_3 vbk0_0_3_3 vbk0_0_4_3 vbk0_0_5_3 vbk0_0_6_3 vbk0_0_7_3 vbk0_0_8_3
def z61 (N:Nat) (a:T7) (b:T15):Option T7 :=
 (appL ([b.From]:List ByteArray) b.To).bind fun c =>
 z61_l2 N b c N a.all' a.p'.Name a.p'.Roles a.p'.Messages a.p'.Body a.calls' a.out'.Protocol a.out'.Name a.out'.Err 0
def z28_k1 (vbk0_0_0_1:(List T17)) (vbk0_0_1_1:ByteArray) (vbk0_0_2_1:(List ByteArray)) (vbk0_0_3_1:(List T16)) (vbk0_0_4_1:(List T15)) (vbk0_0_5_1:(List ByteArray)) (vbk0_0_6_1:ByteArray) (vbk0_0_7_1:ByteArray) (vbk0_0_8_1:Int):Option T7 :=
 some (⟨vbk0_0_0_1,(⟨vbk0_0_1_1,vbk0_0_2_1,vbk0_0_3_1,vbk0_0_4_1⟩:T17),vbk0_0_5_1,(⟨vbk0_0_6_1,vbk0_0_7_1,vbk0_0_8_1⟩:T6)⟩:T7)
def z28_k3 (a:Int) (b:(List T17)→ByteArray→(List ByteArray)→(List T16)→(List T15)→(List ByteArray)→ByteArray→ByteArray→Int→Int→Option T7) (vbk0_0_0_59:(List T17)) (vbk0_0_1_59:ByteArray) (vbk0_0_2_59:(List ByteArray)) (vbk0_0_3_59:(List T16)) (vbk0_0_4_59:(List T15)) (vbk0_0_5_59:(List ByteArray)) (vbk0_0_6_59:ByteArray) (vbk0_0_7_59:ByteArray) (vbk0_0_8_59:Int):Option T7 :=
 b vbk0_0_0_59 vbk0_0_1_59 vbk0_0_2_59 vbk0_0_3_59 vbk0_0_4_59 vbk0_0_5_59 vbk0_0_6_59 vbk0_0_7_59 vbk0_0_8_59 (w64 (a+1))
def z28_l4 (rc:T7→(List T15)→(List T8)→Option T7) (a:Int) (b:(List T17)→ByteArray→(List ByteArray)→(List T16)→(List T15)→(List ByteArray)→ByteArray→ByteArray→Int→Int→Option T7) (c:T15) (d:(List T8)):Nat→(List T17)→ByteArray→(List ByteArray)→(List T16)→(List T15)→(List ByteArray)→ByteArray→ByteArray→Int→Int→Option T7
 | 0,_,_,_,_,_,_,_,_,_,_=>none
 | e+1,vbk0_0_0_61,vbk0_0_1_61,vbk0_0_2_61,vbk0_0_3_61,vbk0_0_4_61,vbk0_0_5_61,vbk0_0_6_61,vbk0_0_7_61,vbk0_0_8_61,f =>
 bif (decide (f < (c.Blocks.length:Int))) then ((idx c.Blocks f).bind fun g =>
 (rc (⟨vbk0_0_0_61,(⟨vbk0_0_1_61,vbk0_0_2_61,vbk0_0_3_61,vbk0_0_4_61⟩:T17),vbk0_0_5_61,(⟨vbk0_0_6_61,vbk0_0_7_61,vbk0_0_8_61⟩:T6)⟩:T7) g d).bind fun h =>
 (z28_l4 rc a b c d e) h.all' h.p'.Name h.p'.Roles h.p'.Messages h.p'.Body h.calls' h.out'.Protocol h.out'.Name h.out'.Err (w64 (f+1)))
 else z28_k3 a b vbk0_0_0_61 vbk0_0_1_61 vbk0_0_2_61 vbk0_0_3_61 vbk0_0_4_61 vbk0_0_5_61 vbk0_0_6_61 vbk0_0_7_61 vbk0_0_8_61
def z28_k5 (N:Nat) (rc:T7→(List T15)→(List T8)→Option T7) (a:Int) (b:(List T17)→ByteArray→(List ByteArray)→(List T16)→(List T15)→(List ByteArray)→ByteArray→ByteArray→Int→Int→Option T7) (c:T15) (vbk0_0_0_56:(List T17)) (vbk0_0_1_56:ByteArray) (vbk0_0_2_56:(List ByteArray)) (vbk0_0_3_56:(List T16)) (vbk0_0_4_56:(List T15)) (vbk0_0_5_56:(List ByteArray)) (vbk0_0_6_56:ByteArray) (vbk0_0_7_56:ByteArray) (vbk0_0_8_56:Int) (d:(List T8)):Option T7 :=
 z28_l4 rc a b c d N vbk0_0_0_56 vbk0_0_1_56 vbk0_0_2_56 vbk0_0_3_56 vbk0_0_4_56 vbk0_0_5_56 vbk0_0_6_56 vbk0_0_7_56 vbk0_0_8_56 0
def z28_l6 (N:Nat) (rc:T7→(List T15)→(List T8)→Option T7) (a:Int) (b:(List T17)→ByteArray→(List ByteArray)→(List T16)→(List T15)→(List ByteArray)→ByteArray→ByteArray→Int→Int→Option T7) (c:T15) (vbk0_0_0_56:(List T17)) (vbk0_0_1_56:ByteArray) (vbk0_0_2_56:(List ByteArray)) (vbk0_0_3_56:(List T16)) (vbk0_0_4_56:(List T15)) (vbk0_0_5_56:(List ByteArray)) (vbk0_0_6_56:ByteArray) (vbk0_0_7_56:ByteArray) (vbk0_0_8_56:Int) (d:(List T8)):Nat→(List T8)→Int→Option T7
 | 0,_,_=>none
 | e+1,f,g =>
 bif (decide (g < (d.length:Int))) then ((idx f g).bind fun h =>
 bif h.hidden' then ((idx f g).bind fun i =>
 (z28_l6 N rc a b c vbk0_0_0_56 vbk0_0_1_56 vbk0_0_2_56 vbk0_0_3_56 vbk0_0_4_56 vbk0_0_5_56 vbk0_0_6_56 vbk0_0_7_56 vbk0_0_8_56 d e) (setL' f g (⟨i.name',i.tail',true⟩:T8)) (w64 (g+1)))
 else (idx f g).bind fun j =>
 (z28_l6 N rc a b c vbk0_0_0_56 vbk0_0_1_56 vbk0_0_2_56 vbk0_0_3_56 vbk0_0_4_56 vbk0_0_5_56 vbk0_0_6_56 vbk0_0_7_56 vbk0_0_8_56 d e) (setL' f g (⟨j.name',j.tail',(c.Kind==5)⟩:T8)) (w64 (g+1)))
 else z28_k5 N rc a b c vbk0_0_0_56 vbk0_0_1_56 vbk0_0_2_56 vbk0_0_3_56 vbk0_0_4_56 vbk0_0_5_56 vbk0_0_6_56 vbk0_0_7_56 vbk0_0_8_56 f
def z28_k7 (N:Nat) (rc:T7→(List T15)→(List T8)→Option T7) (a:Int) (b:(List T17)→ByteArray→(List ByteArray)→(List T16)→(List T15)→(List ByteArray)→ByteArray→ByteArray→Int→Int→Option T7) (c:T15) (vbk0_0_0_56:(List T17)) (vbk0_0_1_56:ByteArray) (vbk0_0_2_56:(List ByteArray)) (vbk0_0_3_56:(List T16)) (vbk0_0_4_56:(List T15)) (vbk0_0_5_56:(List ByteArray)) (vbk0_0_6_56:ByteArray) (vbk0_0_7_56:ByteArray) (vbk0_0_8_56:Int) (d:(List T8)):Option T7 :=
 z28_l6 N rc a b c vbk0_0_0_56 vbk0_0_1_56 vbk0_0_2_56 vbk0_0_3_56 vbk0_0_4_56 vbk0_0_5_56 vbk0_0_6_56 vbk0_0_7_56 vbk0_0_8_56 d N d 0
def z28_k8 (N:Nat) (rc:T7→(List T15)→(List T8)→Option T7) (vbk0_0_0_33:(List T17)) (vbk0_0_1_33:ByteArray) (vbk0_0_2_33:(List ByteArray)) (vbk0_0_3_33:(List T16)) (vbk0_0_4_33:(List T15)) (vbk0_0_5_33:(List ByteArray)) (vbk0_0_6_33:ByteArray) (vbk0_0_7_33:ByteArray) (vbk0_0_8_33:Int) (a:Int) (b:(List T17)→ByteArray→(List ByteArray)→(List T16)→(List T15)→(List ByteArray)→ByteArray→ByteArray→Int→Int→Option T7) (c:T15) (d:(List T8)):Option T7 :=
 bif (c.Kind==1) then ((z61 N (⟨vbk0_0_0_33,(⟨vbk0_0_1_33,vbk0_0_2_33,vbk0_0_3_33,vbk0_0_4_33⟩:T17),vbk0_0_5_33,(⟨vbk0_0_6_33,vbk0_0_7_33,vbk0_0_8_33⟩:T6)⟩:T7) c).bind fun e =>
 z28_k7 N rc a b c e.all' e.p'.Name e.p'.Roles e.p'.Messages e.p'.Body e.calls' e.out'.Protocol e.out'.Name e.out'.Err d)
 else bif (c.Kind==2) then ((z62 N (⟨vbk0_0_0_33,(⟨vbk0_0_1_33,vbk0_0_2_33,vbk0_0_3_33,vbk0_0_4_33⟩:T17),vbk0_0_5_33,(⟨vbk0_0_6_33,vbk0_0_7_33,vbk0_0_8_33⟩:T6)⟩:T7) ([c.From]:List ByteArray) 0).bind fun f =>
 z28_k7 N rc a b c f.all' f.p'.Name f.p'.Roles f.p'.Messages f.p'.Body f.calls' f.out'.Protocol f.out'.Name f.out'.Err d)
 else bif (c.Kind==3) then ((z63_35 N d c).bind fun g =>
 bif g then ((z24 N (⟨vbk0_0_0_33,(⟨vbk0_0_1_33,vbk0_0_2_33,vbk0_0_3_33,vbk0_0_4_33⟩:T17),vbk0_0_5_33,(⟨vbk0_0_6_33,vbk0_0_7_33,vbk0_0_8_33⟩:T6)⟩:T7) c.Name 9).bind fun h =>
 (appL d ([(⟨c.Name,true,false⟩:T8)]:List T8)).bind fun i =>
 z28_k7 N rc a b c h.all' h.p'.Name h.p'.Roles h.p'.Messages h.p'.Body h.calls' h.out'.Protocol h.out'.Name h.out'.Err i)
 else (appL d ([(⟨c.Name,true,false⟩:T8)]:List T8)).bind fun j =>
 z28_k7 N rc a b c vbk0_0_0_33 vbk0_0_1_33 vbk0_0_2_33 vbk0_0_3_33 vbk0_0_4_33 vbk0_0_5_33 vbk0_0_6_33 vbk0_0_7_33 vbk0_0_8_33 j)
 else bif (c.Kind==4) then ((z65_37 N d c).bind fun k =>
 bif (decide (k < 0)) then ((z24 N (⟨vbk0_0_0_33,(⟨vbk0_0_1_33,vbk0_0_2_33,vbk0_0_3_33,vbk0_0_4_33⟩:T17),vbk0_0_5_33,(⟨vbk0_0_6_33,vbk0_0_7_33,vbk0_0_8_33⟩:T6)⟩:T7) c.Name 10).bind fun l =>
 z28_k7 N rc a b c l.all' l.p'.Name l.p'.Roles l.p'.Messages l.p'.Body l.calls' l.out'.Protocol l.out'.Name l.out'.Err d)
 else (idx d k).bind fun m =>
 bif (!m.tail') then ((z24 N (⟨vbk0_0_0_33,(⟨vbk0_0_1_33,vbk0_0_2_33,vbk0_0_3_33,vbk0_0_4_33⟩:T17),vbk0_0_5_33,(⟨vbk0_0_6_33,vbk0_0_7_33,vbk0_0_8_33⟩:T6)⟩:T7) c.Name 7).bind fun o =>
 z28_k7 N rc a b c o.all' o.p'.Name o.p'.Roles o.p'.Messages o.p'.Body o.calls' o.out'.Protocol o.out'.Name o.out'.Err d)
 else z28_k7 N rc a b c vbk0_0_0_33 vbk0_0_1_33 vbk0_0_2_33 vbk0_0_3_33 vbk0_0_4_33 vbk0_0_5_33 vbk0_0_6_33 vbk0_0_7_33 vbk0_0_8_33 d)
 else bif (c.Kind==6) then ((z67 N (⟨vbk0_0_0_33,(⟨vbk0_0_1_33,vbk0_0_2_33,vbk0_0_3_33,vbk0_0_4_33⟩:T17),vbk0_0_5_33,(⟨vbk0_0_6_33,vbk0_0_7_33,vbk0_0_8_33⟩:T6)⟩:T7) c).bind fun p =>
 z28_k7 N rc a b c p.all' p.p'.Name p.p'.Roles p.p'.Messages p.p'.Body p.calls' p.out'.Protocol p.out'.Name p.out'.Err d)
 else z28_k7 N rc a b c vbk0_0_0_33 vbk0_0_1_33 vbk0_0_2_33 vbk0_0_3_33 vbk0_0_4_33 vbk0_0_5_33 vbk0_0_6_33 vbk0_0_7_33 vbk0_0_8_33 d
def z28_l9 (N:Nat) (rc:T7→(List T15)→(List T8)→Option T7) (a:(List T15)) (vbk0_0_0_33:(List T17)) (vbk0_0_1_33:ByteArray) (vbk0_0_2_33:(List ByteArray)) (vbk0_0_3_33:(List T16)) (vbk0_0_4_33:(List T15)) (vbk0_0_5_33:(List ByteArray)) (vbk0_0_6_33:ByteArray) (vbk0_0_7_33:ByteArray) (vbk0_0_8_33:Int) (b:Int) (c:(List T17)→ByteArray→(List ByteArray)→(List T16)→(List T15)→(List ByteArray)→ByteArray→ByteArray→Int→Int→Option T7) (d:T15) (e:(List T8)):Nat→(List T8)→Int→Option T7
 | 0,_,_=>none
 | f+1,g,h =>
 bif (decide (h < (e.length:Int))) then ((idx g h).bind fun i =>
 bif i.tail' then ((idx g h).bind fun j =>
 (z28_l9 N rc a vbk0_0_0_33 vbk0_0_1_33 vbk0_0_2_33 vbk0_0_3_33 vbk0_0_4_33 vbk0_0_5_33 vbk0_0_6_33 vbk0_0_7_33 vbk0_0_8_33 b c d e f) (setL' g h (⟨j.name',(b==(w64 ((a.length:Int)-1))),j.hidden'⟩:T8)) (w64 (h+1)))
 else (idx g h).bind fun k =>
 (z28_l9 N rc a vbk0_0_0_33 vbk0_0_1_33 vbk0_0_2_33 vbk0_0_3_33 vbk0_0_4_33 vbk0_0_5_33 vbk0_0_6_33 vbk0_0_7_33 vbk0_0_8_33 b c d e f) (setL' g h (⟨k.name',false,k.hidden'⟩:T8)) (w64 (h+1)))
 else z28_k8 N rc vbk0_0_0_33 vbk0_0_1_33 vbk0_0_2_33 vbk0_0_3_33 vbk0_0_4_33 vbk0_0_5_33 vbk0_0_6_33 vbk0_0_7_33 vbk0_0_8_33 b c d g
def z28_l2 (N:Nat) (rc:T7→(List T15)→(List T8)→Option T7) (a:(List T15)) (b:(List T8)):Nat→(List T17)→ByteArray→(List ByteArray)→(List T16)→(List T15)→(List ByteArray)→ByteArray→ByteArray→Int→Int→Option T7
 | 0,_,_,_,_,_,_,_,_,_,_=>none
 | c+1,vbk0_0_0_33,vbk0_0_1_33,vbk0_0_2_33,vbk0_0_3_33,vbk0_0_4_33,vbk0_0_5_33,vbk0_0_6_33,vbk0_0_7_33,vbk0_0_8_33,d =>
 bif (decide (d < (a.length:Int))) then ((idx a d).bind fun e =>
 (z60 N b).bind fun f =>
 z28_l9 N rc a vbk0_0_0_33 vbk0_0_1_33 vbk0_0_2_33 vbk0_0_3_33 vbk0_0_4_33 vbk0_0_5_33 vbk0_0_6_33 vbk0_0_7_33 vbk0_0_8_33 d (z28_l2 N rc a b c) e f N f 0)
 else z28_k1 vbk0_0_0_33 vbk0_0_1_33 vbk0_0_2_33 vbk0_0_3_33 vbk0_0_4_33 vbk0_0_5_33 vbk0_0_6_33 vbk0_0_7_33 vbk0_0_8_33
def z28_b (N:Nat) (rc:T7→(List T15)→(List T8)→Option T7) (a:T7) (b:(List T15)) (c:(List T8)):Option T7 :=
 z28_l2 N rc b c N a.all' a.p'.Name a.p'.Roles a.p'.Messages a.p'.Body a.calls' a.out'.Protocol a.out'.Name a.out'.Err 0
def z28_r:Nat→T7→(List T15)→(List T8)→Option T7
 | 0,_,_,_=>none
 | N+1,a0,a1,a2=>z28_b N (z28_r N) a0 a1 a2
def z28 (N:Nat) (a:T7) (b:(List T15)) (c:(List T8)):Option T7:=z28_r N a b c
def z26_k1 (vbk0_0_0_1:(List T17)) (vbk0_0_1_1:ByteArray) (vbk0_0_2_1:(List ByteArray)) (vbk0_0_3_1:(List T16)) (vbk0_0_4_1:(List T15)) (vbk0_0_5_1:(List ByteArray)) (vbk0_0_6_1:ByteArray) (vbk0_0_7_1:ByteArray) (vbk0_0_8_1:Int):Option T7 :=
 some (⟨vbk0_0_0_1,(⟨vbk0_0_1_1,vbk0_0_2_1,vbk0_0_3_1,vbk0_0_4_1⟩:T17),vbk0_0_5_1,(⟨vbk0_0_6_1,vbk0_0_7_1,vbk0_0_8_1⟩:T6)⟩:T7)
def z26_k3 (a:Int) (b:(List T17)→ByteArray→(List ByteArray)→(List T16)→(List T15)→(List ByteArray)→ByteArray→ByteArray→Int→Int→Option T7) (vbk0_0_0_85:(List T17)) (vbk0_0_1_85:ByteArray) (vbk0_0_2_85:(List ByteArray)) (vbk0_0_3_85:(List T16)) (vbk0_0_4_85:(List T15)) (vbk0_0_5_85:(List ByteArray)) (vbk0_0_6_85:ByteArray) (vbk0_0_7_85:ByteArray) (vbk0_0_8_85:Int):Option T7 :=
 b vbk0_0_0_85 vbk0_0_1_85 vbk0_0_2_85 vbk0_0_3_85 vbk0_0_4_85 vbk0_0_5_85 vbk0_0_6_85 vbk0_0_7_85 vbk0_0_8_85 (w64 (a+1))
def z26_k5 (N:Nat) (a:Int) (b:(List T17)→ByteArray→(List ByteArray)→(List T16)→(List T15)→(List ByteArray)→ByteArray→ByteArray→Int→Int→Option T7) (c:T0) (vbk0_0_0_98:(List T17)) (vbk0_0_1_98:ByteArray) (vbk0_0_2_98:(List ByteArray)) (vbk0_0_3_98:(List T16)) (vbk0_0_4_98:(List T15)) (vbk0_0_5_98:(List ByteArray)) (vbk0_0_6_98:ByteArray) (vbk0_0_7_98:ByteArray) (vbk0_0_8_98:Int) (d:Int) (e:Int):Option T7 :=
 bif (decide (c.Sort'.Lo > c.Sort'.Hi)) then ((z24 N (⟨vbk0_0_0_98,(⟨vbk0_0_1_98,vbk0_0_2_98,vbk0_0_3_98,vbk0_0_4_98⟩:T17),vbk0_0_5_98,(⟨vbk0_0_6_98,vbk0_0_7_98,vbk0_0_8_98⟩:T6)⟩:T7) c.Name 2).bind fun f =>
 b f.all' f.p'.Name f.p'.Roles f.p'.Messages f.p'.Body f.calls' f.out'.Protocol f.out'.Name f.out'.Err (w64 (a+1)))
 else bif (decide (c.Sort'.Lo < d)) then ((z24 N (⟨vbk0_0_0_98,(⟨vbk0_0_1_98,vbk0_0_2_98,vbk0_0_3_98,vbk0_0_4_98⟩:T17),vbk0_0_5_98,(⟨vbk0_0_6_98,vbk0_0_7_98,vbk0_0_8_98⟩:T6)⟩:T7) c.Name 2).bind fun g =>
 b g.all' g.p'.Name g.p'.Roles g.p'.Messages g.p'.Body g.calls' g.out'.Protocol g.out'.Name g.out'.Err (w64 (a+1)))
 else bif (decide (c.Sort'.Hi > e)) then ((z24 N (⟨vbk0_0_0_98,(⟨vbk0_0_1_98,vbk0_0_2_98,vbk0_0_3_98,vbk0_0_4_98⟩:T17),vbk0_0_5_98,(⟨vbk0_0_6_98,vbk0_0_7_98,vbk0_0_8_98⟩:T6)⟩:T7) c.Name 2).bind fun h =>
 b h.all' h.p'.Name h.p'.Roles h.p'.Messages h.p'.Body h.calls' h.out'.Protocol h.out'.Name h.out'.Err (w64 (a+1)))
 else b vbk0_0_0_98 vbk0_0_1_98 vbk0_0_2_98 vbk0_0_3_98 vbk0_0_4_98 vbk0_0_5_98 vbk0_0_6_98 vbk0_0_7_98 vbk0_0_8_98 (w64 (a+1))
def z26_k6 (N:Nat) (a:Int) (b:(List T17)→ByteArray→(List ByteArray)→(List T16)→(List T15)→(List ByteArray)→ByteArray→ByteArray→Int→Int→Option T7) (c:T0) (vbk0_0_0_98:(List T17)) (vbk0_0_1_98:ByteArray) (vbk0_0_2_98:(List ByteArray)) (vbk0_0_3_98:(List T16)) (vbk0_0_4_98:(List T15)) (vbk0_0_5_98:(List ByteArray)) (vbk0_0_6_98:ByteArray) (vbk0_0_7_98:ByteArray) (vbk0_0_8_98:Int):Option T7 :=
 bif (c.Sort'.Kind==2) then (z26_k5 N a b c vbk0_0_0_98 vbk0_0_1_98 vbk0_0_2_98 vbk0_0_3_98 vbk0_0_4_98 vbk0_0_5_98 vbk0_0_6_98 vbk0_0_7_98 vbk0_0_8_98 0 40)
 else z26_k5 N a b c vbk0_0_0_98 vbk0_0_1_98 vbk0_0_2_98 vbk0_0_3_98 vbk0_0_4_98 vbk0_0_5_98 vbk0_0_6_98 vbk0_0_7_98 vbk0_0_8_98 (-1000) 1000
def z26_l4 (N:Nat) (a:Int) (b:(List T17)→ByteArray→(List ByteArray)→(List T16)→(List T15)→(List ByteArray)→ByteArray→ByteArray→Int→Int→Option T7) (c:T16):Nat→(List T17)→ByteArray→(List ByteArray)→(List T16)→(List T15)→(List ByteArray)→ByteArray→ByteArray→Int→Int→Option T7
 | 0,_,_,_,_,_,_,_,_,_,_=>none
 | d+1,vbk0_0_0_93,vbk0_0_1_93,vbk0_0_2_93,vbk0_0_3_93,vbk0_0_4_93,vbk0_0_5_93,vbk0_0_6_93,vbk0_0_7_93,vbk0_0_8_93,e =>
 bif (decide (e < (c.Fields.length:Int))) then ((idx c.Fields e).bind fun f =>
 (lsl c.Fields none (some e)).bind fun g =>
 (z57_25 N g f).bind fun h =>
 bif h then ((z24 N (⟨vbk0_0_0_93,(⟨vbk0_0_1_93,vbk0_0_2_93,vbk0_0_3_93,vbk0_0_4_93⟩:T17),vbk0_0_5_93,(⟨vbk0_0_6_93,vbk0_0_7_93,vbk0_0_8_93⟩:T6)⟩:T7) f.Name 9).bind fun i =>
 z26_k6 N e (z26_l4 N a b c d) f i.all' i.p'.Name i.p'.Roles i.p'.Messages i.p'.Body i.calls' i.out'.Protocol i.out'.Name i.out'.Err)
 else z26_k6 N e (z26_l4 N a b c d) f vbk0_0_0_93 vbk0_0_1_93 vbk0_0_2_93 vbk0_0_3_93 vbk0_0_4_93 vbk0_0_5_93 vbk0_0_6_93 vbk0_0_7_93 vbk0_0_8_93)
 else z26_k3 a b vbk0_0_0_93 vbk0_0_1_93 vbk0_0_2_93 vbk0_0_3_93 vbk0_0_4_93 vbk0_0_5_93 vbk0_0_6_93 vbk0_0_7_93 vbk0_0_8_93
def z26_k7 (N:Nat) (a:Int) (b:(List T17)→ByteArray→(List ByteArray)→(List T16)→(List T15)→(List ByteArray)→ByteArray→ByteArray→Int→Int→Option T7) (c:T16) (vbk0_0_0_84:(List T17)) (vbk0_0_1_84:ByteArray) (vbk0_0_2_84:(List ByteArray)) (vbk0_0_3_84:(List T16)) (vbk0_0_4_84:(List T15)) (vbk0_0_5_84:(List ByteArray)) (vbk0_0_6_84:ByteArray) (vbk0_0_7_84:ByteArray) (vbk0_0_8_84:Int):Option T7 :=
 z26_l4 N a b c N vbk0_0_0_84 vbk0_0_1_84 vbk0_0_2_84 vbk0_0_3_84 vbk0_0_4_84 vbk0_0_5_84 vbk0_0_6_84 vbk0_0_7_84 vbk0_0_8_84 0
def z26_l2 (N:Nat) (a:T7):Nat→(List T17)→ByteArray→(List ByteArray)→(List T16)→(List T15)→(List ByteArray)→ByteArray→ByteArray→Int→Int→Option T7
 | 0,_,_,_,_,_,_,_,_,_,_=>none
 | b+1,vbk0_0_0_51,vbk0_0_1_51,vbk0_0_2_51,vbk0_0_3_51,vbk0_0_4_51,vbk0_0_5_51,vbk0_0_6_51,vbk0_0_7_51,vbk0_0_8_51,c =>
 bif (decide (c < (a.p'.Messages.length:Int))) then ((idx a.p'.Messages c).bind fun d =>
 (lsl vbk0_0_3_51 none (some c)).bind fun e =>
 (z55_22 N e d).bind fun f =>
 bif f then ((z24 N (⟨vbk0_0_0_51,(⟨vbk0_0_1_51,vbk0_0_2_51,vbk0_0_3_51,vbk0_0_4_51⟩:T17),vbk0_0_5_51,(⟨vbk0_0_6_51,vbk0_0_7_51,vbk0_0_8_51⟩:T6)⟩:T7) d.Name 9).bind fun g =>
 z26_k7 N c (z26_l2 N a b) d g.all' g.p'.Name g.p'.Roles g.p'.Messages g.p'.Body g.calls' g.out'.Protocol g.out'.Name g.out'.Err)
 else z26_k7 N c (z26_l2 N a b) d vbk0_0_0_51 vbk0_0_1_51 vbk0_0_2_51 vbk0_0_3_51 vbk0_0_4_51 vbk0_0_5_51 vbk0_0_6_51 vbk0_0_7_51 vbk0_0_8_51)
 else z26_k1 vbk0_0_0_51 vbk0_0_1_51 vbk0_0_2_51 vbk0_0_3_51 vbk0_0_4_51 vbk0_0_5_51 vbk0_0_6_51 vbk0_0_7_51 vbk0_0_8_51
def z26 (N:Nat) (a:T7):Option T7 :=
 z26_l2 N a N a.all' a.p'.Name a.p'.Roles a.p'.Messages a.p'.Body a.calls' a.out'.Protocol a.out'.Name a.out'.Err 0
def z27_k1 (vbk0_0_0_1:(List T17)) (vbk0_0_1_1:ByteArray) (vbk0_0_2_1:(List ByteArray)) (vbk0_0_3_1:(List T16)) (vbk0_0_4_1:(List T15)) (vbk0_0_5_1:(List ByteArray)) (vbk0_0_6_1:ByteArray) (vbk0_0_7_1:ByteArray) (vbk0_0_8_1:Int):Option T7 :=
 some (⟨vbk0_0_0_1,(⟨vbk0_0_1_1,vbk0_0_2_1,vbk0_0_3_1,vbk0_0_4_1⟩:T17),vbk0_0_5_1,(⟨vbk0_0_6_1,vbk0_0_7_1,vbk0_0_8_1⟩:T6)⟩:T7)
def z27_k3 (a:Int) (b:(List T17)→ByteArray→(List ByteArray)→(List T16)→(List T15)→(List ByteArray)→ByteArray→ByteArray→Int→Int→Option T7) (vbk0_0_0_859:(List T17)) (vbk0_0_1_859:ByteArray) (vbk0_0_2_859:(List ByteArray)) (vbk0_0_3_859:(List T16)) (vbk0_0_4_859:(List T15)) (vbk0_0_5_859:(List ByteArray)) (vbk0_0_6_859:ByteArray) (vbk0_0_7_859:ByteArray) (vbk0_0_8_859:Int):Option T7 :=
 b vbk0_0_0_859 vbk0_0_1_859 vbk0_0_2_859 vbk0_0_3_859 vbk0_0_4_859 vbk0_0_5_859 vbk0_0_6_859 vbk0_0_7_859 vbk0_0_8_859 (w64 (a+1))
def z27_k5 (N:Nat) (a:T16) (b:Int) (c:(List T17)→ByteArray→(List ByteArray)→(List T16)→(List T15)→(List ByteArray)→ByteArray→ByteArray→Int→Int→Option T7) (d:T14) (vbk0_0_0_1007:(List T17)) (vbk0_0_1_1007:ByteArray) (vbk0_0_2_1007:(List ByteArray)) (vbk0_0_3_1007:(List T16)) (vbk0_0_4_1007:(List T15)) (vbk0_0_5_1007:(List ByteArray)) (vbk0_0_6_1007:ByteArray) (vbk0_0_7_1007:ByteArray) (vbk0_0_8_1007:Int) (e:Int):Option T7 :=
 bif (e==1) then ((z24 N (⟨vbk0_0_0_1007,(⟨vbk0_0_1_1007,vbk0_0_2_1007,vbk0_0_3_1007,vbk0_0_4_1007⟩:T17),vbk0_0_5_1007,(⟨vbk0_0_6_1007,vbk0_0_7_1007,vbk0_0_8_1007⟩:T6)⟩:T7) a.Name 11).bind fun f =>
 c f.all' f.p'.Name f.p'.Roles f.p'.Messages f.p'.Body f.calls' f.out'.Protocol f.out'.Name f.out'.Err (w64 (b+1)))
 else bif (e==2) then (bif (!(d.Op.toList==(str [61,61]).toList)) then ((z24 N (⟨vbk0_0_0_1007,(⟨vbk0_0_1_1007,vbk0_0_2_1007,vbk0_0_3_1007,vbk0_0_4_1007⟩:T17),vbk0_0_5_1007,(⟨vbk0_0_6_1007,vbk0_0_7_1007,vbk0_0_8_1007⟩:T6)⟩:T7) a.Name 11).bind fun g =>
 c g.all' g.p'.Name g.p'.Roles g.p'.Messages g.p'.Body g.calls' g.out'.Protocol g.out'.Name g.out'.Err (w64 (b+1)))
 else bif (d.Left.N != 0) then ((z24 N (⟨vbk0_0_0_1007,(⟨vbk0_0_1_1007,vbk0_0_2_1007,vbk0_0_3_1007,vbk0_0_4_1007⟩:T17),vbk0_0_5_1007,(⟨vbk0_0_6_1007,vbk0_0_7_1007,vbk0_0_8_1007⟩:T6)⟩:T7) a.Name 11).bind fun h =>
 c h.all' h.p'.Name h.p'.Roles h.p'.Messages h.p'.Body h.calls' h.out'.Protocol h.out'.Name h.out'.Err (w64 (b+1)))
 else bif (d.Right.N != 0) then ((z24 N (⟨vbk0_0_0_1007,(⟨vbk0_0_1_1007,vbk0_0_2_1007,vbk0_0_3_1007,vbk0_0_4_1007⟩:T17),vbk0_0_5_1007,(⟨vbk0_0_6_1007,vbk0_0_7_1007,vbk0_0_8_1007⟩:T6)⟩:T7) a.Name 11).bind fun i =>
 c i.all' i.p'.Name i.p'.Roles i.p'.Messages i.p'.Body i.calls' i.out'.Protocol i.out'.Name i.out'.Err (w64 (b+1)))
 else c vbk0_0_0_1007 vbk0_0_1_1007 vbk0_0_2_1007 vbk0_0_3_1007 vbk0_0_4_1007 vbk0_0_5_1007 vbk0_0_6_1007 vbk0_0_7_1007 vbk0_0_8_1007 (w64 (b+1)))
 else c vbk0_0_0_1007 vbk0_0_1_1007 vbk0_0_2_1007 vbk0_0_3_1007 vbk0_0_4_1007 vbk0_0_5_1007 vbk0_0_6_1007 vbk0_0_7_1007 vbk0_0_8_1007 (w64 (b+1))
def z27_k7 (a:Int) (b:Int) (c:Int) (d:Int) (e:(List T17)→ByteArray→(List ByteArray)→(List T16)→(List T15)→(List ByteArray)→ByteArray→ByteArray→Int→Int→Int→Option T7) (f:Int) (vbk0_0_0_1025:(List T17)) (vbk0_0_1_1025:ByteArray) (vbk0_0_2_1025:(List ByteArray)) (vbk0_0_3_1025:(List T16)) (vbk0_0_4_1025:(List T15)) (vbk0_0_5_1025:(List ByteArray)) (vbk0_0_6_1025:ByteArray) (vbk0_0_7_1025:ByteArray) (vbk0_0_8_1025:Int):Option T7 :=
 bif (f==2) then (bif (d==0) then (bif (a==2) then (e vbk0_0_0_1025 vbk0_0_1_1025 vbk0_0_2_1025 vbk0_0_3_1025 vbk0_0_4_1025 vbk0_0_5_1025 vbk0_0_6_1025 vbk0_0_7_1025 vbk0_0_8_1025 (w64 (c+1)) (w64 (d+1)))
 else e vbk0_0_0_1025 vbk0_0_1_1025 vbk0_0_2_1025 vbk0_0_3_1025 vbk0_0_4_1025 vbk0_0_5_1025 vbk0_0_6_1025 vbk0_0_7_1025 vbk0_0_8_1025 c (w64 (d+1)))
 else bif (d==1) then (bif (b==2) then (e vbk0_0_0_1025 vbk0_0_1_1025 vbk0_0_2_1025 vbk0_0_3_1025 vbk0_0_4_1025 vbk0_0_5_1025 vbk0_0_6_1025 vbk0_0_7_1025 vbk0_0_8_1025 (w64 (c+1)) (w64 (d+1)))
 else e vbk0_0_0_1025 vbk0_0_1_1025 vbk0_0_2_1025 vbk0_0_3_1025 vbk0_0_4_1025 vbk0_0_5_1025 vbk0_0_6_1025 vbk0_0_7_1025 vbk0_0_8_1025 c (w64 (d+1)))
 else none)
 else e vbk0_0_0_1025 vbk0_0_1_1025 vbk0_0_2_1025 vbk0_0_3_1025 vbk0_0_4_1025 vbk0_0_5_1025 vbk0_0_6_1025 vbk0_0_7_1025 vbk0_0_8_1025 c (w64 (d+1))
def z27_k8 (N:Nat) (a:T16) (b:Int) (c:Int) (vbk0_0_0_1017:(List T17)) (vbk0_0_1_1017:ByteArray) (vbk0_0_2_1017:(List ByteArray)) (vbk0_0_3_1017:(List T16)) (vbk0_0_4_1017:(List T15)) (vbk0_0_5_1017:(List ByteArray)) (vbk0_0_6_1017:ByteArray) (vbk0_0_7_1017:ByteArray) (vbk0_0_8_1017:Int) (d:Int) (e:Int) (f:(List T17)→ByteArray→(List ByteArray)→(List T16)→(List T15)→(List ByteArray)→ByteArray→ByteArray→Int→Int→Int→Option T7) (g:Int) (h:Bool):Option T7 :=
 bif h then ((z24 N (⟨vbk0_0_0_1017,(⟨vbk0_0_1_1017,vbk0_0_2_1017,vbk0_0_3_1017,vbk0_0_4_1017⟩:T17),vbk0_0_5_1017,(⟨vbk0_0_6_1017,vbk0_0_7_1017,vbk0_0_8_1017⟩:T6)⟩:T7) a.Name 11).bind fun i =>
 z27_k7 b c d e f g i.all' i.p'.Name i.p'.Roles i.p'.Messages i.p'.Body i.calls' i.out'.Protocol i.out'.Name i.out'.Err)
 else z27_k7 b c d e f g vbk0_0_0_1017 vbk0_0_1_1017 vbk0_0_2_1017 vbk0_0_3_1017 vbk0_0_4_1017 vbk0_0_5_1017 vbk0_0_6_1017 vbk0_0_7_1017 vbk0_0_8_1017
def z27_k9 (N:Nat) (a:T16) (b:Int) (c:Int) (vbk0_0_0_1017:(List T17)) (vbk0_0_1_1017:ByteArray) (vbk0_0_2_1017:(List ByteArray)) (vbk0_0_3_1017:(List T16)) (vbk0_0_4_1017:(List T15)) (vbk0_0_5_1017:(List ByteArray)) (vbk0_0_6_1017:ByteArray) (vbk0_0_7_1017:ByteArray) (vbk0_0_8_1017:Int) (d:Int) (e:Int) (f:(List T17)→ByteArray→(List ByteArray)→(List T16)→(List T15)→(List ByteArray)→ByteArray→ByteArray→Int→Int→Int→Option T7) (g:Int) (h:ByteArray) (i:ByteArray) (j:Int):Option T7 :=
 bif (g==3) then (bif (e==0) then (z27_k8 N a b c vbk0_0_0_1017 vbk0_0_1_1017 vbk0_0_2_1017 vbk0_0_3_1017 vbk0_0_4_1017 vbk0_0_5_1017 vbk0_0_6_1017 vbk0_0_7_1017 vbk0_0_8_1017 d e f g (b != 2))
 else bif (e==1) then (z27_k8 N a b c vbk0_0_0_1017 vbk0_0_1_1017 vbk0_0_2_1017 vbk0_0_3_1017 vbk0_0_4_1017 vbk0_0_5_1017 vbk0_0_6_1017 vbk0_0_7_1017 vbk0_0_8_1017 d e f g (c != 2))
 else none)
 else z27_k8 N a b c vbk0_0_0_1017 vbk0_0_1_1017 vbk0_0_2_1017 vbk0_0_3_1017 vbk0_0_4_1017 vbk0_0_5_1017 vbk0_0_6_1017 vbk0_0_7_1017 vbk0_0_8_1017 d e f g false
def z27_l6 (N:Nat) (a:T16) (b:Int) (c:(List T17)→ByteArray→(List ByteArray)→(List T16)→(List T15)→(List ByteArray)→ByteArray→ByteArray→Int→Int→Option T7) (d:T14) (e:Int) (f:Int):Nat→(List T17)→ByteArray→(List ByteArray)→(List T16)→(List T15)→(List ByteArray)→ByteArray→ByteArray→Int→Int→Int→Option T7
 | 0,_,_,_,_,_,_,_,_,_,_,_=>none
 | g+1,vbk0_0_0_1017,vbk0_0_1_1017,vbk0_0_2_1017,vbk0_0_3_1017,vbk0_0_4_1017,vbk0_0_5_1017,vbk0_0_6_1017,vbk0_0_7_1017,vbk0_0_8_1017,h,i =>
 bif (decide (i < 2)) then (bif (i==0) then (z27_k9 N a e f vbk0_0_0_1017 vbk0_0_1_1017 vbk0_0_2_1017 vbk0_0_3_1017 vbk0_0_4_1017 vbk0_0_5_1017 vbk0_0_6_1017 vbk0_0_7_1017 vbk0_0_8_1017 h i (z27_l6 N a b c d e f g) d.Left.Kind d.Left.Message d.Left.Field d.Left.N)
 else bif (i==1) then (z27_k9 N a e f vbk0_0_0_1017 vbk0_0_1_1017 vbk0_0_2_1017 vbk0_0_3_1017 vbk0_0_4_1017 vbk0_0_5_1017 vbk0_0_6_1017 vbk0_0_7_1017 vbk0_0_8_1017 h i (z27_l6 N a b c d e f g) d.Right.Kind d.Right.Message d.Right.Field d.Right.N)
 else none)
 else z27_k5 N a b c d vbk0_0_0_1017 vbk0_0_1_1017 vbk0_0_2_1017 vbk0_0_3_1017 vbk0_0_4_1017 vbk0_0_5_1017 vbk0_0_6_1017 vbk0_0_7_1017 vbk0_0_8_1017 h
def z27_k10 (N:Nat) (a:T16) (b:Int) (c:(List T17)→ByteArray→(List ByteArray)→(List T16)→(List T15)→(List ByteArray)→ByteArray→ByteArray→Int→Int→Option T7) (d:T14) (vbk0_0_0_1002:(List T17)) (vbk0_0_1_1002:ByteArray) (vbk0_0_2_1002:(List ByteArray)) (vbk0_0_3_1002:(List T16)) (vbk0_0_4_1002:(List T15)) (vbk0_0_5_1002:(List ByteArray)) (vbk0_0_6_1002:ByteArray) (vbk0_0_7_1002:ByteArray) (vbk0_0_8_1002:Int) (e:Int) (f:Int):Option T7 :=
 z27_l6 N a b c d e f N vbk0_0_0_1002 vbk0_0_1_1002 vbk0_0_2_1002 vbk0_0_3_1002 vbk0_0_4_1002 vbk0_0_5_1002 vbk0_0_6_1002 vbk0_0_7_1002 vbk0_0_8_1002 0 0
def z27_k12 (N:Nat) (a:T16) (vbk0_0_0_1026:(List T17)) (vbk0_0_1_1026:ByteArray) (vbk0_0_2_1026:(List ByteArray)) (vbk0_0_3_1026:(List T16)) (vbk0_0_4_1026:(List T15)) (vbk0_0_5_1026:(List ByteArray)) (vbk0_0_6_1026:ByteArray) (vbk0_0_7_1026:ByteArray) (vbk0_0_8_1026:Int) (b:Int) (c:Int) (d:Int) (e:(List T17)→ByteArray→(List ByteArray)→(List T16)→(List T15)→(List ByteArray)→ByteArray→ByteArray→Int→Int→Int→Int→Option T7) (f:Int) (g:ByteArray) (h:ByteArray) (i:Int):Option T7 :=
 bif (f==1) then (e vbk0_0_0_1026 vbk0_0_1_1026 vbk0_0_2_1026 vbk0_0_3_1026 vbk0_0_4_1026 vbk0_0_5_1026 vbk0_0_6_1026 vbk0_0_7_1026 vbk0_0_8_1026 b c (w64 (d+1)))
 else (z59 N (⟨vbk0_0_0_1026,(⟨vbk0_0_1_1026,vbk0_0_2_1026,vbk0_0_3_1026,vbk0_0_4_1026⟩:T17),vbk0_0_5_1026,(⟨vbk0_0_6_1026,vbk0_0_7_1026,vbk0_0_8_1026⟩:T6)⟩:T7) a (⟨f,g,h,i⟩:T18)).bind fun j =>
 bif (d==0) then (bif (d==0) then (bif (j==0) then ((z24 N (⟨vbk0_0_0_1026,(⟨vbk0_0_1_1026,vbk0_0_2_1026,vbk0_0_3_1026,vbk0_0_4_1026⟩:T17),vbk0_0_5_1026,(⟨vbk0_0_6_1026,vbk0_0_7_1026,vbk0_0_8_1026⟩:T6)⟩:T7) a.Name 10).bind fun k =>
 e k.all' k.p'.Name k.p'.Roles k.p'.Messages k.p'.Body k.calls' k.out'.Protocol k.out'.Name k.out'.Err j c (w64 (d+1)))
 else e vbk0_0_0_1026 vbk0_0_1_1026 vbk0_0_2_1026 vbk0_0_3_1026 vbk0_0_4_1026 vbk0_0_5_1026 vbk0_0_6_1026 vbk0_0_7_1026 vbk0_0_8_1026 j c (w64 (d+1)))
 else bif (d==1) then (bif (c==0) then ((z24 N (⟨vbk0_0_0_1026,(⟨vbk0_0_1_1026,vbk0_0_2_1026,vbk0_0_3_1026,vbk0_0_4_1026⟩:T17),vbk0_0_5_1026,(⟨vbk0_0_6_1026,vbk0_0_7_1026,vbk0_0_8_1026⟩:T6)⟩:T7) a.Name 10).bind fun l =>
 e l.all' l.p'.Name l.p'.Roles l.p'.Messages l.p'.Body l.calls' l.out'.Protocol l.out'.Name l.out'.Err j c (w64 (d+1)))
 else e vbk0_0_0_1026 vbk0_0_1_1026 vbk0_0_2_1026 vbk0_0_3_1026 vbk0_0_4_1026 vbk0_0_5_1026 vbk0_0_6_1026 vbk0_0_7_1026 vbk0_0_8_1026 j c (w64 (d+1)))
 else none)
 else bif (d==1) then (bif (d==0) then (bif (b==0) then ((z24 N (⟨vbk0_0_0_1026,(⟨vbk0_0_1_1026,vbk0_0_2_1026,vbk0_0_3_1026,vbk0_0_4_1026⟩:T17),vbk0_0_5_1026,(⟨vbk0_0_6_1026,vbk0_0_7_1026,vbk0_0_8_1026⟩:T6)⟩:T7) a.Name 10).bind fun m =>
 e m.all' m.p'.Name m.p'.Roles m.p'.Messages m.p'.Body m.calls' m.out'.Protocol m.out'.Name m.out'.Err b j (w64 (d+1)))
 else e vbk0_0_0_1026 vbk0_0_1_1026 vbk0_0_2_1026 vbk0_0_3_1026 vbk0_0_4_1026 vbk0_0_5_1026 vbk0_0_6_1026 vbk0_0_7_1026 vbk0_0_8_1026 b j (w64 (d+1)))
 else bif (d==1) then (bif (j==0) then ((z24 N (⟨vbk0_0_0_1026,(⟨vbk0_0_1_1026,vbk0_0_2_1026,vbk0_0_3_1026,vbk0_0_4_1026⟩:T17),vbk0_0_5_1026,(⟨vbk0_0_6_1026,vbk0_0_7_1026,vbk0_0_8_1026⟩:T6)⟩:T7) a.Name 10).bind fun o =>
 e o.all' o.p'.Name o.p'.Roles o.p'.Messages o.p'.Body o.calls' o.out'.Protocol o.out'.Name o.out'.Err b j (w64 (d+1)))
 else e vbk0_0_0_1026 vbk0_0_1_1026 vbk0_0_2_1026 vbk0_0_3_1026 vbk0_0_4_1026 vbk0_0_5_1026 vbk0_0_6_1026 vbk0_0_7_1026 vbk0_0_8_1026 b j (w64 (d+1)))
 else none)
 else none
def z27_l11 (N:Nat) (a:T16) (b:Int) (c:(List T17)→ByteArray→(List ByteArray)→(List T16)→(List T15)→(List ByteArray)→ByteArray→ByteArray→Int→Int→Option T7) (d:T14):Nat→(List T17)→ByteArray→(List ByteArray)→(List T16)→(List T15)→(List ByteArray)→ByteArray→ByteArray→Int→Int→Int→Int→Option T7
 | 0,_,_,_,_,_,_,_,_,_,_,_,_=>none
 | e+1,vbk0_0_0_1026,vbk0_0_1_1026,vbk0_0_2_1026,vbk0_0_3_1026,vbk0_0_4_1026,vbk0_0_5_1026,vbk0_0_6_1026,vbk0_0_7_1026,vbk0_0_8_1026,f,g,h =>
 bif (decide (h < 2)) then (bif (h==0) then (z27_k12 N a vbk0_0_0_1026 vbk0_0_1_1026 vbk0_0_2_1026 vbk0_0_3_1026 vbk0_0_4_1026 vbk0_0_5_1026 vbk0_0_6_1026 vbk0_0_7_1026 vbk0_0_8_1026 f g h (z27_l11 N a b c d e) d.Left.Kind d.Left.Message d.Left.Field d.Left.N)
 else bif (h==1) then (z27_k12 N a vbk0_0_0_1026 vbk0_0_1_1026 vbk0_0_2_1026 vbk0_0_3_1026 vbk0_0_4_1026 vbk0_0_5_1026 vbk0_0_6_1026 vbk0_0_7_1026 vbk0_0_8_1026 f g h (z27_l11 N a b c d e) d.Right.Kind d.Right.Message d.Right.Field d.Right.N)
 else none)
 else z27_k10 N a b c d vbk0_0_0_1026 vbk0_0_1_1026 vbk0_0_2_1026 vbk0_0_3_1026 vbk0_0_4_1026 vbk0_0_5_1026 vbk0_0_6_1026 vbk0_0_7_1026 vbk0_0_8_1026 f g
def z27_l4 (N:Nat) (a:Int) (b:(List T17)→ByteArray→(List ByteArray)→(List T16)→(List T15)→(List ByteArray)→ByteArray→ByteArray→Int→Int→Option T7) (c:T16):Nat→(List T17)→ByteArray→(List ByteArray)→(List T16)→(List T15)→(List ByteArray)→ByteArray→ByteArray→Int→Int→Option T7
 | 0,_,_,_,_,_,_,_,_,_,_=>none
 | d+1,vbk0_0_0_945,vbk0_0_1_945,vbk0_0_2_945,vbk0_0_3_945,vbk0_0_4_945,vbk0_0_5_945,vbk0_0_6_945,vbk0_0_7_945,vbk0_0_8_945,e =>
 bif (decide (e < (c.Where.length:Int))) then ((idx c.Where e).bind fun f =>
 z27_l11 N c e (z27_l4 N a b c d) f N vbk0_0_0_945 vbk0_0_1_945 vbk0_0_2_945 vbk0_0_3_945 vbk0_0_4_945 vbk0_0_5_945 vbk0_0_6_945 vbk0_0_7_945 vbk0_0_8_945 0 0 0)
 else z27_k3 a b vbk0_0_0_945 vbk0_0_1_945 vbk0_0_2_945 vbk0_0_3_945 vbk0_0_4_945 vbk0_0_5_945 vbk0_0_6_945 vbk0_0_7_945 vbk0_0_8_945
def z27_l2 (N:Nat) (a:T7):Nat→(List T17)→ByteArray→(List ByteArray)→(List T16)→(List T15)→(List ByteArray)→ByteArray→ByteArray→Int→Int→Option T7
 | 0,_,_,_,_,_,_,_,_,_,_=>none
 | b+1,vbk0_0_0_516,vbk0_0_1_516,vbk0_0_2_516,vbk0_0_3_516,vbk0_0_4_516,vbk0_0_5_516,vbk0_0_6_516,vbk0_0_7_516,vbk0_0_8_516,c =>
 bif (decide (c < (a.p'.Messages.length:Int))) then ((idx a.p'.Messages c).bind fun d =>
 z27_l4 N c (z27_l2 N a b) d N vbk0_0_0_516 vbk0_0_1_516 vbk0_0_2_516 vbk0_0_3_516 vbk0_0_4_516 vbk0_0_5_516 vbk0_0_6_516 vbk0_0_7_516 vbk0_0_8_516 0)
 else z27_k1 vbk0_0_0_516 vbk0_0_1_516 vbk0_0_2_516 vbk0_0_3_516 vbk0_0_4_516 vbk0_0_5_516 vbk0_0_6_516 vbk0_0_7_516 vbk0_0_8_516
def z27 (N:Nat) (a:T7):Option T7 :=
 z27_l2 N a N a.all' a.p'.Name a.p'.Roles a.p'.Messages a.p'.Body a.calls' a.out'.Protocol a.out'.Name a.out'.Err 0
def z68_40 (N:Nat) (a:T17) (b:T17):Option Bool :=
 some (a.Name.toList==b.Name.toList)
def z53_41_k1:Option Int :=
 some (-1)
def z53_41_l2 (N:Nat) (a:(List T17)) (b:T17):Nat→Int→Option Int
 | 0,_=>none
 | c+1,d =>
 bif (decide (d < (a.length:Int))) then ((idx a d).bind fun e =>
 (z68_40 N e b).bind fun f =>
 bif f then (some d)
 else (z53_41_l2 N a b c) (w64 (d+1)))
 else z53_41_k1
def z53_41 (N:Nat) (a:(List T17)) (b:T17):Option Int :=
 z53_41_l2 N a b N 0
def z69_k1 (a:(List ByteArray)):Option (List ByteArray) :=
 some a
def z69_k3 (a:Int) (b:(List ByteArray)→Int→Option (List ByteArray)) (c:(List ByteArray)):Option (List ByteArray) :=
 b c (w64 (a+1))
def z69_l4 (rc:(List T15)→Option (List ByteArray)) (a:Int) (b:(List ByteArray)→Int→Option (List ByteArray)) (c:T15):Nat→(List ByteArray)→Int→Option (List ByteArray)
 | 0,_,_=>none
 | d+1,e,f =>
 bif (decide (f < (c.Blocks.length:Int))) then ((idx c.Blocks f).bind fun g =>
 (rc g).bind fun h =>
 (appL e h).bind fun i =>
 (z69_l4 rc a b c d) i (w64 (f+1)))
 else z69_k3 a b e
def z69_k5 (N:Nat) (rc:(List T15)→Option (List ByteArray)) (a:Int) (b:(List ByteArray)→Int→Option (List ByteArray)) (c:T15) (d:(List ByteArray)):Option (List ByteArray) :=
 z69_l4 rc a b c N d 0
def z69_l2 (N:Nat) (rc:(List T15)→Option (List ByteArray)) (a:(List T15)):Nat→(List ByteArray)→Int→Option (List ByteArray)
 | 0,_,_=>none
 | b+1,c,d =>
 bif (decide (d < (a.length:Int))) then ((idx a d).bind fun e =>
 bif (e.Kind==6) then ((appL c ([e.Name]:List ByteArray)).bind fun f =>
 z69_k5 N rc d (z69_l2 N rc a b) e f)
 else z69_k5 N rc d (z69_l2 N rc a b) e c)
 else z69_k1 c
def z69_b (N:Nat) (rc:(List T15)→Option (List ByteArray)) (a:(List T15)):Option (List ByteArray) :=
 z69_l2 N rc a N ([]:List ByteArray) 0
def z69_r:Nat→(List T15)→Option (List ByteArray)
 | 0,_=>none
 | N+1,a0=>z69_b N (z69_r N) a0
def z69 (N:Nat) (a:(List T15)):Option (List ByteArray):=z69_r N a
def z70 (N:Nat) (a:List ByteArray):Option (List ByteArray):=bif (decide ((a.length:Int)≤4611686018427387903)) then some (sortS a) else none
def z71 (N:Nat) (a:List ByteArray):Option (List ByteArray):=bif (decide ((a.length:Int)≤4611686018427387903)) then some (compS a) else none
def z74_42 (N:Nat) (a:T17) (b:ByteArray):Option Bool :=
 some (a.Name.toList==b.toList)
def z53_43_k1:Option Int :=
 some (-1)
def z53_43_l2 (N:Nat) (a:(List T17)) (b:ByteArray):Nat→Int→Option Int
 | 0,_=>none
 | c+1,d =>
 bif (decide (d < (a.length:Int))) then ((idx a d).bind fun e =>
 (z74_42 N e b).bind fun f =>
 bif f then (some d)
 else (z53_43_l2 N a b c) (w64 (d+1)))
 else z53_43_k1
def z53_43 (N:Nat) (a:(List T17)) (b:ByteArray):Option Int :=
 z53_43_l2 N a b N 0
def z22_44 (N:Nat) (a:(List T17)) (b:ByteArray):Option Bool :=
 (z53_43 N a b).bind fun c =>
 some (decide (c≥0))
def z73_45 (N:Nat) (a:ByteArray) (b:T7):Option Bool :=
 (z22_44 N b.all' a).bind fun c =>
 some (!c)
def z131_46_k1:Option Int :=
 some (-1)
def z131_46_l2 (N:Nat) (a:(List ByteArray)) (b:T7):Nat→Int→Option Int
 | 0,_=>none
 | c+1,d =>
 bif (decide (d < (a.length:Int))) then ((idx a d).bind fun e =>
 (z73_45 N e b).bind fun f =>
 bif f then (some d)
 else (z131_46_l2 N a b c) (w64 (d+1)))
 else z131_46_k1
def z131_46 (N:Nat) (a:(List ByteArray)) (b:T7):Option Int :=
 z131_46_l2 N a b N 0
def z72_47_k1 (a:(List ByteArray)) (b:Int):Option (List ByteArray) :=
 (lsl a (some b) none).bind fun c =>
 (clL (str []) a (some b) none).bind fun d =>
 (lsl d none (some b)).bind fun e =>
 some e
def z72_47_l2 (N:Nat) (a:T7):Nat→(List ByteArray)→Int→Int→Option (List ByteArray)
 | 0,_,_,_=>none
 | b+1,c,d,e =>
 bif (decide (e < (c.length:Int))) then ((idx c e).bind fun f =>
 (z73_45 N f a).bind fun g =>
 bif (!g) then ((idx c d).bind fun h =>
 (z72_47_l2 N a b) (setL' c d f) (w64 (d+1)) (w64 (e+1)))
 else (z72_47_l2 N a b) c d (w64 (e+1)))
 else z72_47_k1 c d
def z72_47 (N:Nat) (a:(List ByteArray)) (b:T7):Option (List ByteArray) :=
 (z131_46 N a b).bind fun c =>
 bif (c==(-1)) then (some a)
 else z72_47_l2 N b N a c (w64 (c+1))
def z29_k1 (N:Nat) (a:T7) (b:(List ByteArray)):Option T7 :=
 bif (decide ((b.length:Int) > 0)) then ((z24 N a a.p'.Name 6).bind fun c =>
 some c)
 else some a
def z29_k3 (N:Nat) (a:T7) (b:Int) (c:(List ByteArray)→Int→Option T7) (d:(List ByteArray)):Option T7 :=
 (z70 N d).bind fun e =>
 (z71 N e).bind fun f =>
 (z72_47 N f a).bind fun g =>
 c g (w64 (b+1))
def z29_l4 (N:Nat) (a:T7) (b:(List ByteArray)) (c:Int) (d:(List ByteArray)→Int→Option T7):Nat→(List ByteArray)→Int→Option T7
 | 0,_,_=>none
 | e+1,f,g =>
 bif (decide (g < (a.all'.length:Int))) then ((idx a.all' g).bind fun h =>
 (z53_41 N a.all' h).bind fun i =>
 bif (i==g) then ((z54 N b h.Name).bind fun j =>
 bif j then ((z69 N h.Body).bind fun k =>
 (appL f k).bind fun l =>
 (z29_l4 N a b c d e) l (w64 (g+1)))
 else (z29_l4 N a b c d e) f (w64 (g+1)))
 else (z29_l4 N a b c d e) f (w64 (g+1)))
 else z29_k3 N a c d f
def z29_l2 (N:Nat) (a:T7):Nat→(List ByteArray)→Int→Option T7
 | 0,_,_=>none
 | b+1,c,d =>
 bif (decide (d < 5)) then (z29_l4 N a c d (z29_l2 N a b) N ([]:List ByteArray) 0)
 else z29_k1 N a c
def z29 (N:Nat) (a:T7):Option T7 :=
 z29_l2 N a N ([a.p'.Name]:List ByteArray) 0
def z13_k1:Option T6 :=
 some (⟨(str []),(str []),0⟩:T6)
def z13_k3 (N:Nat) (a:Int) (b:Int→Option T6) (c:T17) (d:(List T17)) (e:ByteArray) (f:(List ByteArray)) (g:(List T16)) (h:(List T15)) (i:(List ByteArray)) (j:ByteArray) (k:ByteArray) (l:Int):Option T6 :=
 (z26 N (⟨d,(⟨e,f,g,h⟩:T17),i,(⟨j,k,l⟩:T6)⟩:T7)).bind fun m =>
 (z27 N m).bind fun o =>
 (z28 N o c.Body ([]:List T8)).bind fun p =>
 (z29 N p).bind fun q =>
 bif (q.out'.Err != 0) then (some q.out')
 else b (w64 (a+1))
def z13_l4 (N:Nat) (a:Int) (b:Int→Option T6) (c:T17):Nat→(List T17)→ByteArray→(List ByteArray)→(List T16)→(List T15)→(List ByteArray)→ByteArray→ByteArray→Int→Int→Option T6
 | 0,_,_,_,_,_,_,_,_,_,_=>none
 | d+1,e,f,g,h,i,j,k,l,m,o =>
 bif (decide (o < (c.Roles.length:Int))) then ((z25 N c.Roles o).bind fun p =>
 bif p then ((idx c.Roles o).bind fun q =>
 (z24 N (⟨e,(⟨f,g,h,i⟩:T17),j,(⟨k,l,m⟩:T6)⟩:T7) q 9).bind fun r =>
 (z13_l4 N a b c d) r.all' r.p'.Name r.p'.Roles r.p'.Messages r.p'.Body r.calls' r.out'.Protocol r.out'.Name r.out'.Err (w64 (o+1)))
 else (z13_l4 N a b c d) e f g h i j k l m (w64 (o+1)))
 else z13_k3 N a b c e f g h i j k l m
def z13_k5 (N:Nat) (a:Int) (b:Int→Option T6) (c:T17) (d:(List T17)) (e:ByteArray) (f:(List ByteArray)) (g:(List T16)) (h:(List T15)) (i:(List ByteArray)) (j:ByteArray) (k:ByteArray) (l:Int):Option T6 :=
 z13_l4 N a b c N d e f g h i j k l 0
def z13_l2 (N:Nat) (a:(List T17)):Nat→Int→Option T6
 | 0,_=>none
 | b+1,c =>
 bif (decide (c < (a.length:Int))) then ((idx a c).bind fun d =>
 (lsl a none (some c)).bind fun e =>
 (z22_19 N e d).bind fun f =>
 bif f then ((z24 N (⟨a,d,([]:List ByteArray),(⟨(str []),(str []),0⟩:T6)⟩:T7) d.Name 9).bind fun g =>
 z13_k5 N c (z13_l2 N a b) d g.all' g.p'.Name g.p'.Roles g.p'.Messages g.p'.Body g.calls' g.out'.Protocol g.out'.Name g.out'.Err)
 else z13_k5 N c (z13_l2 N a b) d a d.Name d.Roles d.Messages d.Body ([]:List ByteArray) (str []) (str []) 0)
 else z13_k1
def z13 (N:Nat) (a:(List T17)):Option T6 :=
 (z18 N a).bind fun b =>
 bif (!b) then (some (⟨(str []),(str []),1⟩:T6))
 else z13_l2 N a N 0
def z93_k1 (a:(List ByteArray)):Option (List ByteArray) :=
 some a
def z93_k3 (a:Int) (b:(List ByteArray)→Int→Option (List ByteArray)) (c:(List ByteArray)):Option (List ByteArray) :=
 b c (w64 (a+1))
def z93_l4 (rc:(List T15)→(List ByteArray)→Option (List ByteArray)) (a:Int) (b:(List ByteArray)→Int→Option (List ByteArray)) (c:T15):Nat→(List ByteArray)→Int→Option (List ByteArray)
 | 0,_,_=>none
 | d+1,e,f =>
 bif (decide (f < (c.Blocks.length:Int))) then ((idx c.Blocks f).bind fun g =>
 (rc g e).bind fun h =>
 (z93_l4 rc a b c d) h (w64 (f+1)))
 else z93_k3 a b e
def z93_k5 (N:Nat) (rc:(List T15)→(List ByteArray)→Option (List ByteArray)) (a:Int) (b:(List ByteArray)→Int→Option (List ByteArray)) (c:T15) (d:(List ByteArray)):Option (List ByteArray) :=
 z93_l4 rc a b c N d 0
def z93_k6 (N:Nat) (rc:(List T15)→(List ByteArray)→Option (List ByteArray)) (a:Int) (b:(List ByteArray)→Int→Option (List ByteArray)) (c:T15) (d:(List ByteArray)) (e:Bool):Option (List ByteArray) :=
 bif e then ((appL d c.To).bind fun f =>
 z93_k5 N rc a b c f)
 else z93_k5 N rc a b c d
def z93_k7 (N:Nat) (rc:(List T15)→(List ByteArray)→Option (List ByteArray)) (a:Int) (b:(List ByteArray)→Int→Option (List ByteArray)) (c:T15) (d:(List ByteArray)):Option (List ByteArray) :=
 bif (c.Kind==1) then (z93_k6 N rc a b c d true)
 else z93_k6 N rc a b c d (c.Kind==6)
def z93_k8 (N:Nat) (rc:(List T15)→(List ByteArray)→Option (List ByteArray)) (a:(List ByteArray)) (b:Int) (c:(List ByteArray)→Int→Option (List ByteArray)) (d:T15) (e:Bool):Option (List ByteArray) :=
 bif e then ((appL a ([d.From]:List ByteArray)).bind fun f =>
 z93_k7 N rc b c d f)
 else z93_k7 N rc b c d a
def z93_l2 (N:Nat) (rc:(List T15)→(List ByteArray)→Option (List ByteArray)) (a:(List T15)):Nat→(List ByteArray)→Int→Option (List ByteArray)
 | 0,_,_=>none
 | b+1,c,d =>
 bif (decide (d < (a.length:Int))) then ((idx a d).bind fun e =>
 bif (e.Kind==1) then (z93_k8 N rc c d (z93_l2 N rc a b) e true)
 else z93_k8 N rc c d (z93_l2 N rc a b) e (e.Kind==2))
 else z93_k1 c
def z93_b (N:Nat) (rc:(List T15)→(List ByteArray)→Option (List ByteArray)) (a:(List T15)) (b:(List ByteArray)):Option (List ByteArray) :=
 z93_l2 N rc a N b 0
def z93_r:Nat→(List T15)→(List ByteArray)→Option (List ByteArray)
 | 0,_,_=>none
 | N+1,a0,a1=>z93_b N (z93_r N) a0 a1
def z93 (N:Nat) (a:(List T15)) (b:(List ByteArray)):Option (List ByteArray):=z93_r N a b
def z35_k1 (a:(List ByteArray)):Option (List ByteArray) :=
 some a
def z35_l2 (N:Nat) (a:(List ByteArray)) (b:(List ByteArray)):Nat→(List ByteArray)→Int→Option (List ByteArray)
 | 0,_,_=>none
 | c+1,d,e =>
 bif (decide (e < (a.length:Int))) then ((idx a e).bind fun f =>
 (z54 N b f).bind fun g =>
 bif g then ((appL d ([f]:List ByteArray)).bind fun h =>
 (z35_l2 N a b c) h (w64 (e+1)))
 else (z35_l2 N a b c) d (w64 (e+1)))
 else z35_k1 d
def z35 (N:Nat) (a:(List ByteArray)) (b:(List T15)):Option (List ByteArray) :=
 (z93 N b ([]:List ByteArray)).bind fun c =>
 z35_l2 N a c N ([]:List ByteArray) 0
def z34_48_k1 (a:(List (ByteArray × Bool))):Option (Bool × (List (ByteArray × Bool))) :=
 some (true,a)
def z34_48_k3 (a:Int) (b:(List (ByteArray × Bool))→Int→Option (Bool × (List (ByteArray × Bool)))) (c:(List (ByteArray × Bool))):Option (Bool × (List (ByteArray × Bool))) :=
 b c (w64 (a+1))
def z34_48_k5 (rd:(List T15)→T2→(List (ByteArray × Bool))→T17→Option (Bool × (List (ByteArray × Bool)))) (a:T2) (b:T17) (c:(List (ByteArray × Bool))) (d:Int) (e:(List (ByteArray × Bool))→(List (ByteArray × Bool))→Int→Option (Bool × (List (ByteArray × Bool)))) (f:(List T15)) (g:(List (ByteArray × Bool))):Option (Bool × (List (ByteArray × Bool))) :=
 (rd f a c b).bind fun h =>
 bif (!h.1) then (some (false,h.2))
 else e h.2 g (w64 (d+1))
def z34_48_l6 (rd:(List T15)→T2→(List (ByteArray × Bool))→T17→Option (Bool × (List (ByteArray × Bool)))) (a:T2) (b:T17) (c:(List (ByteArray × Bool))) (d:Int) (e:(List (ByteArray × Bool))→(List (ByteArray × Bool))→Int→Option (Bool × (List (ByteArray × Bool)))) (f:(List T15)) (g:(List ByteArray)):Nat→(List (ByteArray × Bool))→Int→Option (Bool × (List (ByteArray × Bool)))
 | 0,_,_=>none
 | h+1,i,j =>
 bif (decide (j < (g.length:Int))) then ((idx g j).bind fun k =>
 (some ((mget i k).getD false)).bind fun l =>
 bif l then (some (false,c))
 else (z34_48_l6 rd a b c d e f g h) (mput i k true) (w64 (j+1)))
 else z34_48_k5 rd a b c d e f i
def z34_48_l4 (N:Nat) (rd:(List T15)→T2→(List (ByteArray × Bool))→T17→Option (Bool × (List (ByteArray × Bool)))) (a:T2) (b:T17) (c:Int) (d:(List (ByteArray × Bool))→Int→Option (Bool × (List (ByteArray × Bool)))) (e:T15):Nat→(List (ByteArray × Bool))→(List (ByteArray × Bool))→Int→Option (Bool × (List (ByteArray × Bool)))
 | 0,_,_,_=>none
 | f+1,g,h,i =>
 bif (decide (i < (e.Blocks.length:Int))) then ((idx e.Blocks i).bind fun j =>
 bif (e.Kind==5) then ((z35 N b.Roles j).bind fun k =>
 z34_48_l6 rd a b g i (z34_48_l4 N rd a b c d e f) j k N h 0)
 else (rd j a g b).bind fun l =>
 bif (!l.1) then (some (false,l.2))
 else (z34_48_l4 N rd a b c d e f) l.2 h (w64 (i+1)))
 else z34_48_k3 c d g
def z34_48_k7 (N:Nat) (rd:(List T15)→T2→(List (ByteArray × Bool))→T17→Option (Bool × (List (ByteArray × Bool)))) (a:T2) (b:T17) (c:Int) (d:(List (ByteArray × Bool))→Int→Option (Bool × (List (ByteArray × Bool)))) (e:T15) (f:(List (ByteArray × Bool))) (g:Bool):Option (Bool × (List (ByteArray × Bool))) :=
 bif g then (some (false,f))
 else z34_48_l4 N rd a b c d e N f ([]:(List (ByteArray × Bool))) 0
def z34_48_l2 (N:Nat) (rc:T2→ByteArray→(List (ByteArray × Bool))→Option (Bool × (List (ByteArray × Bool)))) (rd:(List T15)→T2→(List (ByteArray × Bool))→T17→Option (Bool × (List (ByteArray × Bool)))) (a:(List T15)) (b:T2) (c:T17):Nat→(List (ByteArray × Bool))→Int→Option (Bool × (List (ByteArray × Bool)))
 | 0,_,_=>none
 | d+1,e,f =>
 bif (decide (f < (a.length:Int))) then ((idx a f).bind fun g =>
 bif (g.Kind==6) then ((rc b g.Name e).bind fun h =>
 z34_48_k7 N rd b c f (z34_48_l2 N rc rd a b c d) g h.2 (!h.1))
 else z34_48_k7 N rd b c f (z34_48_l2 N rc rd a b c d) g e false)
 else z34_48_k1 e
def z34_48_b (N:Nat) (rc:T2→ByteArray→(List (ByteArray × Bool))→Option (Bool × (List (ByteArray × Bool)))) (rd:(List T15)→T2→(List (ByteArray × Bool))→T17→Option (Bool × (List (ByteArray × Bool)))) (a:(List T15)) (b:T2) (c:(List (ByteArray × Bool))) (d:T17):Option (Bool × (List (ByteArray × Bool))) :=
 z34_48_l2 N rc rd a b d N c 0
def z34_48_r (rc:T2→ByteArray→(List (ByteArray × Bool))→Option (Bool × (List (ByteArray × Bool)))):Nat→(List T15)→T2→(List (ByteArray × Bool))→T17→Option (Bool × (List (ByteArray × Bool)))
 | 0,_,_,_,_=>none
 | N+1,a0,a1,a2,a3=>z34_48_b N rc (z34_48_r rc N) a0 a1 a2 a3
def z34_48 (N:Nat) (rc:T2→ByteArray→(List (ByteArray × Bool))→Option (Bool × (List (ByteArray × Bool)))) (a:(List T15)) (b:T2) (c:(List (ByteArray × Bool))) (d:T17):Option (Bool × (List (ByteArray × Bool))):=z34_48_r rc N a b c d
def z16_b (N:Nat) (rc:T2→ByteArray→(List (ByteArray × Bool))→Option (Bool × (List (ByteArray × Bool)))) (a:T2) (b:ByteArray) (c:(List (ByteArray × Bool))):Option (Bool × (List (ByteArray × Bool))) :=
 (some ((mget c b).getD false)).bind fun d =>
 bif d then (some (true,c))
 else (some ((mget a.all' b).getD (⟨(str []),([]:List ByteArray),([]:List T16),([]:List T15)⟩:T17))).bind fun e =>
 (z34_48 N rc e.Body a (mput c b true) e).bind fun f =>
 some (f.1,f.2)
def z16_r:Nat→T2→ByteArray→(List (ByteArray × Bool))→Option (Bool × (List (ByteArray × Bool)))
 | 0,_,_,_=>none
 | N+1,a0,a1,a2=>z16_b N (z16_r N) a0 a1 a2
def z16 (N:Nat) (a:T2) (b:ByteArray) (c:(List (ByteArray × Bool))):Option (Bool × (List (ByteArray × Bool))):=z16_r N a b c
def z36 (N:Nat) (a:(List ByteArray)):Option (List ByteArray) :=
 (appL ([]:List ByteArray) a).bind fun b =>
 some b
def z95 (N:Nat) (a:(List T0)):Option (List T0) :=
 (appL ([]:List T0) a).bind fun b =>
 some b
def z94_49 (N:Nat) (a:T18) (b:T3):Option T18 :=
 bif (!(a.Message.toList==(str []).toList)) then ((catS b.head' a.Message).bind fun c =>
 some (⟨a.Kind,c,a.Field,a.N⟩:T18))
 else some a
def z37_k1 (a:(List T16)):Option (List T16) :=
 some a
def z37_k3 (a:(List T16)) (b:Int) (c:(List T16)→Int→Option (List T16)) (d:ByteArray) (e:(List T0)) (f:(List T14)):Option (List T16) :=
 (appL a ([(⟨d,e,f⟩:T16)]:List T16)).bind fun g =>
 c g (w64 (b+1))
def z37_l4 (N:Nat) (a:T3) (b:(List T16)) (c:Int) (d:(List T16)→Int→Option (List T16)) (e:T16) (f:ByteArray) (g:(List T0)):Nat→(List T14)→Int→Option (List T16)
 | 0,_,_=>none
 | h+1,i,j =>
 bif (decide (j < (e.Where.length:Int))) then ((idx e.Where j).bind fun k =>
 (z94_49 N k.Left a).bind fun l =>
 (z94_49 N k.Right a).bind fun m =>
 (appL i ([(⟨l,k.Op,m⟩:T14)]:List T14)).bind fun o =>
 (z37_l4 N a b c d e f g h) o (w64 (j+1)))
 else z37_k3 b c d f g i
def z37_l2 (N:Nat) (a:T3) (b:(List T16)):Nat→(List T16)→Int→Option (List T16)
 | 0,_,_=>none
 | c+1,d,e =>
 bif (decide (e < (b.length:Int))) then ((idx b e).bind fun f =>
 (catS a.head' f.Name).bind fun g =>
 (z95 N f.Fields).bind fun h =>
 z37_l4 N a d e (z37_l2 N a b c) f g h N ([]:List T14) 0)
 else z37_k1 d
def z37 (N:Nat) (a:T3) (b:(List T16)):Option (List T16) :=
 z37_l2 N a b N ([]:List T16) 0
def z96 (N:Nat) (a:T3) (b:ByteArray):Option ByteArray :=
 (some ((mget a.roles' b).getD (str []))).bind fun c =>
 bif (mget a.roles' b).isSome then (some c)
 else some b
def z39_k1 (a:(List T15)):Option (List T15) :=
 some a
def z39_k3 (a:(List T15)) (b:Int) (c:(List T15)→Int→Option (List T15)) (d:T15) (e:ByteArray) (f:(List ByteArray)) (g:ByteArray) (h:(List (List T15))):Option (List T15) :=
 (appL a ([(⟨d.Kind,e,f,g,d.As,d.Ticks,h⟩:T15)]:List T15)).bind fun i =>
 c i (w64 (b+1))
def z39_l4 (rc:T3→(List T15)→Option (List T15)) (a:T3) (b:(List T15)) (c:Int) (d:(List T15)→Int→Option (List T15)) (e:T15) (f:ByteArray) (g:(List ByteArray)) (h:ByteArray):Nat→(List (List T15))→Int→Option (List T15)
 | 0,_,_=>none
 | i+1,j,k =>
 bif (decide (k < (e.Blocks.length:Int))) then ((idx e.Blocks k).bind fun l =>
 (rc a l).bind fun m =>
 (appL j ([m]:List (List T15))).bind fun o =>
 (z39_l4 rc a b c d e f g h i) o (w64 (k+1)))
 else z39_k3 b c d e f g h j
def z39_k5 (N:Nat) (rc:T3→(List T15)→Option (List T15)) (a:T3) (b:(List T15)) (c:Int) (d:(List T15)→Int→Option (List T15)) (e:T15) (f:ByteArray) (g:(List ByteArray)) (h:ByteArray):Option (List T15) :=
 z39_l4 rc a b c d e f g h N ([]:List (List T15)) 0
def z39_k6 (N:Nat) (rc:T3→(List T15)→Option (List T15)) (a:T3) (b:(List T15)) (c:Int) (d:(List T15)→Int→Option (List T15)) (e:T15) (f:ByteArray) (g:(List ByteArray)) (h:Bool):Option (List T15) :=
 bif h then ((catS a.head' e.Name).bind fun i =>
 z39_k5 N rc a b c d e f g i)
 else z39_k5 N rc a b c d e f g e.Name
def z39_k7 (N:Nat) (rc:T3→(List T15)→Option (List T15)) (a:T3) (b:(List T15)) (c:Int) (d:(List T15)→Int→Option (List T15)) (e:T15) (f:ByteArray) (g:(List ByteArray)):Option (List T15) :=
 bif (e.Kind==1) then (z39_k6 N rc a b c d e f g true)
 else bif (e.Kind==3) then (z39_k6 N rc a b c d e f g true)
 else z39_k6 N rc a b c d e f g (e.Kind==4)
def z39_l8 (N:Nat) (rc:T3→(List T15)→Option (List T15)) (a:T3) (b:(List T15)) (c:Int) (d:(List T15)→Int→Option (List T15)) (e:T15) (f:ByteArray):Nat→(List ByteArray)→Int→Option (List T15)
 | 0,_,_=>none
 | g+1,h,i =>
 bif (decide (i < (e.To.length:Int))) then ((idx e.To i).bind fun j =>
 (z96 N a j).bind fun k =>
 (appL h ([k]:List ByteArray)).bind fun l =>
 (z39_l8 N rc a b c d e f g) l (w64 (i+1)))
 else z39_k7 N rc a b c d e f h
def z39_k9 (N:Nat) (rc:T3→(List T15)→Option (List T15)) (a:T3) (b:(List T15)) (c:Int) (d:(List T15)→Int→Option (List T15)) (e:T15) (f:ByteArray):Option (List T15) :=
 z39_l8 N rc a b c d e f N ([]:List ByteArray) 0
def z39_l2 (N:Nat) (rc:T3→(List T15)→Option (List T15)) (a:T3) (b:(List T15)):Nat→(List T15)→Int→Option (List T15)
 | 0,_,_=>none
 | c+1,d,e =>
 bif (decide (e < (b.length:Int))) then ((idx b e).bind fun f =>
 bif (!(f.From.toList==(str []).toList)) then ((z96 N a f.From).bind fun g =>
 z39_k9 N rc a d e (z39_l2 N rc a b c) f g)
 else z39_k9 N rc a d e (z39_l2 N rc a b c) f f.From)
 else z39_k1 d
def z39_b (N:Nat) (rc:T3→(List T15)→Option (List T15)) (a:T3) (b:(List T15)):Option (List T15) :=
 z39_l2 N rc a b N ([]:List T15) 0
def z39_r:Nat→T3→(List T15)→Option (List T15)
 | 0,_,_=>none
 | N+1,a0,a1=>z39_b N (z39_r N) a0 a1
def z39 (N:Nat) (a:T3) (b:(List T15)):Option (List T15):=z39_r N a b
def z40_k1 (a:Int):Option Int :=
 some a
def z40_k3 (a:Int) (b:Int→Int→Option Int) (c:Int):Option Int :=
 b c (w64 (a+1))
def z40_l4 (rc:(List T15)→Option Int) (a:Int) (b:Int→Int→Option Int) (c:T15):Nat→Int→Int→Option Int
 | 0,_,_=>none
 | d+1,e,f =>
 bif (decide (f < (c.Blocks.length:Int))) then ((idx c.Blocks f).bind fun g =>
 (rc g).bind fun h =>
 (z40_l4 rc a b c d) (w64 (e+h)) (w64 (f+1)))
 else z40_k3 a b e
def z40_l2 (N:Nat) (rc:(List T15)→Option Int) (a:(List T15)):Nat→Int→Int→Option Int
 | 0,_,_=>none
 | b+1,c,d =>
 bif (decide (d < (a.length:Int))) then ((idx a d).bind fun e =>
 z40_l4 rc d (z40_l2 N rc a b) e N c 0)
 else z40_k1 c
def z40_b (N:Nat) (rc:(List T15)→Option Int) (a:(List T15)):Option Int :=
 z40_l2 N rc a N (a.length:Int) 0
def z40_r:Nat→(List T15)→Option Int
 | 0,_=>none
 | N+1,a0=>z40_b N (z40_r N) a0
def z40 (N:Nat) (a:(List T15)):Option Int:=z40_r N a
def z38_50_k1 (a:(List (ByteArray × T17))) (b:(List (ByteArray × T17))) (vbk5_5_0_1:Bool) (vbk6_6_0_1:ByteArray) (vbk6_6_1_1:(List ByteArray)) (vbk6_6_2_1:(List T16)) (vbk6_6_3_1:(List T15)) (c:(List T15)):Option ((List T15) × T2 × Bool × T17) :=
 some (c,(⟨a,b⟩:T2),vbk5_5_0_1,(⟨vbk6_6_0_1,vbk6_6_1_1,vbk6_6_2_1,vbk6_6_3_1⟩:T17))
def z38_50_k3 (N:Nat) (a:Int) (b:(List (ByteArray × T17))→(List (ByteArray × T17))→Bool→ByteArray→(List ByteArray)→(List T16)→(List T15)→(List T15)→Int→Option ((List T15) × T2 × Bool × T17)) (c:(List (ByteArray × T17))) (d:(List (ByteArray × T17))) (vbk5_5_0_109:Bool) (vbk6_6_0_109:ByteArray) (vbk6_6_1_109:(List ByteArray)) (vbk6_6_2_109:(List T16)) (vbk6_6_3_109:(List T15)) (e:(List T15)):Option ((List T15) × T2 × Bool × T17) :=
 (z40 N e).bind fun f =>
 bif (decide (f > 300)) then (some (([]:List T15),(⟨c,d⟩:T2),false,(⟨vbk6_6_0_109,vbk6_6_1_109,vbk6_6_2_109,vbk6_6_3_109⟩:T17)))
 else bif (decide ((vbk6_6_2_109.length:Int) > 40)) then (some (([]:List T15),(⟨c,d⟩:T2),false,(⟨vbk6_6_0_109,vbk6_6_1_109,vbk6_6_2_109,vbk6_6_3_109⟩:T17)))
 else bif (!vbk5_5_0_109) then (some (([]:List T15),(⟨c,d⟩:T2),vbk5_5_0_109,(⟨vbk6_6_0_109,vbk6_6_1_109,vbk6_6_2_109,vbk6_6_3_109⟩:T17)))
 else b c d vbk5_5_0_109 vbk6_6_0_109 vbk6_6_1_109 vbk6_6_2_109 vbk6_6_3_109 e (w64 (a+1))
def z38_50_k4 (N:Nat) (vbk6_6_0_66:ByteArray) (vbk6_6_1_66:(List ByteArray)) (vbk6_6_2_66:(List T16)) (vbk6_6_3_66:(List T15)) (a:(List T15)) (b:Int) (c:(List (ByteArray × T17))→(List (ByteArray × T17))→Bool→ByteArray→(List ByteArray)→(List T16)→(List T15)→(List T15)→Int→Option ((List T15) × T2 × Bool × T17)) (d:T17 × Bool × T2) (vbk5_5_0_120:Bool) (e:ByteArray) (f:(List (ByteArray × ByteArray))):Option ((List T15) × T2 × Bool × T17) :=
 (z37 N (⟨f,e⟩:T3) d.1.Messages).bind fun g =>
 (appL vbk6_6_2_66 g).bind fun h =>
 (z39 N (⟨f,e⟩:T3) d.1.Body).bind fun i =>
 (appL a i).bind fun j =>
 z38_50_k3 N b c d.2.2.all' d.2.2.done' vbk5_5_0_120 vbk6_6_0_66 vbk6_6_1_66 h vbk6_6_3_66 j
def z38_50_l5 (N:Nat) (vbk6_6_0_66:ByteArray) (vbk6_6_1_66:(List ByteArray)) (vbk6_6_2_66:(List T16)) (vbk6_6_3_66:(List T15)) (a:(List T15)) (b:Int) (c:(List (ByteArray × T17))→(List (ByteArray × T17))→Bool→ByteArray→(List ByteArray)→(List T16)→(List T15)→(List T15)→Int→Option ((List T15) × T2 × Bool × T17)) (d:T15) (e:T17 × Bool × T2) (vbk5_5_0_120:Bool) (f:ByteArray):Nat→(List (ByteArray × ByteArray))→Int→Option ((List T15) × T2 × Bool × T17)
 | 0,_,_=>none
 | g+1,h,i =>
 bif (decide (i < (e.1.Roles.length:Int))) then ((idx e.1.Roles i).bind fun j =>
 (idx d.To i).bind fun k =>
 (z38_50_l5 N vbk6_6_0_66 vbk6_6_1_66 vbk6_6_2_66 vbk6_6_3_66 a b c d e vbk5_5_0_120 f g) (mput h j k) (w64 (i+1)))
 else z38_50_k4 N vbk6_6_0_66 vbk6_6_1_66 vbk6_6_2_66 vbk6_6_3_66 a b c e vbk5_5_0_120 f h
def z38_50_k6 (N:Nat) (vbk6_6_0_66:ByteArray) (vbk6_6_1_66:(List ByteArray)) (vbk6_6_2_66:(List T16)) (vbk6_6_3_66:(List T15)) (a:(List T15)) (b:Int) (c:(List (ByteArray × T17))→(List (ByteArray × T17))→Bool→ByteArray→(List ByteArray)→(List T16)→(List T15)→(List T15)→Int→Option ((List T15) × T2 × Bool × T17)) (d:T15) (e:T17 × Bool × T2) (vbk5_5_0_120:Bool):Option ((List T15) × T2 × Bool × T17) :=
 bif (!vbk5_5_0_120) then (some (([]:List T15),e.2.2,vbk5_5_0_120,(⟨vbk6_6_0_66,vbk6_6_1_66,vbk6_6_2_66,vbk6_6_3_66⟩:T17)))
 else (catS d.As (str [46])).bind fun f =>
 z38_50_l5 N vbk6_6_0_66 vbk6_6_1_66 vbk6_6_2_66 vbk6_6_3_66 a b c d e vbk5_5_0_120 f N ([]:(List (ByteArray × ByteArray))) 0
def z38_50_k7 (N:Nat) (a:Int) (b:(List (ByteArray × T17))→(List (ByteArray × T17))→Bool→ByteArray→(List ByteArray)→(List T16)→(List T15)→(List T15)→Int→Option ((List T15) × T2 × Bool × T17)) (c:(List (ByteArray × T17))) (d:(List (ByteArray × T17))) (vbk5_5_0_124:Bool) (vbk6_6_0_124:ByteArray) (vbk6_6_1_124:(List ByteArray)) (vbk6_6_2_124:(List T16)) (vbk6_6_3_124:(List T15)) (e:(List T15)):Option ((List T15) × T2 × Bool × T17) :=
 z38_50_k3 N a b c d vbk5_5_0_124 vbk6_6_0_124 vbk6_6_1_124 vbk6_6_2_124 vbk6_6_3_124 e
def z38_50_l8 (N:Nat) (rd:(List T15)→T2→Bool→T17→Option ((List T15) × T2 × Bool × T17)) (a:Int) (b:(List (ByteArray × T17))→(List (ByteArray × T17))→Bool→ByteArray→(List ByteArray)→(List T16)→(List T15)→(List T15)→Int→Option ((List T15) × T2 × Bool × T17)) (c:T15):Nat→(List (ByteArray × T17))→(List (ByteArray × T17))→Bool→ByteArray→(List ByteArray)→(List T16)→(List T15)→(List T15)→Int→Option ((List T15) × T2 × Bool × T17)
 | 0,_,_,_,_,_,_,_,_,_=>none
 | d+1,e,f,vbk5_5_0_126,vbk6_6_0_126,vbk6_6_1_126,vbk6_6_2_126,vbk6_6_3_126,g,h =>
 bif (decide (h < (c.Blocks.length:Int))) then ((idx c.Blocks h).bind fun i =>
 (rd i (⟨e,f⟩:T2) vbk5_5_0_126 (⟨vbk6_6_0_126,vbk6_6_1_126,vbk6_6_2_126,vbk6_6_3_126⟩:T17)).bind fun j =>
 (appL g j.1).bind fun k =>
 (z38_50_l8 N rd a b c d) j.2.1.all' j.2.1.done' j.2.2.1 j.2.2.2.Name j.2.2.2.Roles j.2.2.2.Messages j.2.2.2.Body k (w64 (h+1)))
 else z38_50_k7 N a b e f vbk5_5_0_126 vbk6_6_0_126 vbk6_6_1_126 vbk6_6_2_126 vbk6_6_3_126 g
def z38_50_k9 (N:Nat) (a:(List T15)) (b:Int) (c:(List (ByteArray × T17))→(List (ByteArray × T17))→Bool→ByteArray→(List ByteArray)→(List T16)→(List T15)→(List T15)→Int→Option ((List T15) × T2 × Bool × T17)) (d:T15) (e:(List ByteArray)) (f:(List (ByteArray × T17))) (g:(List (ByteArray × T17))) (vbk5_5_0_127:Bool) (vbk6_6_0_127:ByteArray) (vbk6_6_1_127:(List ByteArray)) (vbk6_6_2_127:(List T16)) (vbk6_6_3_127:(List T15)) (h:(List (List T15))):Option ((List T15) × T2 × Bool × T17) :=
 (appL a ([(⟨d.Kind,d.From,e,d.Name,d.As,d.Ticks,h⟩:T15)]:List T15)).bind fun i =>
 z38_50_k3 N b c f g vbk5_5_0_127 vbk6_6_0_127 vbk6_6_1_127 vbk6_6_2_127 vbk6_6_3_127 i
def z38_50_l10 (N:Nat) (rd:(List T15)→T2→Bool→T17→Option ((List T15) × T2 × Bool × T17)) (a:(List T15)) (b:Int) (c:(List (ByteArray × T17))→(List (ByteArray × T17))→Bool→ByteArray→(List ByteArray)→(List T16)→(List T15)→(List T15)→Int→Option ((List T15) × T2 × Bool × T17)) (d:T15) (e:(List ByteArray)):Nat→(List (ByteArray × T17))→(List (ByteArray × T17))→Bool→ByteArray→(List ByteArray)→(List T16)→(List T15)→(List (List T15))→Int→Option ((List T15) × T2 × Bool × T17)
 | 0,_,_,_,_,_,_,_,_,_=>none
 | f+1,g,h,vbk5_5_0_129,vbk6_6_0_129,vbk6_6_1_129,vbk6_6_2_129,vbk6_6_3_129,i,j =>
 bif (decide (j < (d.Blocks.length:Int))) then ((idx d.Blocks j).bind fun k =>
 (rd k (⟨g,h⟩:T2) vbk5_5_0_129 (⟨vbk6_6_0_129,vbk6_6_1_129,vbk6_6_2_129,vbk6_6_3_129⟩:T17)).bind fun l =>
 (appL i ([l.1]:List (List T15))).bind fun m =>
 (z38_50_l10 N rd a b c d e f) l.2.1.all' l.2.1.done' l.2.2.1 l.2.2.2.Name l.2.2.2.Roles l.2.2.2.Messages l.2.2.2.Body m (w64 (j+1)))
 else z38_50_k9 N a b c d e g h vbk5_5_0_129 vbk6_6_0_129 vbk6_6_1_129 vbk6_6_2_129 vbk6_6_3_129 i
def z38_50_l2 (N:Nat) (rc:T2→ByteArray→Option (T17 × Bool × T2)) (rd:(List T15)→T2→Bool→T17→Option ((List T15) × T2 × Bool × T17)) (a:(List T15)):Nat→(List (ByteArray × T17))→(List (ByteArray × T17))→Bool→ByteArray→(List ByteArray)→(List T16)→(List T15)→(List T15)→Int→Option ((List T15) × T2 × Bool × T17)
 | 0,_,_,_,_,_,_,_,_,_=>none
 | b+1,c,d,vbk5_5_0_66,vbk6_6_0_66,vbk6_6_1_66,vbk6_6_2_66,vbk6_6_3_66,e,f =>
 bif (decide (f < (a.length:Int))) then ((idx a f).bind fun g =>
 bif (g.Kind==6) then ((rc (⟨c,d⟩:T2) g.Name).bind fun h =>
 bif vbk5_5_0_66 then (z38_50_k6 N vbk6_6_0_66 vbk6_6_1_66 vbk6_6_2_66 vbk6_6_3_66 e f (z38_50_l2 N rc rd a b) g h h.2.1)
 else z38_50_k6 N vbk6_6_0_66 vbk6_6_1_66 vbk6_6_2_66 vbk6_6_3_66 e f (z38_50_l2 N rc rd a b) g h false)
 else bif (g.Kind==5) then (z38_50_l8 N rd f (z38_50_l2 N rc rd a b) g N c d vbk5_5_0_66 vbk6_6_0_66 vbk6_6_1_66 vbk6_6_2_66 vbk6_6_3_66 e 0)
 else (z36 N g.To).bind fun i =>
 z38_50_l10 N rd e f (z38_50_l2 N rc rd a b) g i N c d vbk5_5_0_66 vbk6_6_0_66 vbk6_6_1_66 vbk6_6_2_66 vbk6_6_3_66 ([]:List (List T15)) 0)
 else z38_50_k1 c d vbk5_5_0_66 vbk6_6_0_66 vbk6_6_1_66 vbk6_6_2_66 vbk6_6_3_66 e
def z38_50_b (N:Nat) (rc:T2→ByteArray→Option (T17 × Bool × T2)) (rd:(List T15)→T2→Bool→T17→Option ((List T15) × T2 × Bool × T17)) (a:(List T15)) (b:T2) (c:Bool) (d:T17):Option ((List T15) × T2 × Bool × T17) :=
 z38_50_l2 N rc rd a N b.all' b.done' c d.Name d.Roles d.Messages d.Body ([]:List T15) 0
def z38_50_r (rc:T2→ByteArray→Option (T17 × Bool × T2)):Nat→(List T15)→T2→Bool→T17→Option ((List T15) × T2 × Bool × T17)
 | 0,_,_,_,_=>none
 | N+1,a0,a1,a2,a3=>z38_50_b N rc (z38_50_r rc N) a0 a1 a2 a3
def z38_50 (N:Nat) (rc:T2→ByteArray→Option (T17 × Bool × T2)) (a:(List T15)) (b:T2) (c:Bool) (d:T17):Option ((List T15) × T2 × Bool × T17):=z38_50_r rc N a b c d
def z17_b (N:Nat) (rc:T2→ByteArray→Option (T17 × Bool × T2)) (a:T2) (b:ByteArray):Option (T17 × Bool × T2) :=
 (some ((mget a.done' b).getD (⟨(str []),([]:List ByteArray),([]:List T16),([]:List T15)⟩:T17))).bind fun c =>
 bif (mget a.done' b).isSome then (some (c,true,a))
 else (some ((mget a.all' b).getD (⟨(str []),([]:List ByteArray),([]:List T16),([]:List T15)⟩:T17))).bind fun d =>
 (z36 N d.Roles).bind fun e =>
 (z37 N (⟨([]:(List (ByteArray × ByteArray))),(str [])⟩:T3) d.Messages).bind fun f =>
 (z38_50 N rc d.Body a true (⟨d.Name,e,f,([]:List T15)⟩:T17)).bind fun g =>
 bif (!g.2.2.1) then (some ((⟨(str []),([]:List ByteArray),([]:List T16),([]:List T15)⟩:T17),false,g.2.1))
 else some ((⟨g.2.2.2.Name,g.2.2.2.Roles,g.2.2.2.Messages,g.1⟩:T17),true,(⟨g.2.1.all',(mput g.2.1.done' b (⟨g.2.2.2.Name,g.2.2.2.Roles,g.2.2.2.Messages,g.1⟩:T17))⟩:T2))
def z17_r:Nat→T2→ByteArray→Option (T17 × Bool × T2)
 | 0,_,_=>none
 | N+1,a0,a1=>z17_b N (z17_r N) a0 a1
def z17 (N:Nat) (a:T2) (b:ByteArray):Option (T17 × Bool × T2):=z17_r N a b
def z8_k1 (N:Nat) (a:ByteArray) (b:(List (ByteArray × T17))):Option (T17 × Int) :=
 (some ((mget b a).getD (⟨(str []),([]:List ByteArray),([]:List T16),([]:List T15)⟩:T17))).bind fun c =>
 bif (!((mget b a).isSome)) then (some ((⟨(str []),([]:List ByteArray),([]:List T16),([]:List T15)⟩:T17),8))
 else (z16 N (⟨b,([]:(List (ByteArray × T17)))⟩:T2) a ([]:(List (ByteArray × Bool)))).bind fun d =>
 bif (!d.1) then (some ((⟨(str []),([]:List ByteArray),([]:List T16),([]:List T15)⟩:T17),14))
 else (z17 N (⟨b,([]:(List (ByteArray × T17)))⟩:T2) a).bind fun e =>
 bif (!e.2.1) then (some ((⟨(str []),([]:List ByteArray),([]:List T16),([]:List T15)⟩:T17),6))
 else (z18 N ([e.1]:List T17)).bind fun f =>
 bif (!f) then (some ((⟨(str []),([]:List ByteArray),([]:List T16),([]:List T15)⟩:T17),6))
 else (z13 N ([e.1]:List T17)).bind fun g =>
 bif (g.Err != 0) then (some ((⟨(str []),([]:List ByteArray),([]:List T16),([]:List T15)⟩:T17),9))
 else some (e.1,0)
def z8_l2 (N:Nat) (a:(List T17)) (b:ByteArray):Nat→(List (ByteArray × T17))→Int→Option (T17 × Int)
 | 0,_,_=>none
 | c+1,d,e =>
 bif (decide (e < (a.length:Int))) then ((idx a e).bind fun f =>
 (z8_l2 N a b c) (mput d f.Name f) (w64 (e+1)))
 else z8_k1 N b d
def z8 (N:Nat) (a:(List T17)) (b:ByteArray):Option (T17 × Int) :=
 (z13 N a).bind fun c =>
 bif (c.Err != 0) then (some ((⟨(str []),([]:List ByteArray),([]:List T16),([]:List T15)⟩:T17),1))
 else z8_l2 N a b N ([]:(List (ByteArray × T17))) 0
def z7 (N:Nat):Option Bool :=
 (z15 N (str [112,114,111,116,111,99,111,108,32,80,40,65,44,32,66,41,32,123,32,109,101,115,115,97,103,101,32,97,40,41,59,32,65,32,45,62,32,66,58,32,97,59,32,99,97,108,108,32,81,40,66,44,32,65,41,32,97,115,32,113,59,32,125,32,112,114,111,116,111,99,111,108,32,81,40,88,44,32,89,41,32,123,32,109,101,115,115,97,103,101,32,109,40,41,59,32,88,32,45,62,32,89,58,32,109,59,32,125])).bind fun a =>
 (z8 N a.1 (str [80])).bind fun b =>
 bif (a.2.2==0) then (bif (b.2==0) then (bif ((b.1.Messages.length:Int)==2) then ((idx b.1.Messages 1).bind fun c =>
 bif (c.Name.toList==(str [113,46,109]).toList) then (bif ((b.1.Body.length:Int)==2) then ((idx b.1.Body 1).bind fun d =>
 bif (d.From.toList==(str [66]).toList) then ((idx b.1.Body 1).bind fun e =>
 some (e.Name.toList==(str [113,46,109]).toList))
 else some false)
 else some false)
 else some false)
 else some false)
 else some false)
 else some false
def z12_k1 (a:Int) (b:Int):Option (Int × Int) :=
 some (a,b)
def z12_k3 (a:Int) (b:Int→Int→Int→Option (Int × Int)) (c:Int) (d:Int):Option (Int × Int) :=
 b c d (w64 (a+1))
def z12_l4 (rc:(List T10)→Option (Int × Int)) (a:Int) (b:Int→Int→Int→Option (Int × Int)) (c:T10):Nat→Int→Int→Int→Option (Int × Int)
 | 0,_,_,_=>none
 | d+1,e,f,g =>
 bif (decide (g < (c.Blocks.length:Int))) then ((idx c.Blocks g).bind fun h =>
 (rc h).bind fun i =>
 (z12_l4 rc a b c d) (w64 (e+i.1)) (w64 (f+i.2)) (w64 (g+1)))
 else z12_k3 a b e f
def z12_k5 (N:Nat) (rc:(List T10)→Option (Int × Int)) (a:Int) (b:Int→Int→Int→Option (Int × Int)) (c:T10) (d:Int) (e:Int):Option (Int × Int) :=
 z12_l4 rc a b c N d e 0
def z12_k6 (N:Nat) (rc:(List T10)→Option (Int × Int)) (a:Int) (b:Int) (c:Int→Int→Int→Option (Int × Int)) (d:T10) (e:Int):Option (Int × Int) :=
 bif (d.Kind==5) then (z12_k5 N rc b c d e (w64 (a+1)))
 else z12_k5 N rc b c d e a
def z12_l2 (N:Nat) (rc:(List T10)→Option (Int × Int)) (a:(List T10)):Nat→Int→Int→Int→Option (Int × Int)
 | 0,_,_,_=>none
 | b+1,c,d,e =>
 bif (decide (e < (a.length:Int))) then ((idx a e).bind fun f =>
 bif (f.Kind==6) then (z12_k6 N rc d e (z12_l2 N rc a b) f (w64 (c+1)))
 else z12_k6 N rc d e (z12_l2 N rc a b) f c)
 else z12_k1 c d
def z12_b (N:Nat) (rc:(List T10)→Option (Int × Int)) (a:(List T10)):Option (Int × Int) :=
 z12_l2 N rc a N 0 0 0
def z12_r:Nat→(List T10)→Option (Int × Int)
 | 0,_=>none
 | N+1,a0=>z12_b N (z12_r N) a0
def z12 (N:Nat) (a:(List T10)):Option (Int × Int):=z12_r N a
def z46_k1 (a:Int):Option Int :=
 some a
def z46_k3 (a:Int) (b:Int→Int→Option Int) (c:Int):Option Int :=
 b c (w64 (a+1))
def z46_l4 (rc:(List T10)→Option Int) (a:(List T10)) (b:Int) (c:Int→Int→Option Int):Nat→Int→Int→Option Int
 | 0,_,_=>none
 | d+1,e,f =>
 (idx a b).bind fun g =>
 bif (decide (f < (g.Blocks.length:Int))) then ((idx a b).bind fun h =>
 (idx h.Blocks f).bind fun i =>
 (rc i).bind fun j =>
 (z46_l4 rc a b c d) (w64 (e+j)) (w64 (f+1)))
 else z46_k3 b c e
def z46_l2 (N:Nat) (rc:(List T10)→Option Int) (a:(List T10)):Nat→Int→Int→Option Int
 | 0,_,_=>none
 | b+1,c,d =>
 bif (decide (d < (a.length:Int))) then (z46_l4 rc a d (z46_l2 N rc a b) N (w64 (c+1)) 0)
 else z46_k1 c
def z46_b (N:Nat) (rc:(List T10)→Option Int) (a:(List T10)):Option Int :=
 z46_l2 N rc a N 0 0
def z46_r:Nat→(List T10)→Option Int
 | 0,_=>none
 | N+1,a0=>z46_b N (z46_r N) a0
def z46 (N:Nat) (a:(List T10)):Option Int:=z46_r N a
def z19_k1 (a:(List T12)) (b:Int) (c:Int):Option Bool :=
 bif (decide ((a.length:Int)≤12)) then (bif (decide (b≤320)) then (some (decide (c≤60)))
 else some false)
 else some false
def z19_k3 (a:Int) (b:Int) (c:Int) (d:Int→Int→Int→Option Bool) (e:Int) (f:T12):Option Bool :=
 d (w64 (a+e)) (w64 (b+(f.Messages.length:Int))) (w64 (c+1))
def z19_l4 (a:(List T12)) (b:Int) (c:Int) (d:Int) (e:Int→Int→Int→Option Bool) (f:Int) (g:T12):Nat→Int→Option Bool
 | 0,_=>none
 | h+1,i =>
 (idx a d).bind fun j =>
 bif (decide (i < (j.Messages.length:Int))) then ((idx a d).bind fun k =>
 (idx k.Messages i).bind fun l =>
 bif (decide ((l.Fields.length:Int) > 8)) then (some false)
 else (idx a d).bind fun m =>
 (idx m.Messages i).bind fun o =>
 bif (decide ((o.Where.length:Int) > 10)) then (some false)
 else (z19_l4 a b c d e f g h) (w64 (i+1)))
 else z19_k3 b c d e f g
def z19_l2 (N:Nat) (a:(List T12)):Nat→Int→Int→Int→Option Bool
 | 0,_,_,_=>none
 | b+1,c,d,e =>
 bif (decide (e < (a.length:Int))) then ((idx a e).bind fun f =>
 (z46 N f.Body).bind fun g =>
 (idx a e).bind fun h =>
 z19_l4 a c d e (z19_l2 N a b) g h N 0)
 else z19_k1 a c d
def z19 (N:Nat) (a:(List T12)):Option Bool :=
 z19_l2 N a N 0 0 0
def z9_k1 (N:Nat) (a:(List T12)):Option Bool :=
 (z19 N a).bind fun b =>
 some b
def z9_l2 (N:Nat) (a:(List T12)):Nat→Int→Option Bool
 | 0,_=>none
 | b+1,c =>
 bif (decide (c < (a.length:Int))) then ((idx a c).bind fun d =>
 (z12 N d.Body).bind fun e =>
 bif (decide (e.1 > 3)) then (some false)
 else (z9_l2 N a b) (w64 (c+1)))
 else z9_k1 N a
def z9 (N:Nat) (a:(List T12)):Option Bool :=
 z9_l2 N a N 0
def z20_k1 (a:(List T15)):Option (List T15) :=
 some a
def z20_k3 (a:(List T15)) (b:Int) (c:(List T15)→Int→Option (List T15)) (d:T10) (e:(List (List T15))):Option (List T15) :=
 (appL a ([(⟨d.Kind,d.From,d.To,d.Name,d.As,d.Ticks,e⟩:T15)]:List T15)).bind fun f =>
 c f (w64 (b+1))
def z20_l4 (rc:(List T10)→Option (List T15)) (a:(List T15)) (b:Int) (c:(List T15)→Int→Option (List T15)) (d:T10):Nat→(List (List T15))→Int→Option (List T15)
 | 0,_,_=>none
 | e+1,f,g =>
 bif (decide (g < (d.Blocks.length:Int))) then ((idx d.Blocks g).bind fun h =>
 (rc h).bind fun i =>
 (appL f ([i]:List (List T15))).bind fun j =>
 (z20_l4 rc a b c d e) j (w64 (g+1)))
 else z20_k3 a b c d f
def z20_l2 (N:Nat) (rc:(List T10)→Option (List T15)) (a:(List T10)):Nat→(List T15)→Int→Option (List T15)
 | 0,_,_=>none
 | b+1,c,d =>
 bif (decide (d < (a.length:Int))) then ((idx a d).bind fun e =>
 z20_l4 rc c d (z20_l2 N rc a b) e N ([]:List (List T15)) 0)
 else z20_k1 c
def z20_b (N:Nat) (rc:(List T10)→Option (List T15)) (a:(List T10)):Option (List T15) :=
 z20_l2 N rc a N ([]:List T15) 0
def z20_r:Nat→(List T10)→Option (List T15)
 | 0,_=>none
 | N+1,a0=>z20_b N (z20_r N) a0
def z20 (N:Nat) (a:(List T10)):Option (List T15):=z20_r N a
def z10_k1 (a:(List T17)):Option (List T17) :=
 some a
def z10_k3 (a:(List T17)) (b:Int) (c:(List T17)→Int→Option (List T17)) (d:T12) (e:(List T15)) (f:(List T16)):Option (List T17) :=
 (appL a ([(⟨d.Name,d.Roles,f,e⟩:T17)]:List T17)).bind fun g =>
 c g (w64 (b+1))
def z10_k5 (a:(List T16)) (b:Int) (c:(List T16)→Int→Option (List T17)) (d:T11) (e:(List T14)):Option (List T17) :=
 (appL a ([(⟨d.Name,d.Fields,e⟩:T16)]:List T16)).bind fun f =>
 c f (w64 (b+1))
def z10_l6 (a:(List T16)) (b:Int) (c:(List T16)→Int→Option (List T17)) (d:T11):Nat→(List T14)→Int→Option (List T17)
 | 0,_,_=>none
 | e+1,f,g =>
 bif (decide (g < (d.Where.length:Int))) then ((idx d.Where g).bind fun h =>
 (appL f ([(⟨h.Left,h.Op,h.Right⟩:T14)]:List T14)).bind fun i =>
 (z10_l6 a b c d e) i (w64 (g+1)))
 else z10_k5 a b c d f
def z10_l4 (N:Nat) (a:(List T17)) (b:Int) (c:(List T17)→Int→Option (List T17)) (d:T12) (e:(List T15)):Nat→(List T16)→Int→Option (List T17)
 | 0,_,_=>none
 | f+1,g,h =>
 bif (decide (h < (d.Messages.length:Int))) then ((idx d.Messages h).bind fun i =>
 z10_l6 g h (z10_l4 N a b c d e f) i N ([]:List T14) 0)
 else z10_k3 a b c d e g
def z10_l2 (N:Nat) (a:(List T12)):Nat→(List T17)→Int→Option (List T17)
 | 0,_,_=>none
 | b+1,c,d =>
 bif (decide (d < (a.length:Int))) then ((idx a d).bind fun e =>
 (z20 N e.Body).bind fun f =>
 z10_l4 N c d (z10_l2 N a b) e f N ([]:List T16) 0)
 else z10_k1 c
def z10 (N:Nat) (a:(List T12)):Option (List T17) :=
 z10_l2 N a N ([]:List T17) 0
def z75_k1:Option Bool :=
 some true
def z75_l2 (a:(List ByteArray)) (b:(List ByteArray)):Nat→Int→Option Bool
 | 0,_=>none
 | c+1,d =>
 bif (decide (d < (a.length:Int))) then ((idx a d).bind fun e =>
 (idx b d).bind fun f =>
 bif (!(e.toList==f.toList)) then (some false)
 else (z75_l2 a b c) (w64 (d+1)))
 else z75_k1
def z75 (N:Nat) (a:(List ByteArray)) (b:(List ByteArray)):Option Bool :=
 bif ((a.length:Int) != (b.length:Int)) then (some false)
 else z75_l2 a b N 0
def z132_k1:Option Bool :=
 some true
def z132_l2 (a:(List T0)) (b:(List T0)):Nat→Int→Option Bool
 | 0,_=>none
 | c+1,d =>
 bif (decide (d < (a.length:Int))) then ((idx a d).bind fun e =>
 (idx b d).bind fun f =>
 bif (!((e.Name.toList==f.Name.toList) && (((e.Sort'.Kind==f.Sort'.Kind) && ((e.Sort'.Lo==f.Sort'.Lo) && ((e.Sort'.Hi==f.Sort'.Hi) && true))) && true))) then (some false)
 else (z132_l2 a b c) (w64 (d+1)))
 else z132_k1
def z132 (N:Nat) (a:(List T0)) (b:(List T0)):Option Bool :=
 bif ((a.length:Int) != (b.length:Int)) then (some false)
 else z132_l2 a b N 0
def z133_k1:Option Bool :=
 some true
def z133_l2 (a:(List T14)) (b:(List T14)):Nat→Int→Option Bool
 | 0,_=>none
 | c+1,d =>
 bif (decide (d < (a.length:Int))) then ((idx a d).bind fun e =>
 (idx b d).bind fun f =>
 bif (!(((e.Left.Kind==f.Left.Kind) && ((e.Left.Message.toList==f.Left.Message.toList) && ((e.Left.Field.toList==f.Left.Field.toList) && ((e.Left.N==f.Left.N) && true)))) && ((e.Op.toList==f.Op.toList) && (((e.Right.Kind==f.Right.Kind) && ((e.Right.Message.toList==f.Right.Message.toList) && ((e.Right.Field.toList==f.Right.Field.toList) && ((e.Right.N==f.Right.N) && true)))) && true)))) then (some false)
 else (z133_l2 a b c) (w64 (d+1)))
 else z133_k1
def z133 (N:Nat) (a:(List T14)) (b:(List T14)):Option Bool :=
 bif ((a.length:Int) != (b.length:Int)) then (some false)
 else z133_l2 a b N 0
def z77 (N:Nat) (a:T16) (b:T16):Option Bool :=
 bif (a.Name.toList==b.Name.toList) then ((z132 N a.Fields b.Fields).bind fun c =>
 bif c then ((z133 N a.Where b.Where).bind fun d =>
 some d)
 else some false)
 else some false
def z76_51_k1:Option Bool :=
 some true
def z76_51_l2 (N:Nat) (a:(List T16)) (b:(List T16)):Nat→Int→Option Bool
 | 0,_=>none
 | c+1,d =>
 bif (decide (d < (a.length:Int))) then ((idx a d).bind fun e =>
 (idx b d).bind fun f =>
 (z77 N e f).bind fun g =>
 bif (!g) then (some false)
 else (z76_51_l2 N a b c) (w64 (d+1)))
 else z76_51_k1
def z76_51 (N:Nat) (a:(List T16)) (b:(List T16)):Option Bool :=
 bif ((a.length:Int) != (b.length:Int)) then (some false)
 else z76_51_l2 N a b N 0
def z135 (N:Nat) (rc:(List T15)→(List T15)→Option Bool) (a:(List T15)) (b:(List T15)):Option Bool :=
 (rc a b).bind fun c =>
 some c
def z134_52_k1:Option Bool :=
 some true
def z134_52_l2 (N:Nat) (rc:(List T15)→(List T15)→Option Bool) (a:(List (List T15))) (b:(List (List T15))):Nat→Int→Option Bool
 | 0,_=>none
 | c+1,d =>
 bif (decide (d < (a.length:Int))) then ((idx a d).bind fun e =>
 (idx b d).bind fun f =>
 (z135 N rc e f).bind fun g =>
 bif (!g) then (some false)
 else (z134_52_l2 N rc a b c) (w64 (d+1)))
 else z134_52_k1
def z134_52 (N:Nat) (rc:(List T15)→(List T15)→Option Bool) (a:(List (List T15))) (b:(List (List T15))):Option Bool :=
 bif ((a.length:Int) != (b.length:Int)) then (some false)
 else z134_52_l2 N rc a b N 0
def z79 (N:Nat) (rc:(List T15)→(List T15)→Option Bool) (a:T15) (b:T15):Option Bool :=
 bif (a.Kind==b.Kind) then (bif (a.From.toList==b.From.toList) then ((z75 N a.To b.To).bind fun c =>
 bif c then (bif (a.Name.toList==b.Name.toList) then (bif (a.As.toList==b.As.toList) then (bif (a.Ticks==b.Ticks) then ((z134_52 N rc a.Blocks b.Blocks).bind fun d =>
 some d)
 else some false)
 else some false)
 else some false)
 else some false)
 else some false)
 else some false
def z78_53_k1:Option Bool :=
 some true
def z78_53_l2 (N:Nat) (rc:(List T15)→(List T15)→Option Bool) (a:(List T15)) (b:(List T15)):Nat→Int→Option Bool
 | 0,_=>none
 | c+1,d =>
 bif (decide (d < (a.length:Int))) then ((idx a d).bind fun e =>
 (idx b d).bind fun f =>
 (z79 N rc e f).bind fun g =>
 bif (!g) then (some false)
 else (z78_53_l2 N rc a b c) (w64 (d+1)))
 else z78_53_k1
def z78_53_b (N:Nat) (rc:(List T15)→(List T15)→Option Bool) (a:(List T15)) (b:(List T15)):Option Bool :=
 bif ((a.length:Int) != (b.length:Int)) then (some false)
 else z78_53_l2 N rc a b N 0
def z78_53_r:Nat→(List T15)→(List T15)→Option Bool
 | 0,_,_=>none
 | N+1,a0,a1=>z78_53_b N (z78_53_r N) a0 a1
def z78_53 (N:Nat) (a:(List T15)) (b:(List T15)):Option Bool:=z78_53_r N a b
def z31 (N:Nat) (a:T17) (b:T17):Option Bool :=
 bif (a.Name.toList==b.Name.toList) then ((z75 N a.Roles b.Roles).bind fun c =>
 bif c then ((z76_51 N a.Messages b.Messages).bind fun d =>
 bif d then ((z78_53 N a.Body b.Body).bind fun e =>
 some e)
 else some false)
 else some false)
 else some false
def z30_54_k1:Option Bool :=
 some true
def z30_54_l2 (N:Nat) (a:(List T17)) (b:(List T17)):Nat→Int→Option Bool
 | 0,_=>none
 | c+1,d =>
 bif (decide (d < (a.length:Int))) then ((idx a d).bind fun e =>
 (idx b d).bind fun f =>
 (z31 N e f).bind fun g =>
 bif (!g) then (some false)
 else (z30_54_l2 N a b c) (w64 (d+1)))
 else z30_54_k1
def z30_54 (N:Nat) (a:(List T17)) (b:(List T17)):Option Bool :=
 bif ((a.length:Int) != (b.length:Int)) then (some false)
 else z30_54_l2 N a b N 0
def z14 (N:Nat) (a:(List T17)) (b:(List T17)):Option Bool :=
 (z30_54 N a b).bind fun c =>
 some c
def law12_ExpandApart (N:Nat) (a:(List T12)) (b:T12) (c:Int):Option Bool :=
 (z7 N).bind fun d =>
 bif (!d) then ((z7 N).bind fun e =>
 some e)
 else (z9 N a).bind fun f =>
 bif (!f) then ((z7 N).bind fun g =>
 some g)
 else bif ((a.length:Int)==0) then ((z7 N).bind fun h =>
 some h)
 else (z9 N ([b]:List T12)).bind fun i =>
 bif (!i) then ((z7 N).bind fun j =>
 some j)
 else (binO .rem .i64 (w64 (c)) (a.length:Int)).bind fun k =>
 (idx a k).bind fun l =>
 (appL ([]:List T12) a).bind fun m =>
 (appL m ([(⟨(str [90,90]),b.Roles,b.Messages,b.Body⟩:T12)]:List T12)).bind fun o =>
 (z10 N o).bind fun p =>
 (lsl p none (some (a.length:Int))).bind fun q =>
 (z13 N p).bind fun r =>
 bif (r.Err != 0) then (some true)
 else (z13 N q).bind fun s =>
 bif (s.Err != 0) then (some true)
 else (z8 N q l.Name).bind fun t =>
 (z8 N p l.Name).bind fun u =>
 bif (t.2==u.2) then ((z14 N ([t.1]:List T17) ([u.1]:List T17)).bind fun v =>
 some v)
 else some false
end Gx
end
