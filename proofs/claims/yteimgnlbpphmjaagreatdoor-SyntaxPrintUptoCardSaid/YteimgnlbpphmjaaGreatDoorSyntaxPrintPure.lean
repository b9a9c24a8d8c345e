/- What each function of the statement computes, as plain definitions. -/
import Derived.Test.YteimgnlbpphmjaaGreatDoorSyntaxPrintCore3
set_option linter.all false
section
open Go Go.Kx
namespace Gx
def digN:Nat→Nat→List UInt8
 | 0,_=>[]
 | f+1,u=>bif Nat.blt u 10 then [UInt8.ofNat (48+u)] else digN f (u / 10)++[UInt8.ofNat (48+u % 10)]
def itoaS (n:Int):ByteArray:=⟨(bif decide (n < 0) then 45::digN 25 n.natAbs else digN 25 n.toNat).toArray⟩
def joinL (sep:List UInt8):List (List UInt8)→List UInt8
 | []=>[]
 | x::r=>x++(r.map (sep++·)).flatten
def quoB (b:UInt8):List UInt8:=if b=34∨b=92 then [92,b] else [b]
def quoL (l:List UInt8):List UInt8:=(l.map quoB).flatten
structure T1 where
  Kind:Int
  Lo:Int
  Hi:Int
structure T0 where
  Name:ByteArray
  Sort':T1
structure T13 where
  Kind:Int
  Message:ByteArray
  Field:ByteArray
  N:Int
structure T9 where
  Left:T13
  Op:ByteArray
  Right:T13
structure T11 where
  Name:ByteArray
  Fields:(List T0)
  Where:(List T9)
structure T10 where
  Kind:Int
  From:ByteArray
  To:(List ByteArray)
  Name:ByteArray
  As:ByteArray
  Ticks:Int
  Blocks:(List (List T10))
structure T12 where
  Name:ByteArray
  Roles:(List ByteArray)
  Messages:(List T11)
  Body:(List T10)
structure T2 where
  Kind:Int
  Text:ByteArray
  Value:Int
  From:Int
structure T3 where
  s':ByteArray
  at':Int
structure T14 where
  l':(List T2)
  n':Int
  end':Int
  at':Int
  err':Int
structure T15 where
  Builder:ByteArray
  depth':Int
structure T4 where
  Left:T13
  Op:ByteArray
  Right:T13
structure T6 where
  Name:ByteArray
  Fields:(List T0)
  Where:(List T4)
structure T5 where
  Kind:Int
  From:ByteArray
  To:(List ByteArray)
  Name:ByteArray
  As:ByteArray
  Ticks:Int
  Blocks:(List (List T5))
structure T7 where
  Name:ByteArray
  Roles:(List ByteArray)
  Messages:(List T6)
  Body:(List T5)
structure T8 where
  s':ByteArray
  l':(List T2)
  next':Int
  at':Int
  e':Int
def z148 (N:Nat) (a:ByteArray) (b:Int):Option Int :=
 some (firstB a b)
def z100 (N:Nat) (a:ByteArray) (b:Int):Option Int :=
 (z148 N a b).bind fun c =>
 some c
def z166 (N:Nat) (a:Int):Option Bool :=
 bif (decide (0≤a)) then (bif (decide (a < 55296)) then (some true)
 else bif (decide (57343 < a)) then (bif (decide (a≤1114111)) then (some true)
 else some false)
 else some false)
 else bif (decide (57343 < a)) then (bif (decide (a≤1114111)) then (some true)
 else some false)
 else some false
def z146_k1 (a:Nat):Option Int :=
 some (-1)
def z146_l2 (a:ByteArray):Nat→Nat→Option Int
 | 0,_=>none
 | b+1,c =>
 bif decide (c < a.size) then (bif (((Utf8.decode a c).1:Int)==65533) then (some ((c:Nat):Int))
 else (z146_l2 a b) (c+(Utf8.decode a c).2))
 else z146_k1 c
def z146_k3:Option Int :=
 some (-1)
def z146_k5 (a:Int) (b:Int):Option Int :=
 some (w64 (b-(w64 (((Utf8.encode a).size:Int)-1))))
def z146_l6 (a:ByteArray) (b:Int) (c:Int):Nat→Int→Option Int
 | 0,_=>none
 | d+1,e =>
 bif (decide (e < ((Utf8.encode b).size:Int))) then ((sidx a (w64 (c-e))).bind fun f =>
 (sidx (Utf8.encode b) (w64 ((w64 (((Utf8.encode b).size:Int)-1))-e))).bind fun g =>
 bif (f != g) then (dead 0)
 else (z146_l6 a b c d) (w64 (e+1)))
 else z146_k5 b c
def z146_k7 (N:Nat) (a:ByteArray) (b:Int) (c:Int):Option Int :=
 z146_l6 a b c N 1
def z146_l4 (N:Nat) (a:ByteArray) (b:Int):Nat→Option Int
 | 0=>none
 | c+1 =>
 bif (decide ((w64 (((Utf8.encode b).size:Int)-1)) < (a.size:Int))) then ((sidx a (w64 (((Utf8.encode b).size:Int)-1))).bind fun d =>
 (sidx (Utf8.encode b) (w64 (((Utf8.encode b).size:Int)-1))).bind fun e =>
 bif (d != e) then ((ssl a (some (w64 ((w64 (((Utf8.encode b).size:Int)-1))+1))) none).bind fun f =>
 (sidx (Utf8.encode b) (w64 (((Utf8.encode b).size:Int)-1))).bind fun g =>
 (z100 N f g).bind fun h =>
 bif (decide (h < 0)) then (some (-1))
 else z146_k7 N a b (w64 ((w64 (((Utf8.encode b).size:Int)-1))+(w64 (h+1)))))
 else z146_k7 N a b (w64 (((Utf8.encode b).size:Int)-1)))
 else z146_k3
def z146_k8 (N:Nat) (a:ByteArray) (b:Int) (c:Bool):Option Int :=
 bif c then ((z100 N a (wk .u8 (b))).bind fun d =>
 some d)
 else bif (b==65533) then (z146_l2 a N (0:Nat))
 else (z166 N b).bind fun e =>
 bif (!e) then (some (-1))
 else z146_l4 N a b N
def z146 (N:Nat) (a:ByteArray) (b:Int):Option Int :=
 bif (decide (0≤b)) then (z146_k8 N a b (decide (b < 128)))
 else z146_k8 N a b false
def z98 (N:Nat) (a:ByteArray) (b:Int):Option Bool :=
 (z146 N a b).bind fun c =>
 some (decide (c≥0))
def z147 (N:Nat) (a:ByteArray) (b:ByteArray):Option Bool :=
 bif (decide ((a.size:Int)≥(b.size:Int))) then ((ssl a none (some (b.size:Int))).bind fun c =>
 some (c.toList==b.toList))
 else some false
def z99 (N:Nat) (a:ByteArray) (b:ByteArray):Option Bool :=
 (z147 N a b).bind fun c =>
 some c
def z50_k1 (a:T3) (vbk0_0_1_1:Int):Option T3 :=
 some (⟨a.s',vbk0_0_1_1⟩:T3)
def z50_l2 (N:Nat) (a:T3):Nat→Int→Option T3
 | 0,_=>none
 | b+1,vbk0_0_1_3 =>
 bif (decide (vbk0_0_1_3 < (a.s'.size:Int))) then ((ssl a.s' (some vbk0_0_1_3) none).bind fun c =>
 (sidx c 0).bind fun d =>
 (z98 N (str [32,9,10,13]) (wk .i32 (d))).bind fun e =>
 bif e then ((z50_l2 N a b) (w64 (vbk0_0_1_3+1)))
 else (z99 N c (str [47,47])).bind fun f =>
 bif f then ((z100 N c 10).bind fun g =>
 bif (decide (g < 0)) then ((z50_l2 N a b) (w64 (vbk0_0_1_3+(w64 ((w64 ((c.size:Int)-1))+1)))))
 else (z50_l2 N a b) (w64 (vbk0_0_1_3+(w64 (g+1)))))
 else some (⟨a.s',vbk0_0_1_3⟩:T3))
 else z50_k1 a vbk0_0_1_3
def z50 (N:Nat) (a:T3):Option T3 :=
 z50_l2 N a N a.at'
def z52 (N:Nat) (a:Int):Option Bool :=
 bif (decide (97≤a)) then (bif (decide (a≤122)) then (some true)
 else bif (decide (65≤a)) then (some (decide (a≤90)))
 else some false)
 else bif (decide (65≤a)) then (some (decide (a≤90)))
 else some false
def z54 (N:Nat) (a:Int):Option Bool :=
 bif (decide (48≤a)) then (some (decide (a≤57)))
 else some false
def z103 (N:Nat) (a:Int):Option Bool :=
 (z52 N a).bind fun b =>
 bif b then (some true)
 else (z54 N a).bind fun c =>
 bif c then (some true)
 else some (a==95)
def z102_0_k1 (a:T3) (vbk0_0_1_1:Int):Option (ByteArray × T3) :=
 (ssl a.s' (some a.at') (some vbk0_0_1_1)).bind fun b =>
 some (b,(⟨a.s',vbk0_0_1_1⟩:T3))
def z102_0_l2 (N:Nat) (a:T3):Nat→Int→Option (ByteArray × T3)
 | 0,_=>none
 | b+1,vbk0_0_1_3 =>
 bif (decide (vbk0_0_1_3 < (a.s'.size:Int))) then ((sidx a.s' vbk0_0_1_3).bind fun c =>
 (z103 N c).bind fun d =>
 bif d then ((z102_0_l2 N a b) (w64 (vbk0_0_1_3+1)))
 else z102_0_k1 a vbk0_0_1_3)
 else z102_0_k1 a vbk0_0_1_3
def z102_0 (N:Nat) (a:T3):Option (ByteArray × T3) :=
 z102_0_l2 N a N a.at'
def z53 (N:Nat) (a:T3):Option (T2 × Int × T3) :=
 (z102_0 N a).bind fun b =>
 bif (decide ((b.1.size:Int) > 16)) then (some ((⟨0,(str []),0,0⟩:T2),6,b.2))
 else some ((⟨1,b.1,0,0⟩:T2),0,b.2)
def z102_1_k1 (a:T3) (vbk0_0_1_1:Int):Option (ByteArray × T3) :=
 (ssl a.s' (some a.at') (some vbk0_0_1_1)).bind fun b =>
 some (b,(⟨a.s',vbk0_0_1_1⟩:T3))
def z102_1_l2 (N:Nat) (a:T3):Nat→Int→Option (ByteArray × T3)
 | 0,_=>none
 | b+1,vbk0_0_1_3 =>
 bif (decide (vbk0_0_1_3 < (a.s'.size:Int))) then ((sidx a.s' vbk0_0_1_3).bind fun c =>
 (z54 N c).bind fun d =>
 bif d then ((z102_1_l2 N a b) (w64 (vbk0_0_1_3+1)))
 else z102_1_k1 a vbk0_0_1_3)
 else z102_1_k1 a vbk0_0_1_3
def z102_1 (N:Nat) (a:T3):Option (ByteArray × T3) :=
 z102_1_l2 N a N a.at'
def z55_k1 (a:ByteArray × T3) (b:Int):Option (T2 × Int × T3) :=
 some ((⟨2,(str []),b,0⟩:T2),0,a.2)
def z55_l2 (a:ByteArray × T3):Nat→Int→Int→Option (T2 × Int × T3)
 | 0,_,_=>none
 | b+1,c,d =>
 bif (decide (d < (a.1.size:Int))) then ((sidx a.1 d).bind fun e =>
 (z55_l2 a b) (w64 ((w64 (10 * c))+(w64 ((wk .u8 (e-48)))))) (w64 (d+1)))
 else z55_k1 a c
def z55_k3 (N:Nat) (a:ByteArray × T3) (b:Bool):Option (T2 × Int × T3) :=
 bif b then (some ((⟨0,(str []),0,0⟩:T2),2,a.2))
 else z55_l2 a N 0 0
def z55_k4 (N:Nat) (a:ByteArray × T3) (b:Bool):Option (T2 × Int × T3) :=
 bif b then (some ((⟨0,(str []),0,0⟩:T2),3,a.2))
 else bif (decide ((a.1.size:Int) > 6)) then (z55_k3 N a true)
 else bif (decide ((a.1.size:Int) > 1)) then ((sidx a.1 0).bind fun c =>
 z55_k3 N a (c==48))
 else z55_k3 N a false
def z55 (N:Nat) (a:T3):Option (T2 × Int × T3) :=
 (z102_1 N a).bind fun b =>
 bif (decide (b.2.at' < (b.2.s'.size:Int))) then ((sidx b.2.s' b.2.at').bind fun c =>
 (z103 N c).bind fun d =>
 z55_k4 N b d)
 else z55_k4 N b false
def z56_k1 (a:T3) (vbk0_0_1_1:Int):Option (T2 × Int × T3) :=
 some ((⟨0,(str []),0,0⟩:T2),3,(⟨a.s',vbk0_0_1_1⟩:T3))
def z56_k3 (a:T3) (b:(List Int)) (c:Int→(List Int)→Option (T2 × Int × T3)) (vbk0_0_1_9:Int) (d:Int):Option (T2 × Int × T3) :=
 bif (decide (d < 32)) then (some ((⟨0,(str []),0,0⟩:T2),3,(⟨a.s',vbk0_0_1_9⟩:T3)))
 else bif (decide (d > 126)) then (some ((⟨0,(str []),0,0⟩:T2),3,(⟨a.s',vbk0_0_1_9⟩:T3)))
 else (appL b ([d]:List Int)).bind fun e =>
 c (w64 (vbk0_0_1_9+1)) e
def z56_l2 (a:T3):Nat→Int→(List Int)→Option (T2 × Int × T3)
 | 0,_,_=>none
 | b+1,vbk0_0_1_6,c =>
 bif (decide (vbk0_0_1_6 < (a.s'.size:Int))) then ((sidx a.s' vbk0_0_1_6).bind fun d =>
 bif (d==34) then (bif (decide ((c.length:Int) > 40)) then (some ((⟨0,(str []),0,0⟩:T2),6,(⟨a.s',(w64 (vbk0_0_1_6+1))⟩:T3)))
 else some ((⟨3,(strOf c),0,0⟩:T2),0,(⟨a.s',(w64 (vbk0_0_1_6+1))⟩:T3)))
 else bif (d==92) then (bif ((w64 (vbk0_0_1_6+1))==(a.s'.size:Int)) then (some ((⟨0,(str []),0,0⟩:T2),3,(⟨a.s',(w64 (vbk0_0_1_6+1))⟩:T3)))
 else (sidx a.s' (w64 (vbk0_0_1_6+1))).bind fun e =>
 bif (e != 34) then ((sidx a.s' (w64 (vbk0_0_1_6+1))).bind fun f =>
 bif (f != 92) then (some ((⟨0,(str []),0,0⟩:T2),3,(⟨a.s',(w64 (vbk0_0_1_6+1))⟩:T3)))
 else (sidx a.s' (w64 (vbk0_0_1_6+1))).bind fun g =>
 z56_k3 a c (z56_l2 a b) (w64 (vbk0_0_1_6+1)) g)
 else (sidx a.s' (w64 (vbk0_0_1_6+1))).bind fun h =>
 z56_k3 a c (z56_l2 a b) (w64 (vbk0_0_1_6+1)) h)
 else z56_k3 a c (z56_l2 a b) vbk0_0_1_6 d)
 else z56_k1 a vbk0_0_1_6
def z56 (N:Nat) (a:T3):Option (T2 × Int × T3) :=
 z56_l2 a N (w64 (a.at'+1)) ([]:List Int)
def z165 (N:Nat) (a:ByteArray) (b:ByteArray):Option Int :=
 bif ((b.size:Int)==0) then (some 0)
 else bif (b.toList==a.toList) then (some 0)
 else bif ((b.size:Int)==1) then ((sidx b 0).bind fun c =>
 (z148 N a c).bind fun d =>
 some d)
 else bif (decide ((b.size:Int)≥(a.size:Int))) then (some (-1))
 else dead 0
def z145 (N:Nat) (a:ByteArray) (b:ByteArray):Option Int :=
 (z165 N a b).bind fun c =>
 some c
def z101 (N:Nat) (a:ByteArray) (b:ByteArray):Option Bool :=
 (z145 N a b).bind fun c =>
 some (decide (c≥0))
def z51_k1 (N:Nat) (a:T3):Option (T2 × Int × T3) :=
 (ssl a.s' (some a.at') (some (w64 (a.at'+1)))).bind fun b =>
 (z101 N (str [40,41,123,125,44,59,58,46,43,45,42,47,37,60,62,61,33]) b).bind fun c =>
 bif (!c) then (some ((⟨0,(str []),0,0⟩:T2),3,a))
 else some ((⟨4,b,0,0⟩:T2),0,(⟨a.s',(w64 (a.at'+1))⟩:T3))
def z51_l2 (N:Nat) (a:T3):Nat→Int→Option (T2 × Int × T3)
 | 0,_=>none
 | b+1,c =>
 bif (decide (c < 8)) then ((idx ([(str [45,62]),(str [46,46]),(str [60,61]),(str [62,61]),(str [61,61]),(str [33,61]),(str [38,38]),(str [124,124])]:List ByteArray) c).bind fun d =>
 (ssl a.s' (some a.at') none).bind fun e =>
 (z99 N e d).bind fun f =>
 bif f then (some ((⟨4,d,0,0⟩:T2),0,(⟨a.s',(w64 (a.at'+2))⟩:T3)))
 else (z51_l2 N a b) (w64 (c+1)))
 else z51_k1 N a
def z51 (N:Nat) (a:T3):Option (T2 × Int × T3) :=
 z51_l2 N a N 0
def z23_k1 (a:(List T2)):Option ((List T2) × Int × Int) :=
 some (a,0,0)
def z23_l2 (N:Nat) (a:ByteArray):Nat→(List T2)→ByteArray→Int→Option ((List T2) × Int × Int)
 | 0,_,_,_=>none
 | b+1,c,d,e =>
 bif (decide (e < (a.size:Int))) then ((sidx a e).bind fun f =>
 (z52 N f).bind fun g =>
 bif g then ((z53 N (⟨d,e⟩:T3)).bind fun h =>
 bif (h.2.1 != 0) then (some (([]:List T2),e,h.2.1))
 else (appL c ([(⟨h.1.Kind,h.1.Text,h.1.Value,e⟩:T2)]:List T2)).bind fun i =>
 (z50 N h.2.2).bind fun j =>
 (z23_l2 N a b) i j.s' j.at')
 else (z54 N f).bind fun k =>
 bif k then ((z55 N (⟨d,e⟩:T3)).bind fun l =>
 bif (l.2.1 != 0) then (some (([]:List T2),e,l.2.1))
 else (appL c ([(⟨l.1.Kind,l.1.Text,l.1.Value,e⟩:T2)]:List T2)).bind fun m =>
 (z50 N l.2.2).bind fun o =>
 (z23_l2 N a b) m o.s' o.at')
 else bif (f==34) then ((z56 N (⟨d,e⟩:T3)).bind fun p =>
 bif (p.2.1 != 0) then (some (([]:List T2),e,p.2.1))
 else (appL c ([(⟨p.1.Kind,p.1.Text,p.1.Value,e⟩:T2)]:List T2)).bind fun q =>
 (z50 N p.2.2).bind fun r =>
 (z23_l2 N a b) q r.s' r.at')
 else (z51 N (⟨d,e⟩:T3)).bind fun s =>
 bif (s.2.1 != 0) then (some (([]:List T2),e,s.2.1))
 else (appL c ([(⟨s.1.Kind,s.1.Text,s.1.Value,e⟩:T2)]:List T2)).bind fun t =>
 (z50 N s.2.2).bind fun u =>
 (z23_l2 N a b) t u.s' u.at')
 else z23_k1 c
def z23 (N:Nat) (a:ByteArray):Option ((List T2) × Int × Int) :=
 bif (decide ((a.size:Int) > 8000)) then (some (([]:List T2),8000,6))
 else (z50 N (⟨a,0⟩:T3)).bind fun b =>
 z23_l2 N a N ([]:List T2) b.s' b.at'
def z106 (N:Nat) (a:T14):Option T2 :=
 bif (a.err' != 0) then (some (⟨0,(str []),0,0⟩:T2))
 else bif (decide (a.n'≥(a.l'.length:Int))) then (some (⟨0,(str []),0,0⟩:T2))
 else (idx a.l' a.n').bind fun b =>
 some b
def z107 (N:Nat) (a:T14) (b:ByteArray):Option Bool :=
 (z106 N a).bind fun c =>
 bif (c.Kind==4) then (some (c.Text.toList==b.toList))
 else bif (c.Kind==1) then (some (c.Text.toList==b.toList))
 else some false
def z61 (N:Nat) (a:T14) (b:ByteArray):Option (Bool × T14) :=
 (z107 N a b).bind fun c =>
 bif (!c) then (some (false,a))
 else some (true,(⟨a.l',(w64 (a.n'+1)),a.end',a.at',a.err'⟩:T14))
def z105 (N:Nat) (a:T14) (b:Int):Option T14 :=
 bif (a.err' != 0) then (some a)
 else bif (decide (a.n' < (a.l'.length:Int))) then ((idx a.l' a.n').bind fun c =>
 some (⟨a.l',a.n',a.end',c.From,b⟩:T14))
 else some (⟨a.l',a.n',a.end',a.end',b⟩:T14)
def z58 (N:Nat) (a:T14) (b:ByteArray):Option T14 :=
 (z61 N a b).bind fun c =>
 bif (!c.1) then ((z105 N c.2 3).bind fun d =>
 some d)
 else some c.2
def z73_k1:Option Bool :=
 some true
def z73_l2 (N:Nat) (a:ByteArray):Nat→Int→Option Bool
 | 0,_=>none
 | b+1,c =>
 bif (decide (c < (a.size:Int))) then ((sidx a c).bind fun d =>
 (z103 N d).bind fun e =>
 bif (!e) then (some false)
 else (z73_l2 N a b) (w64 (c+1)))
 else z73_k1
def z73 (N:Nat) (a:ByteArray):Option Bool :=
 bif (a.toList==(str []).toList) then (some false)
 else bif (decide ((a.size:Int) > 16)) then (some false)
 else (sidx a 0).bind fun b =>
 (z52 N b).bind fun c =>
 bif (!c) then (some false)
 else z73_l2 N a N 0
def z126_k1:Option Int :=
 some (-1)
def z126_l2 (a:(List ByteArray)) (b:ByteArray):Nat→Int→Option Int
 | 0,_=>none
 | c+1,d =>
 bif (decide (d < (a.length:Int))) then ((idx a d).bind fun e =>
 bif (b.toList==e.toList) then (some d)
 else (z126_l2 a b c) (w64 (d+1)))
 else z126_k1
def z126 (N:Nat) (a:(List ByteArray)) (b:ByteArray):Option Int :=
 z126_l2 a b N 0
def z74 (N:Nat) (a:(List ByteArray)) (b:ByteArray):Option Bool :=
 (z126 N a b).bind fun c =>
 some (decide (c≥0))
def z32 (N:Nat) (a:ByteArray):Option Bool :=
 (z73 N a).bind fun b =>
 bif b then ((z74 N ([(str [97,103,97,105,110]),(str [97,110,100]),(str [97,115]),(str [97,116]),(str [99,97,108,108]),(str [99,104,111,105,99,101]),(str [101,108,115,101]),(str [102,114,111,109]),(str [105,102]),(str [105,110,116]),(str [108,101,110]),(str [108,111,111,112]),(str [109,101,115,115,97,103,101]),(str [111,102]),(str [111,102,102,101,114]),(str [111,110]),(str [111,114]),(str [112,97,114]),(str [112,108,97,121,115]),(str [112,114,111,116,111,99,111,108]),(str [115,101,114,118,105,99,101]),(str [116,101,120,116]),(str [116,105,109,101,115]),(str [116,111]),(str [118,97,114]),(str [119,104,101,114,101]),(str [119,104,105,108,101]),(str [119,105,116,104,105,110])]:List ByteArray) a).bind fun c =>
 some (!c))
 else some false
def z59 (N:Nat) (a:T14):Option (ByteArray × T14) :=
 (z106 N a).bind fun b =>
 bif (b.Kind != 1) then ((z105 N a 3).bind fun c =>
 some ((str []),c))
 else (z32 N b.Text).bind fun d =>
 bif (!d) then ((z105 N a 3).bind fun e =>
 some ((str []),e))
 else some (b.Text,(⟨a.l',(w64 (a.n'+1)),a.end',a.at',a.err'⟩:T14))
def z60_k1 (vbk0_0_0_1:(List T2)) (vbk0_0_1_1:Int) (vbk0_0_2_1:Int) (vbk0_0_3_1:Int) (vbk0_0_4_1:Int) (a:(List ByteArray)):Option ((List ByteArray) × T14) :=
 some (a,(⟨vbk0_0_0_1,vbk0_0_1_1,vbk0_0_2_1,vbk0_0_3_1,vbk0_0_4_1⟩:T14))
def z60_l2 (N:Nat):Nat→(List T2)→Int→Int→Int→Int→(List ByteArray)→Option ((List ByteArray) × T14)
 | 0,_,_,_,_,_,_=>none
 | a+1,vbk0_0_0_3,vbk0_0_1_3,vbk0_0_2_3,vbk0_0_3_3,vbk0_0_4_3,b =>
 (z61 N (⟨vbk0_0_0_3,vbk0_0_1_3,vbk0_0_2_3,vbk0_0_3_3,vbk0_0_4_3⟩:T14) (str [44])).bind fun c =>
 bif c.1 then ((z59 N c.2).bind fun d =>
 (appL b ([d.1]:List ByteArray)).bind fun e =>
 (z60_l2 N a) d.2.l' d.2.n' d.2.end' d.2.at' d.2.err' e)
 else z60_k1 c.2.l' c.2.n' c.2.end' c.2.at' c.2.err' b
def z60 (N:Nat) (a:T14):Option ((List ByteArray) × T14) :=
 (z59 N a).bind fun b =>
 z60_l2 N N b.2.l' b.2.n' b.2.end' b.2.at' b.2.err' ([b.1]:List ByteArray)
def z108_k1 (vbk0_0_0_1:(List T2)) (vbk0_0_1_1:Int) (vbk0_0_2_1:Int) (vbk0_0_3_1:Int) (vbk0_0_4_1:Int) (a:ByteArray):Option (ByteArray × T14) :=
 some (a,(⟨vbk0_0_0_1,vbk0_0_1_1,vbk0_0_2_1,vbk0_0_3_1,vbk0_0_4_1⟩:T14))
def z108_l2 (N:Nat):Nat→(List T2)→Int→Int→Int→Int→ByteArray→Option (ByteArray × T14)
 | 0,_,_,_,_,_,_=>none
 | a+1,vbk0_0_0_3,vbk0_0_1_3,vbk0_0_2_3,vbk0_0_3_3,vbk0_0_4_3,b =>
 (z61 N (⟨vbk0_0_0_3,vbk0_0_1_3,vbk0_0_2_3,vbk0_0_3_3,vbk0_0_4_3⟩:T14) (str [46])).bind fun c =>
 bif c.1 then ((z59 N c.2).bind fun d =>
 (catS (str [46]) d.1).bind fun e =>
 (catS b e).bind fun f =>
 (z108_l2 N a) d.2.l' d.2.n' d.2.end' d.2.at' d.2.err' f)
 else z108_k1 c.2.l' c.2.n' c.2.end' c.2.at' c.2.err' b
def z108 (N:Nat) (a:T14):Option (ByteArray × T14) :=
 (z59 N a).bind fun b =>
 z108_l2 N N b.2.l' b.2.n' b.2.end' b.2.at' b.2.err' b.1
def z151 (N:Nat) (a:T14):Option (Int × T14) :=
 (z106 N a).bind fun b =>
 bif (b.Kind != 2) then ((z105 N a 3).bind fun c =>
 some (0,c))
 else some (b.Value,(⟨a.l',(w64 (a.n'+1)),a.end',a.at',a.err'⟩:T14))
def z150 (N:Nat) (a:T14):Option (Int × T14) :=
 (z61 N a (str [45])).bind fun b =>
 bif b.1 then ((z151 N b.2).bind fun c =>
 some ((w64 (0-c.1)),c.2))
 else (z151 N b.2).bind fun d =>
 some (d.1,d.2)
def z109 (N:Nat) (a:T14):Option (T0 × T14) :=
 (z59 N a).bind fun b =>
 (z58 N b.2 (str [58])).bind fun c =>
 (z61 N c (str [105,110,116])).bind fun d =>
 bif (!d.1) then ((z58 N d.2 (str [116,101,120,116])).bind fun e =>
 (z151 N e).bind fun f =>
 (z58 N f.2 (str [46,46])).bind fun g =>
 (z151 N g).bind fun h =>
 some ((⟨b.1,(⟨2,f.1,h.1⟩:T1)⟩:T0),h.2))
 else (z150 N d.2).bind fun i =>
 (z58 N i.2 (str [46,46])).bind fun j =>
 (z150 N j).bind fun k =>
 some ((⟨b.1,(⟨1,i.1,k.1⟩:T1)⟩:T0),k.2)
def z179_k1:Option Int :=
 some (-1)
def z179_l2 (a:ByteArray) (b:Int):Nat→Int→Option Int
 | 0,_=>none
 | c+1,d =>
 bif (decide (d≥0)) then ((sidx a d).bind fun e =>
 bif (e==b) then (some d)
 else (z179_l2 a b c) (w64 (d-1)))
 else z179_k1
def z179 (N:Nat) (a:ByteArray) (b:Int):Option Int :=
 z179_l2 a b N (w64 ((a.size:Int)-1))
def z171 (N:Nat) (a:ByteArray) (b:Int):Option Int :=
 (z179 N a b).bind fun c =>
 some c
def z152_k1 (N:Nat) (vbk0_0_0_1:(List T2)) (vbk0_0_1_1:Int) (vbk0_0_2_1:Int) (vbk0_0_3_1:Int) (vbk0_0_4_1:Int) (a:Int) (b:ByteArray) (c:ByteArray):Option (T13 × T14) :=
 (z61 N (⟨vbk0_0_0_1,vbk0_0_1_1,vbk0_0_2_1,vbk0_0_3_1,vbk0_0_4_1⟩:T14) (str [43])).bind fun d =>
 bif d.1 then ((z151 N d.2).bind fun e =>
 some ((⟨a,b,c,e.1⟩:T13),e.2))
 else (z61 N d.2 (str [45])).bind fun f =>
 bif f.1 then ((z151 N f.2).bind fun g =>
 some ((⟨a,b,c,(w64 (0-g.1))⟩:T13),g.2))
 else some ((⟨a,b,c,0⟩:T13),f.2)
def z152_k2 (N:Nat) (vbk0_0_0_1:(List T2)) (vbk0_0_1_1:Int) (vbk0_0_2_1:Int) (vbk0_0_3_1:Int) (vbk0_0_4_1:Int) (a:Int) (b:ByteArray):Option (T13 × T14) :=
 (z171 N b 46).bind fun c =>
 bif (decide (c≥0)) then ((ssl b none (some c)).bind fun d =>
 (ssl b (some (w64 (c+1))) none).bind fun e =>
 z152_k1 N vbk0_0_0_1 vbk0_0_1_1 vbk0_0_2_1 vbk0_0_3_1 vbk0_0_4_1 a d e)
 else z152_k1 N vbk0_0_0_1 vbk0_0_1_1 vbk0_0_2_1 vbk0_0_3_1 vbk0_0_4_1 a (str []) b
def z152 (N:Nat) (a:T14):Option (T13 × T14) :=
 (z107 N a (str [45])).bind fun b =>
 bif b then ((z150 N a).bind fun c =>
 some ((⟨1,(str []),(str []),c.1⟩:T13),c.2))
 else (z106 N a).bind fun d =>
 bif (d.Kind==2) then ((z150 N a).bind fun e =>
 some ((⟨1,(str []),(str []),e.1⟩:T13),e.2))
 else (z61 N a (str [108,101,110])).bind fun f =>
 bif f.1 then ((z58 N f.2 (str [40])).bind fun g =>
 (z108 N g).bind fun h =>
 (z58 N h.2 (str [41])).bind fun i =>
 z152_k2 N i.l' i.n' i.end' i.at' i.err' 3 h.1)
 else (z108 N f.2).bind fun j =>
 z152_k2 N j.2.l' j.2.n' j.2.end' j.2.at' j.2.err' 2 j.1
def z78 (N:Nat):Option (List ByteArray) :=
 some ([(str [60]),(str [60,61]),(str [61,61]),(str [62,61]),(str [62])]:List ByteArray)
def z110 (N:Nat) (a:T14):Option (T9 × T14) :=
 (z152 N a).bind fun b =>
 (z106 N b.2).bind fun c =>
 bif (c.Kind==4) then ((z78 N).bind fun d =>
 (z74 N d c.Text).bind fun e =>
 bif e then ((z152 N (⟨b.2.l',(w64 (b.2.n'+1)),b.2.end',b.2.at',b.2.err'⟩:T14)).bind fun f =>
 some ((⟨b.1,c.Text,f.1⟩:T9),f.2))
 else (z105 N b.2 3).bind fun g =>
 (z152 N g).bind fun h =>
 some ((⟨b.1,(str []),h.1⟩:T9),h.2))
 else (z105 N b.2 3).bind fun i =>
 (z152 N i).bind fun j =>
 some ((⟨b.1,(str []),j.1⟩:T9),j.2)
def z62_k1 (N:Nat) (a:ByteArray × T14) (b:(List T0)) (vbk0_0_0_5:(List T2)) (vbk0_0_1_5:Int) (vbk0_0_2_5:Int) (vbk0_0_3_5:Int) (vbk0_0_4_5:Int) (c:(List T9)):Option (T11 × T14) :=
 (z58 N (⟨vbk0_0_0_5,vbk0_0_1_5,vbk0_0_2_5,vbk0_0_3_5,vbk0_0_4_5⟩:T14) (str [59])).bind fun d =>
 some ((⟨a.1,b,c⟩:T11),d)
def z62_l2 (N:Nat) (a:ByteArray × T14) (b:(List T0)):Nat→(List T2)→Int→Int→Int→Int→(List T9)→Option (T11 × T14)
 | 0,_,_,_,_,_,_=>none
 | c+1,vbk0_0_0_7,vbk0_0_1_7,vbk0_0_2_7,vbk0_0_3_7,vbk0_0_4_7,d =>
 (z61 N (⟨vbk0_0_0_7,vbk0_0_1_7,vbk0_0_2_7,vbk0_0_3_7,vbk0_0_4_7⟩:T14) (str [97,110,100])).bind fun e =>
 bif e.1 then ((z110 N e.2).bind fun f =>
 (appL d ([f.1]:List T9)).bind fun g =>
 (z62_l2 N a b c) f.2.l' f.2.n' f.2.end' f.2.at' f.2.err' g)
 else z62_k1 N a b e.2.l' e.2.n' e.2.end' e.2.at' e.2.err' d
def z62_k3 (N:Nat) (a:ByteArray × T14) (vbk0_0_0_1:(List T2)) (vbk0_0_1_1:Int) (vbk0_0_2_1:Int) (vbk0_0_3_1:Int) (vbk0_0_4_1:Int) (b:(List T0)):Option (T11 × T14) :=
 (z61 N (⟨vbk0_0_0_1,vbk0_0_1_1,vbk0_0_2_1,vbk0_0_3_1,vbk0_0_4_1⟩:T14) (str [119,104,101,114,101])).bind fun c =>
 bif c.1 then ((z110 N c.2).bind fun d =>
 (appL ([]:List T9) ([d.1]:List T9)).bind fun e =>
 z62_l2 N a b N d.2.l' d.2.n' d.2.end' d.2.at' d.2.err' e)
 else (z58 N c.2 (str [59])).bind fun f =>
 some ((⟨a.1,b,([]:List T9)⟩:T11),f)
def z62_k4 (N:Nat) (a:ByteArray × T14) (vbk0_0_0_8:(List T2)) (vbk0_0_1_8:Int) (vbk0_0_2_8:Int) (vbk0_0_3_8:Int) (vbk0_0_4_8:Int) (b:(List T0)):Option (T11 × T14) :=
 (z58 N (⟨vbk0_0_0_8,vbk0_0_1_8,vbk0_0_2_8,vbk0_0_3_8,vbk0_0_4_8⟩:T14) (str [41])).bind fun c =>
 z62_k3 N a c.l' c.n' c.end' c.at' c.err' b
def z62_l5 (N:Nat) (a:ByteArray × T14):Nat→(List T2)→Int→Int→Int→Int→(List T0)→Option (T11 × T14)
 | 0,_,_,_,_,_,_=>none
 | b+1,vbk0_0_0_10,vbk0_0_1_10,vbk0_0_2_10,vbk0_0_3_10,vbk0_0_4_10,c =>
 (z61 N (⟨vbk0_0_0_10,vbk0_0_1_10,vbk0_0_2_10,vbk0_0_3_10,vbk0_0_4_10⟩:T14) (str [44])).bind fun d =>
 bif d.1 then ((z109 N d.2).bind fun e =>
 (appL c ([e.1]:List T0)).bind fun f =>
 (z62_l5 N a b) e.2.l' e.2.n' e.2.end' e.2.at' e.2.err' f)
 else z62_k4 N a d.2.l' d.2.n' d.2.end' d.2.at' d.2.err' c
def z62 (N:Nat) (a:T14):Option (T11 × T14) :=
 (z108 N a).bind fun b =>
 (z58 N b.2 (str [40])).bind fun c =>
 (z61 N c (str [41])).bind fun d =>
 bif (!d.1) then ((z109 N d.2).bind fun e =>
 (appL ([]:List T0) ([e.1]:List T0)).bind fun f =>
 z62_l5 N b N e.2.l' e.2.n' e.2.end' e.2.at' e.2.err' f)
 else z62_k3 N b d.2.l' d.2.n' d.2.end' d.2.at' d.2.err' ([]:List T0)
def z154 (N:Nat) (rc:T14→Option ((List T10) × T14)) (a:T14):Option ((List T10) × T14) :=
 (z58 N a (str [123])).bind fun b =>
 (rc b).bind fun c =>
 (z58 N c.2 (str [125])).bind fun d =>
 some (c.1,d)
def z153_k1 (N:Nat) (rc:T14→Option ((List T10) × T14)) (a:ByteArray × T14) (b:Int) (vbk0_0_0_2:(List T2)) (vbk0_0_1_2:Int) (vbk0_0_2_2:Int) (vbk0_0_3_2:Int) (vbk0_0_4_2:Int) (c:(List (List T10))):Option (T10 × T14) :=
 bif (decide (b > 0)) then ((z58 N (⟨vbk0_0_0_2,vbk0_0_1_2,vbk0_0_2_2,vbk0_0_3_2,vbk0_0_4_2⟩:T14) (str [101,108,115,101])).bind fun d =>
 (z154 N rc d).bind fun e =>
 (appL c ([e.1]:List (List T10))).bind fun f =>
 some ((⟨2,a.1,([]:List ByteArray),(str []),(str []),b,f⟩:T10),e.2))
 else some ((⟨2,a.1,([]:List ByteArray),(str []),(str []),b,c⟩:T10),(⟨vbk0_0_0_2,vbk0_0_1_2,vbk0_0_2_2,vbk0_0_3_2,vbk0_0_4_2⟩:T14))
def z153_l2 (N:Nat) (rc:T14→Option ((List T10) × T14)) (a:ByteArray × T14) (b:Int):Nat→(List T2)→Int→Int→Int→Int→(List (List T10))→Option (T10 × T14)
 | 0,_,_,_,_,_,_=>none
 | c+1,vbk0_0_0_4,vbk0_0_1_4,vbk0_0_2_4,vbk0_0_3_4,vbk0_0_4_4,d =>
 (z61 N (⟨vbk0_0_0_4,vbk0_0_1_4,vbk0_0_2_4,vbk0_0_3_4,vbk0_0_4_4⟩:T14) (str [111,114])).bind fun e =>
 bif e.1 then ((z154 N rc e.2).bind fun f =>
 (appL d ([f.1]:List (List T10))).bind fun g =>
 (z153_l2 N rc a b c) f.2.l' f.2.n' f.2.end' f.2.at' f.2.err' g)
 else z153_k1 N rc a b e.2.l' e.2.n' e.2.end' e.2.at' e.2.err' d
def z153_k3 (N:Nat) (rc:T14→Option ((List T10) × T14)) (a:ByteArray × T14) (vbk0_0_0_1:(List T2)) (vbk0_0_1_1:Int) (vbk0_0_2_1:Int) (vbk0_0_3_1:Int) (vbk0_0_4_1:Int) (b:Int):Option (T10 × T14) :=
 (z154 N rc (⟨vbk0_0_0_1,vbk0_0_1_1,vbk0_0_2_1,vbk0_0_3_1,vbk0_0_4_1⟩:T14)).bind fun c =>
 z153_l2 N rc a b N c.2.l' c.2.n' c.2.end' c.2.at' c.2.err' ([c.1]:List (List T10))
def z153 (N:Nat) (rc:T14→Option ((List T10) × T14)) (a:T14):Option (T10 × T14) :=
 (z58 N a (str [97,116])).bind fun b =>
 (z59 N b).bind fun c =>
 (z61 N c.2 (str [119,105,116,104,105,110])).bind fun d =>
 bif d.1 then ((z106 N d.2).bind fun e =>
 bif (e.Kind==2) then (bif (decide (e.Value < 1)) then ((z105 N d.2 2).bind fun f =>
 (z151 N f).bind fun g =>
 z153_k3 N rc c g.2.l' g.2.n' g.2.end' g.2.at' g.2.err' g.1)
 else bif (decide (e.Value > 1000)) then ((z105 N d.2 2).bind fun h =>
 (z151 N h).bind fun i =>
 z153_k3 N rc c i.2.l' i.2.n' i.2.end' i.2.at' i.2.err' i.1)
 else (z151 N d.2).bind fun j =>
 z153_k3 N rc c j.2.l' j.2.n' j.2.end' j.2.at' j.2.err' j.1)
 else (z151 N d.2).bind fun k =>
 z153_k3 N rc c k.2.l' k.2.n' k.2.end' k.2.at' k.2.err' k.1)
 else z153_k3 N rc c d.2.l' d.2.n' d.2.end' d.2.at' d.2.err' 0
def z111_k1 (vbk0_0_0_1:(List T2)) (vbk0_0_1_1:Int) (vbk0_0_2_1:Int) (vbk0_0_3_1:Int) (vbk0_0_4_1:Int) (a:(List (List T10))):Option (T10 × T14) :=
 some ((⟨5,(str []),([]:List ByteArray),(str []),(str []),0,a⟩:T10),(⟨vbk0_0_0_1,vbk0_0_1_1,vbk0_0_2_1,vbk0_0_3_1,vbk0_0_4_1⟩:T14))
def z111_l2 (N:Nat) (rc:T14→Option ((List T10) × T14)):Nat→(List T2)→Int→Int→Int→Int→(List (List T10))→Option (T10 × T14)
 | 0,_,_,_,_,_,_=>none
 | a+1,vbk0_0_0_3,vbk0_0_1_3,vbk0_0_2_3,vbk0_0_3_3,vbk0_0_4_3,b =>
 (z61 N (⟨vbk0_0_0_3,vbk0_0_1_3,vbk0_0_2_3,vbk0_0_3_3,vbk0_0_4_3⟩:T14) (str [97,110,100])).bind fun c =>
 bif c.1 then ((z154 N rc c.2).bind fun d =>
 (appL b ([d.1]:List (List T10))).bind fun e =>
 (z111_l2 N rc a) d.2.l' d.2.n' d.2.end' d.2.at' d.2.err' e)
 else z111_k1 c.2.l' c.2.n' c.2.end' c.2.at' c.2.err' b
def z111 (N:Nat) (rc:T14→Option ((List T10) × T14)) (a:T14):Option (T10 × T14) :=
 (z61 N a (str [99,104,111,105,99,101])).bind fun b =>
 bif b.1 then ((z153 N rc b.2).bind fun c =>
 some (c.1,c.2))
 else (z61 N b.2 (str [108,111,111,112])).bind fun d =>
 bif d.1 then ((z108 N d.2).bind fun e =>
 (z154 N rc e.2).bind fun f =>
 some ((⟨3,(str []),([]:List ByteArray),e.1,(str []),0,([f.1]:List (List T10))⟩:T10),f.2))
 else (z61 N d.2 (str [97,103,97,105,110])).bind fun g =>
 bif g.1 then ((z108 N g.2).bind fun h =>
 (z58 N h.2 (str [59])).bind fun i =>
 some ((⟨4,(str []),([]:List ByteArray),h.1,(str []),0,([]:List (List T10))⟩:T10),i))
 else (z61 N g.2 (str [112,97,114])).bind fun j =>
 bif j.1 then ((z154 N rc j.2).bind fun k =>
 (z58 N k.2 (str [97,110,100])).bind fun l =>
 (z154 N rc l).bind fun m =>
 (appL ([k.1]:List (List T10)) ([m.1]:List (List T10))).bind fun o =>
 z111_l2 N rc N m.2.l' m.2.n' m.2.end' m.2.at' m.2.err' o)
 else (z61 N j.2 (str [99,97,108,108])).bind fun p =>
 bif p.1 then ((z59 N p.2).bind fun q =>
 (z58 N q.2 (str [40])).bind fun r =>
 (z60 N r).bind fun s =>
 (z58 N s.2 (str [41])).bind fun t =>
 (z58 N t (str [97,115])).bind fun u =>
 (z59 N u).bind fun v =>
 (z58 N v.2 (str [59])).bind fun w =>
 some ((⟨6,(str []),s.1,q.1,v.1,0,([]:List (List T10))⟩:T10),w))
 else (z59 N p.2).bind fun x =>
 (z58 N x.2 (str [45,62])).bind fun y =>
 (z60 N y).bind fun z =>
 (z58 N z.2 (str [58])).bind fun A =>
 (z108 N A).bind fun B =>
 (z58 N B.2 (str [59])).bind fun C =>
 some ((⟨1,x.1,z.1,B.1,(str []),0,([]:List (List T10))⟩:T10),C)
def z63_l1 (N:Nat) (rc:T14→Option ((List T10) × T14)):Nat→(List T2)→Int→Int→Int→Int→(List T10)→Option ((List T10) × T14)
 | 0,_,_,_,_,_,_=>none
 | a+1,vbk0_0_0_1,vbk0_0_1_1,vbk0_0_2_1,vbk0_0_3_1,vbk0_0_4_1,b =>
 (z106 N (⟨vbk0_0_0_1,vbk0_0_1_1,vbk0_0_2_1,vbk0_0_3_1,vbk0_0_4_1⟩:T14)).bind fun c =>
 bif (c.Kind != 1) then (some (b,(⟨vbk0_0_0_1,vbk0_0_1_1,vbk0_0_2_1,vbk0_0_3_1,vbk0_0_4_1⟩:T14)))
 else (z32 N c.Text).bind fun d =>
 bif (!d) then ((z74 N ([(str [99,104,111,105,99,101]),(str [108,111,111,112]),(str [97,103,97,105,110]),(str [112,97,114]),(str [99,97,108,108])]:List ByteArray) c.Text).bind fun e =>
 bif (!e) then (some (b,(⟨vbk0_0_0_1,vbk0_0_1_1,vbk0_0_2_1,vbk0_0_3_1,vbk0_0_4_1⟩:T14)))
 else (z111 N rc (⟨vbk0_0_0_1,vbk0_0_1_1,vbk0_0_2_1,vbk0_0_3_1,vbk0_0_4_1⟩:T14)).bind fun f =>
 (appL b ([f.1]:List T10)).bind fun g =>
 (z63_l1 N rc a) f.2.l' f.2.n' f.2.end' f.2.at' f.2.err' g)
 else (z111 N rc (⟨vbk0_0_0_1,vbk0_0_1_1,vbk0_0_2_1,vbk0_0_3_1,vbk0_0_4_1⟩:T14)).bind fun h =>
 (appL b ([h.1]:List T10)).bind fun i =>
 (z63_l1 N rc a) h.2.l' h.2.n' h.2.end' h.2.at' h.2.err' i
def z63_b (N:Nat) (rc:T14→Option ((List T10) × T14)) (a:T14):Option ((List T10) × T14) :=
 z63_l1 N rc N a.l' a.n' a.end' a.at' a.err' ([]:List T10)
def z63_r:Nat→T14→Option ((List T10) × T14)
 | 0,_=>none
 | N+1,a0=>z63_b N (z63_r N) a0
def z63 (N:Nat) (a:T14):Option ((List T10) × T14):=z63_r N a
def z25_k1 (N:Nat) (a:ByteArray × T14) (b:(List ByteArray) × T14) (vbk0_0_0_1:(List T2)) (vbk0_0_1_1:Int) (vbk0_0_2_1:Int) (vbk0_0_3_1:Int) (vbk0_0_4_1:Int) (c:(List T11)):Option (T12 × T14) :=
 (z63 N (⟨vbk0_0_0_1,vbk0_0_1_1,vbk0_0_2_1,vbk0_0_3_1,vbk0_0_4_1⟩:T14)).bind fun d =>
 (z58 N d.2 (str [125])).bind fun e =>
 some ((⟨a.1,b.1,c,d.1⟩:T12),e)
def z25_l2 (N:Nat) (a:ByteArray × T14) (b:(List ByteArray) × T14):Nat→(List T2)→Int→Int→Int→Int→(List T11)→Option (T12 × T14)
 | 0,_,_,_,_,_,_=>none
 | c+1,vbk0_0_0_3,vbk0_0_1_3,vbk0_0_2_3,vbk0_0_3_3,vbk0_0_4_3,d =>
 (z61 N (⟨vbk0_0_0_3,vbk0_0_1_3,vbk0_0_2_3,vbk0_0_3_3,vbk0_0_4_3⟩:T14) (str [109,101,115,115,97,103,101])).bind fun e =>
 bif e.1 then ((z62 N e.2).bind fun f =>
 (appL d ([f.1]:List T11)).bind fun g =>
 (z25_l2 N a b c) f.2.l' f.2.n' f.2.end' f.2.at' f.2.err' g)
 else z25_k1 N a b e.2.l' e.2.n' e.2.end' e.2.at' e.2.err' d
def z25 (N:Nat) (a:T14):Option (T12 × T14) :=
 (z58 N a (str [112,114,111,116,111,99,111,108])).bind fun b =>
 (z59 N b).bind fun c =>
 (z58 N c.2 (str [40])).bind fun d =>
 (z60 N d).bind fun e =>
 (z58 N e.2 (str [41])).bind fun f =>
 (z58 N f (str [123])).bind fun g =>
 z25_l2 N c e N g.l' g.n' g.end' g.at' g.err' ([]:List T11)
def z75 (N:Nat) (a:ByteArray):Option Bool :=
 (z32 N a).bind fun b =>
 some (!b)
def z96_2_k1:Option Int :=
 some (-1)
def z96_2_l2 (N:Nat) (a:(List ByteArray)):Nat→Int→Option Int
 | 0,_=>none
 | b+1,c =>
 bif (decide (c < (a.length:Int))) then ((idx a c).bind fun d =>
 (z75 N d).bind fun e =>
 bif e then (some c)
 else (z96_2_l2 N a b) (w64 (c+1)))
 else z96_2_k1
def z96_2 (N:Nat) (a:(List ByteArray)):Option Int :=
 z96_2_l2 N a N 0
def z47_3 (N:Nat) (a:(List ByteArray)):Option Bool :=
 (z96_2 N a).bind fun b =>
 some (decide (b≥0))
def z33 (N:Nat) (a:(List ByteArray)) (b:Int):Option Bool :=
 bif (decide ((a.length:Int)≥1)) then (bif (decide ((a.length:Int)≤b)) then ((z47_3 N a).bind fun c =>
 some (!c))
 else some false)
 else some false
def z162_k1 (a:Int) (b:Nat):Option Int :=
 some a
def z162_l2 (a:ByteArray):Nat→Int→Nat→Option Int
 | 0,_,_=>none
 | b+1,c,d =>
 bif decide (d < a.size) then ((z162_l2 a b) (w64 (c+1)) (d+(Utf8.decode a d).2))
 else z162_k1 c d
def z162 (N:Nat) (a:ByteArray):Option Int :=
 z162_l2 a N 0 (0:Nat)
def z177 (N:Nat) (a:ByteArray):Option (Int × Int) :=
 bif (decide ((a.size:Int) < 1)) then (some (65533,0))
 else (sidx a 0).bind fun b =>
 dead 0
def z163 (N:Nat) (a:ByteArray):Option (Int × Int) :=
 bif (!(a.toList==(str []).toList)) then ((sidx a 0).bind fun b =>
 bif (decide (b < 128)) then ((sidx a 0).bind fun c =>
 some ((wk .i32 (c)),1))
 else (z177 N a).bind fun d =>
 some (d.1,d.2))
 else (z177 N a).bind fun e =>
 some (e.1,e.2)
def z143_k1 (a:Int) (b:ByteArray) (c:(List ByteArray)):Option (List ByteArray) :=
 bif (decide (a > 0)) then ((idx c (w64 (a-1))).bind fun d =>
 some (setL' c (w64 (a-1)) b))
 else some c
def z143_l2 (N:Nat) (a:Int):Nat→ByteArray→(List ByteArray)→Int→Option (List ByteArray)
 | 0,_,_,_=>none
 | b+1,c,d,e =>
 bif (decide (e < (w64 (a-1)))) then ((z163 N c).bind fun f =>
 (ssl c none (some f.2)).bind fun g =>
 (idx d e).bind fun h =>
 (ssl c (some f.2) none).bind fun i =>
 (z143_l2 N a b) i (setL' d e g) (w64 (e+1)))
 else z143_k1 a c d
def z143_k3 (N:Nat) (a:ByteArray) (b:Int):Option (List ByteArray) :=
 (mkL (str []) b b).bind fun c =>
 z143_l2 N b N a c 0
def z143_k4 (N:Nat) (a:ByteArray) (b:Int) (c:Int) (d:Bool):Option (List ByteArray) :=
 bif d then (z143_k3 N a c)
 else z143_k3 N a b
def z143 (N:Nat) (a:ByteArray) (b:Int):Option (List ByteArray) :=
 (z162 N a).bind fun c =>
 bif (decide (b < 0)) then (z143_k4 N a b c true)
 else z143_k4 N a b c (decide (b > c))
def z144_l1 (N:Nat) (a:ByteArray):Nat→ByteArray→Int→Option Int
 | 0,_,_=>none
 | b+1,c,d =>
 (z145 N c a).bind fun e =>
 bif (e==(-1)) then (some d)
 else (ssl c (some (w64 (e+(a.size:Int)))) none).bind fun f =>
 (z144_l1 N a b) f (w64 (d+1))
def z144 (N:Nat) (a:ByteArray) (b:ByteArray):Option Int :=
 bif ((b.size:Int)==0) then ((z162 N a).bind fun c =>
 some (w64 (c+1)))
 else bif ((b.size:Int)==1) then ((sidx b 0).bind fun d =>
 some (countB a d))
 else z144_l1 N b N a 0
def z97_k1 (a:ByteArray) (b:(List ByteArray)) (c:Int):Option (List ByteArray) :=
 (idx b c).bind fun d =>
 (lsl (setL' b c a) none (some (w64 (c+1)))).bind fun e =>
 some e
def z97_l2 (N:Nat) (a:ByteArray) (b:ByteArray) (c:Int) (d:Int):Nat→ByteArray→(List ByteArray)→Int→Option (List ByteArray)
 | 0,_,_,_=>none
 | e+1,f,g,h =>
 bif (decide (h < (w64 ((minI d (w64 ((a.size:Int)+1)))-1)))) then ((z145 N f b).bind fun i =>
 bif (decide (i < 0)) then (z97_k1 f g h)
 else (ssl f none (some (w64 (i+c)))).bind fun j =>
 (idx g h).bind fun k =>
 (ssl f (some (w64 (i+(b.size:Int)))) none).bind fun l =>
 (z97_l2 N a b c d e) l (setL' g h j) (w64 (h+1)))
 else z97_k1 f g h
def z97_k3 (N:Nat) (a:ByteArray) (b:ByteArray) (c:Int) (d:Int):Option (List ByteArray) :=
 (mkL (str []) (minI d (w64 ((a.size:Int)+1))) (minI d (w64 ((a.size:Int)+1)))).bind fun e =>
 z97_l2 N a b c d N a e 0
def z97 (N:Nat) (a:ByteArray) (b:ByteArray) (c:Int) (d:Int):Option (List ByteArray) :=
 bif (d==0) then (some ([]:List ByteArray))
 else bif (b.toList==(str []).toList) then ((z143 N a d).bind fun e =>
 some e)
 else bif (decide (d < 0)) then ((z144 N a b).bind fun f =>
 z97_k3 N a b c (w64 (f+1)))
 else z97_k3 N a b c d
def z48 (N:Nat) (a:ByteArray) (b:ByteArray):Option (List ByteArray) :=
 (z97 N a b 0 (-1)).bind fun c =>
 some c
def z49 (N:Nat) (a:ByteArray):Option Bool :=
 (z32 N a).bind fun b =>
 some (!b)
def z96_4_k1:Option Int :=
 some (-1)
def z96_4_l2 (N:Nat) (a:(List ByteArray)):Nat→Int→Option Int
 | 0,_=>none
 | b+1,c =>
 bif (decide (c < (a.length:Int))) then ((idx a c).bind fun d =>
 (z49 N d).bind fun e =>
 bif e then (some c)
 else (z96_4_l2 N a b) (w64 (c+1)))
 else z96_4_k1
def z96_4 (N:Nat) (a:(List ByteArray)):Option Int :=
 z96_4_l2 N a N 0
def z47_5 (N:Nat) (a:(List ByteArray)):Option Bool :=
 (z96_4 N a).bind fun b =>
 some (decide (b≥0))
def z21 (N:Nat) (a:ByteArray):Option Bool :=
 bif (decide ((a.size:Int)≤50)) then ((z48 N a (str [46])).bind fun b =>
 (z47_5 N b).bind fun c =>
 some (!c))
 else some false
def z76_k1 (N:Nat) (a:T10) (b:Bool):Option Bool :=
 bif b then (bif (a.From.toList==(str []).toList) then (bif ((a.To.length:Int)==0) then ((z21 N a.Name).bind fun c =>
 bif c then (bif (a.As.toList==(str []).toList) then (bif (a.Ticks==0) then (bif ((a.Kind==3)==((a.Blocks.length:Int)==1)) then (some (decide ((a.Blocks.length:Int)≤1)))
 else some false)
 else some false)
 else some false)
 else some false)
 else some false)
 else some false)
 else bif (a.Kind==5) then (bif (a.From.toList==(str []).toList) then (bif ((a.To.length:Int)==0) then (bif (a.Name.toList==(str []).toList) then (bif (a.As.toList==(str []).toList) then (bif (a.Ticks==0) then (bif (decide ((a.Blocks.length:Int)≥2)) then (some (decide ((a.Blocks.length:Int)≤8)))
 else some false)
 else some false)
 else some false)
 else some false)
 else some false)
 else some false)
 else bif (a.Kind==6) then (bif (a.From.toList==(str []).toList) then ((z33 N a.To 6).bind fun d =>
 bif d then ((z32 N a.Name).bind fun e =>
 bif e then ((z32 N a.As).bind fun f =>
 bif f then (bif (a.Ticks==0) then (some ((a.Blocks.length:Int)==0))
 else some false)
 else some false)
 else some false)
 else some false)
 else some false)
 else some false
def z76 (N:Nat) (a:T10):Option Bool :=
 bif (a.Kind==1) then ((z32 N a.From).bind fun b =>
 bif b then ((z33 N a.To 5).bind fun c =>
 bif c then ((z21 N a.Name).bind fun d =>
 bif d then (bif (a.As.toList==(str []).toList) then (bif (a.Ticks==0) then (some ((a.Blocks.length:Int)==0))
 else some false)
 else some false)
 else some false)
 else some false)
 else some false)
 else bif (a.Kind==2) then ((z32 N a.From).bind fun e =>
 bif e then (bif ((a.To.length:Int)==0) then (bif (a.Name.toList==(str []).toList) then (bif (a.As.toList==(str []).toList) then (bif (decide (a.Ticks≥0)) then (bif (decide (a.Ticks≤1000)) then (bif (decide ((a.Blocks.length:Int)≥(w64 (1+(minI a.Ticks 1))))) then (some (decide ((a.Blocks.length:Int)≤8)))
 else some false)
 else some false)
 else some false)
 else some false)
 else some false)
 else some false)
 else some false)
 else bif (a.Kind==3) then (z76_k1 N a true)
 else z76_k1 N a (a.Kind==4)
def z34_k1 (vbk1_1_0_1:Int):Option (Bool × Int) :=
 some (true,vbk1_1_0_1)
def z34_k3 (a:Int) (b:Int→Int→Option (Bool × Int)) (vbk1_1_0_19:Int):Option (Bool × Int) :=
 b vbk1_1_0_19 (w64 (a+1))
def z34_l4 (rc:(List T10)→Int→Int→Option (Bool × Int)) (a:Int) (b:Int) (c:Int→Int→Option (Bool × Int)) (d:T10):Nat→Int→Int→Option (Bool × Int)
 | 0,_,_=>none
 | e+1,vbk1_1_0_21,f =>
 bif (decide (f < (d.Blocks.length:Int))) then ((idx d.Blocks f).bind fun g =>
 (rc g (w64 (a+1)) vbk1_1_0_21).bind fun h =>
 bif (!h.1) then (some (false,h.2))
 else (z34_l4 rc a b c d e) h.2 (w64 (f+1)))
 else z34_k3 b c vbk1_1_0_21
def z34_l2 (N:Nat) (rc:(List T10)→Int→Int→Option (Bool × Int)) (a:(List T10)) (b:Int):Nat→Int→Int→Option (Bool × Int)
 | 0,_,_=>none
 | c+1,vbk1_1_0_12,d =>
 bif (decide (d < (a.length:Int))) then ((idx a d).bind fun e =>
 bif (decide (b > 10)) then (some (false,(w64 (vbk1_1_0_12+1))))
 else bif (decide ((w64 (vbk1_1_0_12+1)) > 300)) then (some (false,(w64 (vbk1_1_0_12+1))))
 else (z76 N e).bind fun f =>
 bif (!f) then (some (false,(w64 (vbk1_1_0_12+1))))
 else z34_l4 rc b d (z34_l2 N rc a b c) e N (w64 (vbk1_1_0_12+1)) 0)
 else z34_k1 vbk1_1_0_12
def z34_b (N:Nat) (rc:(List T10)→Int→Int→Option (Bool × Int)) (a:(List T10)) (b:Int) (c:Int):Option (Bool × Int) :=
 z34_l2 N rc a b N c 0
def z34_r:Nat→(List T10)→Int→Int→Option (Bool × Int)
 | 0,_,_,_=>none
 | N+1,a0,a1,a2=>z34_b N (z34_r N) a0 a1 a2
def z34 (N:Nat) (a:(List T10)) (b:Int) (c:Int):Option (Bool × Int):=z34_r N a b c
def z127 (N:Nat) (a:Int):Option Bool :=
 bif (decide (a≥(-999999))) then (some (decide (a≤999999)))
 else some false
def z77_k1 (N:Nat) (a:T13) (b:Bool):Option Bool :=
 bif b then ((z32 N a.Field).bind fun c =>
 bif c then (bif (a.Message.toList==(str []).toList) then (some true)
 else (z21 N a.Message).bind fun d =>
 some d)
 else some false)
 else some false
def z77 (N:Nat) (a:T13):Option Bool :=
 (z127 N a.N).bind fun b =>
 bif (!b) then (some false)
 else bif (a.Kind==1) then (bif (a.Message.toList==(str []).toList) then (some (a.Field.toList==(str []).toList))
 else some false)
 else bif (a.Kind==2) then (z77_k1 N a true)
 else z77_k1 N a (a.Kind==3)
def z35_k1:Option Bool :=
 some true
def z35_l2 (N:Nat) (a:T11):Nat→Int→Option Bool
 | 0,_=>none
 | b+1,c =>
 bif (decide (c < (a.Where.length:Int))) then ((idx a.Where c).bind fun d =>
 (z77 N d.Left).bind fun e =>
 bif (!e) then (some false)
 else (z77 N d.Right).bind fun f =>
 bif (!f) then (some false)
 else (z78 N).bind fun g =>
 (z74 N g d.Op).bind fun h =>
 bif (!h) then (some false)
 else (z35_l2 N a b) (w64 (c+1)))
 else z35_k1
def z35_k3 (N:Nat) (a:T11):Option Bool :=
 z35_l2 N a N 0
def z35_k5 (N:Nat) (a:Int) (b:Int→Option Bool) (c:T0) (d:Int):Option Bool :=
 (z32 N c.Name).bind fun e =>
 bif (!e) then (some false)
 else bif (c.Sort'.Kind != 1) then (bif (c.Sort'.Kind != 2) then (some false)
 else bif (decide ((minI c.Sort'.Lo c.Sort'.Hi) < d)) then (some false)
 else bif (decide ((maxI c.Sort'.Lo c.Sort'.Hi) > 999999)) then (some false)
 else b (w64 (a+1)))
 else bif (decide ((minI c.Sort'.Lo c.Sort'.Hi) < d)) then (some false)
 else bif (decide ((maxI c.Sort'.Lo c.Sort'.Hi) > 999999)) then (some false)
 else b (w64 (a+1))
def z35_l4 (N:Nat) (a:T11):Nat→Int→Option Bool
 | 0,_=>none
 | b+1,c =>
 bif (decide (c < (a.Fields.length:Int))) then ((idx a.Fields c).bind fun d =>
 bif (d.Sort'.Kind==2) then (z35_k5 N c (z35_l4 N a b) d 0)
 else z35_k5 N c (z35_l4 N a b) d (-999999))
 else z35_k3 N a
def z35 (N:Nat) (a:T11):Option Bool :=
 (z21 N a.Name).bind fun b =>
 bif (!b) then (some false)
 else bif (decide ((a.Fields.length:Int) > 4)) then (some false)
 else bif (decide ((a.Where.length:Int) > 6)) then (some false)
 else z35_l4 N a N 0
def z80 (N:Nat) (a:List ByteArray) (b:ByteArray):Option ByteArray:=bif (decide (a.length≤140737488355328) && decide ((joinL b.data.toList (a.map (·.data.toList))).length≤140737488355328)) then some ⟨(joinL b.data.toList (a.map (·.data.toList))).toArray⟩ else none
def repL (l:List UInt8):Nat→List UInt8
 | 0=>[]
 | n+1=>l++repL l n
def z129 (N:Nat) (a:ByteArray) (b:Int):Option ByteArray :=
 bif (decide (0≤b) && decide (b≤140737488355328)) && decide (a.size * b.toNat≤140737488355328) then some ⟨(repL a.data.toList b.toNat).toArray⟩ else none
def z149_6 (N:Nat) (a:T15):Option T15 :=
 some (⟨ByteArray.empty,a.depth'⟩:T15)
def z128_7 (N:Nat) (a:ByteArray) (b:T15):Option (Int × Unit × T15) :=
 (z149_6 N (⟨ByteArray.empty,b.depth'⟩:T15)).bind fun c =>
 (apB c.Builder a).bind fun d =>
 some ((a.size:Int),(),(⟨d,c.depth'⟩:T15))
def z79_8 (N:Nat) (a:(List ByteArray)) (b:T15):Option T15 :=
 (z129 N (str [9]) b.depth').bind fun c =>
 (z80 N a (str [])).bind fun d =>
 (catS c d).bind fun e =>
 (catS e (str [10])).bind fun f =>
 (z128_7 N f (⟨ByteArray.empty,b.depth'⟩:T15)).bind fun g =>
 some g.2.2
def z131 (N:Nat) (a:Int):Option ByteArray:=bif (decide ((-9223372036854775808)≤a) && decide (a≤9223372036854775807)) then some (itoaS a) else none
def z132_k1 (N:Nat) (a:T13) (b:ByteArray):Option ByteArray :=
 bif (decide (a.N > 0)) then ((z131 N a.N).bind fun c =>
 (catS (str [32,43,32]) c).bind fun d =>
 (catS b d).bind fun e =>
 some e)
 else bif (decide (a.N < 0)) then ((z131 N (w64 (0-a.N))).bind fun f =>
 (catS (str [32,45,32]) f).bind fun g =>
 (catS b g).bind fun h =>
 some h)
 else some b
def z132_k2 (N:Nat) (a:T13) (b:ByteArray):Option ByteArray :=
 bif (a.Kind==3) then ((catS (str [108,101,110,40]) b).bind fun c =>
 (catS c (str [41])).bind fun d =>
 z132_k1 N a d)
 else z132_k1 N a b
def z132 (N:Nat) (a:T13):Option ByteArray :=
 bif (a.Kind==1) then ((z131 N a.N).bind fun b =>
 some b)
 else bif (!(a.Message.toList==(str []).toList)) then ((catS a.Message (str [46])).bind fun c =>
 (catS c a.Field).bind fun d =>
 z132_k2 N a d)
 else z132_k2 N a a.Field
def z149_9 (N:Nat) (a:T15):Option Unit :=
 some ()
def z128_10 (N:Nat) (a:ByteArray) (b:T15):Option (Int × Unit × T15) :=
 (z149_9 N b).bind fun c =>
 (apB b.Builder a).bind fun d =>
 some ((a.size:Int),(),(⟨d,b.depth'⟩:T15))
def z79_11 (N:Nat) (a:(List ByteArray)) (b:T15):Option T15 :=
 (z129 N (str [9]) b.depth').bind fun c =>
 (z80 N a (str [])).bind fun d =>
 (catS c d).bind fun e =>
 (catS e (str [10])).bind fun f =>
 (z128_10 N f b).bind fun g =>
 some g.2.2
def z81_12_k1 (N:Nat) (a:T11) (b:T15) (c:(List ByteArray)) (d:(List ByteArray)):Option T15 :=
 bif (decide ((d.length:Int) > 0)) then ((z80 N d (str [32,97,110,100,32])).bind fun e =>
 (catS (str [32,119,104,101,114,101,32]) e).bind fun f =>
 (z80 N c (str [44,32])).bind fun g =>
 (z79_11 N ([(str [109,101,115,115,97,103,101,32]),a.Name,(str [40]),g,(str [41]),f,(str [59])]:List ByteArray) b).bind fun h =>
 some h)
 else (z80 N c (str [44,32])).bind fun i =>
 (z79_11 N ([(str [109,101,115,115,97,103,101,32]),a.Name,(str [40]),i,(str [41]),(str []),(str [59])]:List ByteArray) b).bind fun j =>
 some j
def z81_12_l2 (N:Nat) (a:T11) (b:T15) (c:(List ByteArray)):Nat→(List ByteArray)→Int→Option T15
 | 0,_,_=>none
 | d+1,e,f =>
 bif (decide (f < (a.Where.length:Int))) then ((idx a.Where f).bind fun g =>
 (z132 N g.Left).bind fun h =>
 (catS h (str [32])).bind fun i =>
 (catS i g.Op).bind fun j =>
 (catS j (str [32])).bind fun k =>
 (z132 N g.Right).bind fun l =>
 (catS k l).bind fun m =>
 (appL e ([m]:List ByteArray)).bind fun o =>
 (z81_12_l2 N a b c d) o (w64 (f+1)))
 else z81_12_k1 N a b c e
def z81_12_k3 (N:Nat) (a:T11) (b:T15) (c:(List ByteArray)):Option T15 :=
 z81_12_l2 N a b c N ([]:List ByteArray) 0
def z81_12_k5 (N:Nat) (a:(List ByteArray)) (b:Int) (c:(List ByteArray)→Int→Option T15) (d:T0) (e:ByteArray):Option T15 :=
 (catS d.Name e).bind fun f =>
 (z131 N d.Sort'.Lo).bind fun g =>
 (catS f g).bind fun h =>
 (catS h (str [46,46])).bind fun i =>
 (z131 N d.Sort'.Hi).bind fun j =>
 (catS i j).bind fun k =>
 (appL a ([k]:List ByteArray)).bind fun l =>
 c l (w64 (b+1))
def z81_12_l4 (N:Nat) (a:T11) (b:T15):Nat→(List ByteArray)→Int→Option T15
 | 0,_,_=>none
 | c+1,d,e =>
 bif (decide (e < (a.Fields.length:Int))) then ((idx a.Fields e).bind fun f =>
 bif (f.Sort'.Kind==2) then (z81_12_k5 N d e (z81_12_l4 N a b c) f (str [58,32,116,101,120,116,32]))
 else z81_12_k5 N d e (z81_12_l4 N a b c) f (str [58,32,105,110,116,32]))
 else z81_12_k3 N a b d
def z81_12 (N:Nat) (a:T11) (b:T15):Option T15 :=
 z81_12_l4 N a b N ([]:List ByteArray) 0
def z133_13_k1 (N:Nat) (vbk1_1_1_1:ByteArray) (vbk1_1_2_1:Int):Option T15 :=
 (z79_11 N ([(str [125])]:List ByteArray) (⟨vbk1_1_1_1,vbk1_1_2_1⟩:T15)).bind fun a =>
 some a
def z133_13_k3 (rc:(List T10)→T15→Option T15) (a:Int) (b:ByteArray→Int→Int→Option T15) (c:(List T10)) (vbk1_1_1_9:ByteArray) (vbk1_1_2_9:Int):Option T15 :=
 (rc c (⟨vbk1_1_1_9,(w64 (vbk1_1_2_9+1))⟩:T15)).bind fun d =>
 b d.Builder (w64 (d.depth'-1)) (w64 (a+1))
def z133_13_l2 (N:Nat) (rc:(List T10)→T15→Option T15) (a:ByteArray) (b:ByteArray) (c:ByteArray) (d:(List (List T10))):Nat→ByteArray→Int→Int→Option T15
 | 0,_,_,_=>none
 | e+1,vbk1_1_1_6,vbk1_1_2_6,f =>
 bif (decide (f < (d.length:Int))) then ((idx d f).bind fun g =>
 bif (f==0) then ((z79_11 N ([a,(str [32,123])]:List ByteArray) (⟨vbk1_1_1_6,vbk1_1_2_6⟩:T15)).bind fun h =>
 z133_13_k3 rc f (z133_13_l2 N rc a b c d e) g h.Builder h.depth')
 else bif (f==(w64 ((d.length:Int)-1))) then (bif (!(c.toList==(str []).toList)) then ((z79_11 N ([(str [125,32]),c,(str [32,123])]:List ByteArray) (⟨vbk1_1_1_6,vbk1_1_2_6⟩:T15)).bind fun i =>
 z133_13_k3 rc f (z133_13_l2 N rc a b c d e) g i.Builder i.depth')
 else (z79_11 N ([(str [125,32]),b,(str [32,123])]:List ByteArray) (⟨vbk1_1_1_6,vbk1_1_2_6⟩:T15)).bind fun j =>
 z133_13_k3 rc f (z133_13_l2 N rc a b c d e) g j.Builder j.depth')
 else (z79_11 N ([(str [125,32]),b,(str [32,123])]:List ByteArray) (⟨vbk1_1_1_6,vbk1_1_2_6⟩:T15)).bind fun k =>
 z133_13_k3 rc f (z133_13_l2 N rc a b c d e) g k.Builder k.depth')
 else z133_13_k1 N vbk1_1_1_6 vbk1_1_2_6
def z133_13 (N:Nat) (rc:(List T10)→T15→Option T15) (a:ByteArray) (b:ByteArray) (c:ByteArray) (d:(List (List T10))) (e:T15):Option T15 :=
 z133_13_l2 N rc a b c d N e.Builder e.depth' 0
def z82_14_k1 (vbk1_1_1_1:ByteArray) (vbk1_1_2_1:Int):Option T15 :=
 some (⟨vbk1_1_1_1,vbk1_1_2_1⟩:T15)
def z82_14_l2 (N:Nat) (rc:(List T10)→T15→Option T15) (a:(List T10)):Nat→ByteArray→Int→Int→Option T15
 | 0,_,_,_=>none
 | b+1,vbk1_1_1_3,vbk1_1_2_3,c =>
 bif (decide (c < (a.length:Int))) then ((idx a c).bind fun d =>
 bif (d.Kind==1) then ((z80 N d.To (str [44,32])).bind fun e =>
 (z79_11 N ([d.From,(str [32,45,62,32]),e,(str [58,32]),d.Name,(str [59])]:List ByteArray) (⟨vbk1_1_1_3,vbk1_1_2_3⟩:T15)).bind fun f =>
 (z82_14_l2 N rc a b) f.Builder f.depth' (w64 (c+1)))
 else bif (d.Kind==2) then (bif (decide (d.Ticks > 0)) then ((catS (str [99,104,111,105,99,101,32,97,116,32]) d.From).bind fun g =>
 (catS g (str [32,119,105,116,104,105,110,32])).bind fun h =>
 (z131 N d.Ticks).bind fun i =>
 (catS h i).bind fun j =>
 (z133_13 N rc j (str [111,114]) (str [101,108,115,101]) d.Blocks (⟨vbk1_1_1_3,vbk1_1_2_3⟩:T15)).bind fun k =>
 (z82_14_l2 N rc a b) k.Builder k.depth' (w64 (c+1)))
 else (catS (str [99,104,111,105,99,101,32,97,116,32]) d.From).bind fun l =>
 (z133_13 N rc l (str [111,114]) (str []) d.Blocks (⟨vbk1_1_1_3,vbk1_1_2_3⟩:T15)).bind fun m =>
 (z82_14_l2 N rc a b) m.Builder m.depth' (w64 (c+1)))
 else bif (d.Kind==3) then ((catS (str [108,111,111,112,32]) d.Name).bind fun o =>
 (z133_13 N rc o (str []) (str []) d.Blocks (⟨vbk1_1_1_3,vbk1_1_2_3⟩:T15)).bind fun p =>
 (z82_14_l2 N rc a b) p.Builder p.depth' (w64 (c+1)))
 else bif (d.Kind==4) then ((z79_11 N ([(str [97,103,97,105,110,32]),d.Name,(str [59])]:List ByteArray) (⟨vbk1_1_1_3,vbk1_1_2_3⟩:T15)).bind fun q =>
 (z82_14_l2 N rc a b) q.Builder q.depth' (w64 (c+1)))
 else bif (d.Kind==5) then ((z133_13 N rc (str [112,97,114]) (str [97,110,100]) (str []) d.Blocks (⟨vbk1_1_1_3,vbk1_1_2_3⟩:T15)).bind fun r =>
 (z82_14_l2 N rc a b) r.Builder r.depth' (w64 (c+1)))
 else bif (d.Kind==6) then ((z80 N d.To (str [44,32])).bind fun s =>
 (z79_11 N ([(str [99,97,108,108,32]),d.Name,(str [40]),s,(str [41,32,97,115,32]),d.As,(str [59])]:List ByteArray) (⟨vbk1_1_1_3,vbk1_1_2_3⟩:T15)).bind fun t =>
 (z82_14_l2 N rc a b) t.Builder t.depth' (w64 (c+1)))
 else (z82_14_l2 N rc a b) vbk1_1_1_3 vbk1_1_2_3 (w64 (c+1)))
 else z82_14_k1 vbk1_1_1_3 vbk1_1_2_3
def z82_14_b (N:Nat) (rc:(List T10)→T15→Option T15) (a:(List T10)) (b:T15):Option T15 :=
 z82_14_l2 N rc a N b.Builder b.depth' 0
def z82_14_r:Nat→(List T10)→T15→Option T15
 | 0,_,_=>none
 | N+1,a0,a1=>z82_14_b N (z82_14_r N) a0 a1
def z82_14 (N:Nat) (a:(List T10)) (b:T15):Option T15:=z82_14_r N a b
def z83_15 (N:Nat) (a:T15):Option ByteArray :=
 (gdB a.Builder).bind fun b =>
 (gdB a.Builder).bind fun c =>
 some a.Builder
def z83_16 (N:Nat) (a:T15):Option ByteArray :=
 some ByteArray.empty
def z36_k2 (N:Nat) (a:Int) (b:ByteArray→Int→Int→Option ByteArray) (c:T12) (d:ByteArray) (e:Int):Option ByteArray :=
 (z82_14 N c.Body (⟨d,e⟩:T15)).bind fun f =>
 (z79_11 N ([(str [125])]:List ByteArray) (⟨f.Builder,(w64 (f.depth'-1))⟩:T15)).bind fun g =>
 b g.Builder g.depth' (w64 (a+1))
def z36_l3 (N:Nat) (a:Int) (b:ByteArray→Int→Int→Option ByteArray) (c:T12):Nat→ByteArray→Int→Int→Option ByteArray
 | 0,_,_,_=>none
 | d+1,e,f,g =>
 bif (decide (g < (c.Messages.length:Int))) then ((idx c.Messages g).bind fun h =>
 (z81_12 N h (⟨e,f⟩:T15)).bind fun i =>
 (z36_l3 N a b c d) i.Builder i.depth' (w64 (g+1)))
 else z36_k2 N a b c e f
def z36_l1 (N:Nat) (a:(List T12)):Nat→ByteArray→Int→Int→Option ByteArray
 | 0,_,_,_=>none
 | b+1,c,d,e =>
 bif (decide (e < (a.length:Int))) then ((idx a e).bind fun f =>
 (z80 N f.Roles (str [44,32])).bind fun g =>
 (z79_11 N ([(str [112,114,111,116,111,99,111,108,32]),f.Name,(str [40]),g,(str [41,32,123])]:List ByteArray) (⟨c,d⟩:T15)).bind fun h =>
 z36_l3 N e (z36_l1 N a b) f N h.Builder (w64 (h.depth'+1)) 0)
 else (z83_15 N (⟨c,d⟩:T15)).bind fun i =>
 some i
def z36_k4 (N:Nat) (a:(List T12)) (b:T12) (c:ByteArray) (d:Int):Option ByteArray :=
 (z82_14 N b.Body (⟨c,d⟩:T15)).bind fun e =>
 (z79_11 N ([(str [125])]:List ByteArray) (⟨e.Builder,(w64 (e.depth'-1))⟩:T15)).bind fun f =>
 z36_l1 N a N f.Builder f.depth' (w64 (0+1))
def z36_l5 (N:Nat) (a:(List T12)) (b:T12):Nat→ByteArray→Int→Int→Option ByteArray
 | 0,_,_,_=>none
 | c+1,d,e,f =>
 bif (decide (f < (b.Messages.length:Int))) then ((idx b.Messages f).bind fun g =>
 (z81_12 N g (⟨d,e⟩:T15)).bind fun h =>
 (z36_l5 N a b c) h.Builder h.depth' (w64 (f+1)))
 else z36_k4 N a b d e
def z36 (N:Nat) (a:(List T12)):Option ByteArray :=
 bif (decide (0 < (a.length:Int))) then ((idx a 0).bind fun b =>
 (z80 N b.Roles (str [44,32])).bind fun c =>
 (z79_8 N ([(str [112,114,111,116,111,99,111,108,32]),b.Name,(str [40]),c,(str [41,32,123])]:List ByteArray) (⟨ByteArray.empty,0⟩:T15)).bind fun d =>
 z36_l5 N a b N d.Builder (w64 (d.depth'+1)) 0)
 else (z83_16 N (⟨ByteArray.empty,0⟩:T15)).bind fun e =>
 some e
def z14_k1 (N:Nat) (a:(List T12)):Option Bool :=
 (z36 N a).bind fun b =>
 some (decide ((b.size:Int)≤8000))
def z14_k3 (a:Int) (b:Int→Option Bool):Option Bool :=
 b (w64 (a+1))
def z14_l4 (N:Nat) (a:Int) (b:Int→Option Bool) (c:T12):Nat→Int→Option Bool
 | 0,_=>none
 | d+1,e =>
 bif (decide (e < (c.Messages.length:Int))) then ((idx c.Messages e).bind fun f =>
 (z35 N f).bind fun g =>
 bif (!g) then (some false)
 else (z14_l4 N a b c d) (w64 (e+1)))
 else z14_k3 a b
def z14_l2 (N:Nat) (a:(List T12)):Nat→Int→Option Bool
 | 0,_=>none
 | b+1,c =>
 bif (decide (c < (a.length:Int))) then ((idx a c).bind fun d =>
 (z32 N d.Name).bind fun e =>
 bif (!e) then (some false)
 else (z33 N d.Roles 6).bind fun f =>
 bif (!f) then (some false)
 else bif (decide ((d.Messages.length:Int) > 40)) then (some false)
 else (z34 N d.Body 1 0).bind fun g =>
 bif (!g.1) then (some false)
 else z14_l4 N c (z14_l2 N a b) d N 0)
 else z14_k1 N a
def z14 (N:Nat) (a:(List T12)):Option Bool :=
 bif (decide ((a.length:Int) > 10)) then (some false)
 else z14_l2 N a N 0
def z10_k1 (N:Nat) (a:(List T12)) (b:(List T2)) (c:Int) (d:Int) (e:Int) (f:Int):Option ((List T12) × Int × Int) :=
 bif (f != 0) then (some (([]:List T12),e,f))
 else (z14 N a).bind fun g =>
 bif (!g) then (some (([]:List T12),0,6))
 else some (a,0,0)
def z10_l2 (N:Nat) (a:(List T2) × Int × Int):Nat→(List T12)→(List T2)→Int→Int→Int→Int→Option ((List T12) × Int × Int)
 | 0,_,_,_,_,_,_=>none
 | b+1,c,d,e,f,g,h =>
 bif (decide (e < (a.1.length:Int))) then (bif (h==0) then ((z25 N (⟨d,e,f,g,h⟩:T14)).bind fun i =>
 (appL c ([i.1]:List T12)).bind fun j =>
 (z10_l2 N a b) j i.2.l' i.2.n' i.2.end' i.2.at' i.2.err')
 else z10_k1 N c d e f g h)
 else z10_k1 N c d e f g h
def z10 (N:Nat) (a:ByteArray):Option ((List T12) × Int × Int) :=
 (z23 N a).bind fun b =>
 bif (b.2.2 != 0) then (some (([]:List T12),b.2.1,b.2.2))
 else z10_l2 N b N ([]:List T12) b.1 0 (a.size:Int) 0 0
def z16 (N:Nat) (a:(List T12)):Option (ByteArray × Int) :=
 (z14 N a).bind fun b =>
 bif (!b) then (some ((str []),1))
 else (z36 N a).bind fun c =>
 some (c,0)
def z91_k1:Option Bool :=
 some true
def z91_l2 (a:(List ByteArray)) (b:(List ByteArray)):Nat→Int→Option Bool
 | 0,_=>none
 | c+1,d =>
 bif (decide (d < (a.length:Int))) then ((idx a d).bind fun e =>
 (idx b d).bind fun f =>
 bif (!(e.toList==f.toList)) then (some false)
 else (z91_l2 a b c) (w64 (d+1)))
 else z91_k1
def z91 (N:Nat) (a:(List ByteArray)) (b:(List ByteArray)):Option Bool :=
 bif ((a.length:Int) != (b.length:Int)) then (some false)
 else z91_l2 a b N 0
def z139_k1:Option Bool :=
 some true
def z139_l2 (a:(List T0)) (b:(List T0)):Nat→Int→Option Bool
 | 0,_=>none
 | c+1,d =>
 bif (decide (d < (a.length:Int))) then ((idx a d).bind fun e =>
 (idx b d).bind fun f =>
 bif (!((e.Name.toList==f.Name.toList) && (((e.Sort'.Kind==f.Sort'.Kind) && ((e.Sort'.Lo==f.Sort'.Lo) && ((e.Sort'.Hi==f.Sort'.Hi) && true))) && true))) then (some false)
 else (z139_l2 a b c) (w64 (d+1)))
 else z139_k1
def z139 (N:Nat) (a:(List T0)) (b:(List T0)):Option Bool :=
 bif ((a.length:Int) != (b.length:Int)) then (some false)
 else z139_l2 a b N 0
def z140_k1:Option Bool :=
 some true
def z140_l2 (a:(List T9)) (b:(List T9)):Nat→Int→Option Bool
 | 0,_=>none
 | c+1,d =>
 bif (decide (d < (a.length:Int))) then ((idx a d).bind fun e =>
 (idx b d).bind fun f =>
 bif (!(((e.Left.Kind==f.Left.Kind) && ((e.Left.Message.toList==f.Left.Message.toList) && ((e.Left.Field.toList==f.Left.Field.toList) && ((e.Left.N==f.Left.N) && true)))) && ((e.Op.toList==f.Op.toList) && (((e.Right.Kind==f.Right.Kind) && ((e.Right.Message.toList==f.Right.Message.toList) && ((e.Right.Field.toList==f.Right.Field.toList) && ((e.Right.N==f.Right.N) && true)))) && true)))) then (some false)
 else (z140_l2 a b c) (w64 (d+1)))
 else z140_k1
def z140 (N:Nat) (a:(List T9)) (b:(List T9)):Option Bool :=
 bif ((a.length:Int) != (b.length:Int)) then (some false)
 else z140_l2 a b N 0
def z93 (N:Nat) (a:T11) (b:T11):Option Bool :=
 bif (a.Name.toList==b.Name.toList) then ((z139 N a.Fields b.Fields).bind fun c =>
 bif c then ((z140 N a.Where b.Where).bind fun d =>
 some d)
 else some false)
 else some false
def z92_17_k1:Option Bool :=
 some true
def z92_17_l2 (N:Nat) (a:(List T11)) (b:(List T11)):Nat→Int→Option Bool
 | 0,_=>none
 | c+1,d =>
 bif (decide (d < (a.length:Int))) then ((idx a d).bind fun e =>
 (idx b d).bind fun f =>
 (z93 N e f).bind fun g =>
 bif (!g) then (some false)
 else (z92_17_l2 N a b c) (w64 (d+1)))
 else z92_17_k1
def z92_17 (N:Nat) (a:(List T11)) (b:(List T11)):Option Bool :=
 bif ((a.length:Int) != (b.length:Int)) then (some false)
 else z92_17_l2 N a b N 0
def z142 (N:Nat) (rc:(List T10)→(List T10)→Option Bool) (a:(List T10)) (b:(List T10)):Option Bool :=
 (rc a b).bind fun c =>
 some c
def z141_18_k1:Option Bool :=
 some true
def z141_18_l2 (N:Nat) (rc:(List T10)→(List T10)→Option Bool) (a:(List (List T10))) (b:(List (List T10))):Nat→Int→Option Bool
 | 0,_=>none
 | c+1,d =>
 bif (decide (d < (a.length:Int))) then ((idx a d).bind fun e =>
 (idx b d).bind fun f =>
 (z142 N rc e f).bind fun g =>
 bif (!g) then (some false)
 else (z141_18_l2 N rc a b c) (w64 (d+1)))
 else z141_18_k1
def z141_18 (N:Nat) (rc:(List T10)→(List T10)→Option Bool) (a:(List (List T10))) (b:(List (List T10))):Option Bool :=
 bif ((a.length:Int) != (b.length:Int)) then (some false)
 else z141_18_l2 N rc a b N 0
def z95 (N:Nat) (rc:(List T10)→(List T10)→Option Bool) (a:T10) (b:T10):Option Bool :=
 bif (a.Kind==b.Kind) then (bif (a.From.toList==b.From.toList) then ((z91 N a.To b.To).bind fun c =>
 bif c then (bif (a.Name.toList==b.Name.toList) then (bif (a.As.toList==b.As.toList) then (bif (a.Ticks==b.Ticks) then ((z141_18 N rc a.Blocks b.Blocks).bind fun d =>
 some d)
 else some false)
 else some false)
 else some false)
 else some false)
 else some false)
 else some false
def z94_19_k1:Option Bool :=
 some true
def z94_19_l2 (N:Nat) (rc:(List T10)→(List T10)→Option Bool) (a:(List T10)) (b:(List T10)):Nat→Int→Option Bool
 | 0,_=>none
 | c+1,d =>
 bif (decide (d < (a.length:Int))) then ((idx a d).bind fun e =>
 (idx b d).bind fun f =>
 (z95 N rc e f).bind fun g =>
 bif (!g) then (some false)
 else (z94_19_l2 N rc a b c) (w64 (d+1)))
 else z94_19_k1
def z94_19_b (N:Nat) (rc:(List T10)→(List T10)→Option Bool) (a:(List T10)) (b:(List T10)):Option Bool :=
 bif ((a.length:Int) != (b.length:Int)) then (some false)
 else z94_19_l2 N rc a b N 0
def z94_19_r:Nat→(List T10)→(List T10)→Option Bool
 | 0,_,_=>none
 | N+1,a0,a1=>z94_19_b N (z94_19_r N) a0 a1
def z94_19 (N:Nat) (a:(List T10)) (b:(List T10)):Option Bool:=z94_19_r N a b
def z46 (N:Nat) (a:T12) (b:T12):Option Bool :=
 bif (a.Name.toList==b.Name.toList) then ((z91 N a.Roles b.Roles).bind fun c =>
 bif c then ((z92_17 N a.Messages b.Messages).bind fun d =>
 bif d then ((z94_19 N a.Body b.Body).bind fun e =>
 some e)
 else some false)
 else some false)
 else some false
def z45_20_k1:Option Bool :=
 some true
def z45_20_l2 (N:Nat) (a:(List T12)) (b:(List T12)):Nat→Int→Option Bool
 | 0,_=>none
 | c+1,d =>
 bif (decide (d < (a.length:Int))) then ((idx a d).bind fun e =>
 (idx b d).bind fun f =>
 (z46 N e f).bind fun g =>
 bif (!g) then (some false)
 else (z45_20_l2 N a b c) (w64 (d+1)))
 else z45_20_k1
def z45_20 (N:Nat) (a:(List T12)) (b:(List T12)):Option Bool :=
 bif ((a.length:Int) != (b.length:Int)) then (some false)
 else z45_20_l2 N a b N 0
def z20 (N:Nat) (a:(List T12)) (b:(List T12)):Option Bool :=
 (z45_20 N a b).bind fun c =>
 some c
def z9 (N:Nat):Option Bool :=
 (z10 N (str [112,114,111,116,111,99,111,108,32,80,40,65,44,66,41,123,109,101,115,115,97,103,101,32,109,40,120,58,105,110,116,32,49,46,46,53,41,119,104,101,114,101,32,120,60,110,46,121,43,49,59,65,45,62,66,58,109,59,125])).bind fun a =>
 (z16 N a.1).bind fun b =>
 bif (a.2.2==0) then (bif (b.2==0) then (bif ((a.1.length:Int)==1) then (bif (b.1.toList==(str [112,114,111,116,111,99,111,108,32,80,40,65,44,32,66,41,32,123,10,9,109,101,115,115,97,103,101,32,109,40,120,58,32,105,110,116,32,49,46,46,53,41,32,119,104,101,114,101,32,120,32,60,32,110,46,121,32,43,32,49,59,10,9,65,32,45,62,32,66,58,32,109,59,10,125,10]).toList) then ((z14 N a.1).bind fun c =>
 bif c then ((z20 N a.1 a.1).bind fun d =>
 some d)
 else some false)
 else some false)
 else some false)
 else some false)
 else some false
def ref09_skip_k1 (a:Int):Option Int :=
 some a
def ref09_skip_k3 (a:Int→Option Int) (b:Int):Option Int :=
 a b
def ref09_skip_l4 (a:ByteArray) (b:Int→Option Int):Nat→Int→Option Int
 | 0,_=>none
 | c+1,d =>
 bif (decide (d < (a.size:Int))) then ((sidx a d).bind fun e =>
 bif (e != 10) then ((ref09_skip_l4 a b c) (w64 (d+1)))
 else ref09_skip_k3 b d)
 else ref09_skip_k3 b d
def ref09_skip_l2 (N:Nat) (a:ByteArray):Nat→Int→Option Int
 | 0,_=>none
 | b+1,c =>
 bif (decide (c < (a.size:Int))) then ((sidx a c).bind fun d =>
 bif (d==32) then ((ref09_skip_l2 N a b) (w64 (c+1)))
 else (sidx a c).bind fun e =>
 bif (e==9) then ((ref09_skip_l2 N a b) (w64 (c+1)))
 else (sidx a c).bind fun f =>
 bif (f==10) then ((ref09_skip_l2 N a b) (w64 (c+1)))
 else (sidx a c).bind fun g =>
 bif (g==13) then ((ref09_skip_l2 N a b) (w64 (c+1)))
 else (sidx a c).bind fun h =>
 bif (h==47) then (bif (decide ((w64 (c+1)) < (a.size:Int))) then ((sidx a (w64 (c+1))).bind fun i =>
 bif (i==47) then (ref09_skip_l4 a (ref09_skip_l2 N a b) N c)
 else some c)
 else some c)
 else some c)
 else ref09_skip_k1 c
def ref09_skip (N:Nat) (a:ByteArray) (b:Int):Option Int :=
 ref09_skip_l2 N a N b
def z112 (N:Nat) (a:Int):Option Bool :=
 bif (decide (a≥97)) then (bif (decide (a≤122)) then (some true)
 else bif (decide (a≥65)) then (some (decide (a≤90)))
 else some false)
 else bif (decide (a≥65)) then (some (decide (a≤90)))
 else some false
def z114 (N:Nat) (a:Int):Option Bool :=
 bif (decide (a≥48)) then (some (decide (a≤57)))
 else some false
def z113 (N:Nat) (a:Int):Option Bool :=
 (z112 N a).bind fun b =>
 bif b then (some true)
 else (z114 N a).bind fun c =>
 bif c then (some true)
 else some (a==95)
def ref09_number_k1 (a:ByteArray) (b:Int) (c:Int) (d:Bool):Option (T2 × Int × Int) :=
 bif d then (some ((⟨0,(str []),0,0⟩:T2),0,3))
 else bif (decide (b > 6)) then (some ((⟨0,(str []),0,0⟩:T2),0,2))
 else bif (decide (b > 1)) then ((sidx a 0).bind fun e =>
 bif (e==48) then (some ((⟨0,(str []),0,0⟩:T2),0,2))
 else some ((⟨2,(str []),c,0⟩:T2),b,0))
 else some ((⟨2,(str []),c,0⟩:T2),b,0)
def ref09_number_k2 (N:Nat) (a:ByteArray) (b:Int) (c:Int):Option (T2 × Int × Int) :=
 bif (decide (b < (a.size:Int))) then ((sidx a b).bind fun d =>
 (z113 N d).bind fun e =>
 ref09_number_k1 a b c e)
 else ref09_number_k1 a b c false
def ref09_number_l3 (N:Nat) (a:ByteArray):Nat→Int→Int→Option (T2 × Int × Int)
 | 0,_,_=>none
 | b+1,c,d =>
 bif (decide (c < (a.size:Int))) then ((sidx a c).bind fun e =>
 (z114 N e).bind fun f =>
 bif f then ((sidx a c).bind fun g =>
 (ref09_number_l3 N a b) (w64 (c+1)) (minI (w64 ((w64 (10 * d))+(w64 ((wk .u8 (g-48)))))) 1099511627776))
 else ref09_number_k2 N a c d)
 else ref09_number_k2 N a c d
def ref09_number (N:Nat) (a:ByteArray):Option (T2 × Int × Int) :=
 ref09_number_l3 N a N 0 0
def ref09_text_k1:Option (ByteArray × Int) :=
 some ((str []),0)
def ref09_text_k3 (a:ByteArray) (b:ByteArray) (c:Int) (d:ByteArray→Int→Option (ByteArray × Int)) (e:Bool):Option (ByteArray × Int) :=
 bif e then ((ssl a (some (w64 (c+1))) (some (w64 ((w64 (c+1))+1)))).bind fun f =>
 (catS b f).bind fun g =>
 d g (w64 ((w64 (c+1))+1)))
 else (sidx a c).bind fun h =>
 bif (h==92) then (some ((str []),0))
 else (sidx a c).bind fun i =>
 bif (decide (i < 32)) then (some ((str []),0))
 else (sidx a c).bind fun j =>
 bif (decide (j > 126)) then (some ((str []),0))
 else (ssl a (some c) (some (w64 (c+1)))).bind fun k =>
 (catS b k).bind fun l =>
 d l (w64 (c+1))
def ref09_text_l2 (a:ByteArray):Nat→ByteArray→Int→Option (ByteArray × Int)
 | 0,_,_=>none
 | b+1,c,d =>
 bif (decide (d < (a.size:Int))) then ((sidx a d).bind fun e =>
 bif (e==34) then (some (c,(w64 (d+1))))
 else (sidx a d).bind fun f =>
 bif (f==92) then (bif (decide ((w64 (d+1)) < (a.size:Int))) then ((sidx a (w64 (d+1))).bind fun g =>
 bif (g==34) then (ref09_text_k3 a c d (ref09_text_l2 a b) true)
 else (sidx a (w64 (d+1))).bind fun h =>
 ref09_text_k3 a c d (ref09_text_l2 a b) (h==92))
 else ref09_text_k3 a c d (ref09_text_l2 a b) false)
 else ref09_text_k3 a c d (ref09_text_l2 a b) false)
 else ref09_text_k1
def ref09_text (N:Nat) (a:ByteArray):Option (ByteArray × Int) :=
 ref09_text_l2 a N (str []) 1
def z117_k1:Option Bool :=
 some false
def z117_l2 (a:(List ByteArray)) (b:ByteArray):Nat→Int→Option Bool
 | 0,_=>none
 | c+1,d =>
 bif (decide (d < (a.length:Int))) then ((idx a d).bind fun e =>
 bif (e.toList==b.toList) then (some true)
 else (z117_l2 a b c) (w64 (d+1)))
 else z117_k1
def z117 (N:Nat) (a:(List ByteArray)) (b:ByteArray):Option Bool :=
 z117_l2 a b N 0
def ref09_token_k1 (a:ByteArray) (b:Int):Option (T2 × Int × Int) :=
 bif (decide (b > 16)) then (some ((⟨0,(str []),0,0⟩:T2),0,6))
 else (ssl a none (some b)).bind fun c =>
 some ((⟨1,c,0,0⟩:T2),b,0)
def ref09_token_l2 (N:Nat) (a:ByteArray):Nat→Int→Option (T2 × Int × Int)
 | 0,_=>none
 | b+1,c =>
 bif (decide (c < (a.size:Int))) then ((sidx a c).bind fun d =>
 (z113 N d).bind fun e =>
 bif e then ((ref09_token_l2 N a b) (w64 (c+1)))
 else ref09_token_k1 a c)
 else ref09_token_k1 a c
def ref09_token_k3 (N:Nat) (a:ByteArray) (b:Bool):Option (T2 × Int × Int) :=
 bif b then ((ssl a none (some 2)).bind fun c =>
 some ((⟨4,c,0,0⟩:T2),2,0))
 else (ssl a none (some 1)).bind fun d =>
 (z117 N ([(str [40]),(str [41]),(str [123]),(str [125]),(str [44]),(str [59]),(str [58]),(str [46]),(str [43]),(str [45]),(str [42]),(str [47]),(str [37]),(str [60]),(str [62]),(str [61]),(str [33])]:List ByteArray) d).bind fun e =>
 bif e then ((ssl a none (some 1)).bind fun f =>
 some ((⟨4,f,0,0⟩:T2),1,0))
 else some ((⟨0,(str []),0,0⟩:T2),0,3)
def ref09_token (N:Nat) (a:ByteArray):Option (T2 × Int × Int) :=
 (sidx a 0).bind fun b =>
 (z112 N b).bind fun c =>
 bif c then (ref09_token_l2 N a N 1)
 else (sidx a 0).bind fun d =>
 (z114 N d).bind fun e =>
 bif e then ((ref09_number N a).bind fun f =>
 some (f.1,f.2.1,f.2.2))
 else (sidx a 0).bind fun g =>
 bif (g==34) then ((ref09_text N a).bind fun h =>
 bif (h.2==0) then (some ((⟨0,(str []),0,0⟩:T2),0,3))
 else bif (decide ((h.1.size:Int) > 40)) then (some ((⟨0,(str []),0,0⟩:T2),0,6))
 else some ((⟨3,h.1,0,0⟩:T2),h.2,0))
 else bif (decide ((a.size:Int) > 1)) then ((ssl a none (some 2)).bind fun i =>
 (z117 N ([(str [45,62]),(str [46,46]),(str [60,61]),(str [62,61]),(str [61,61]),(str [33,61]),(str [38,38]),(str [124,124])]:List ByteArray) i).bind fun j =>
 ref09_token_k3 N a j)
 else ref09_token_k3 N a false
def ref09_Tokens_k1 (a:(List T2)):Option ((List T2) × Int × Int) :=
 some (a,0,0)
def ref09_Tokens_l2 (N:Nat) (a:ByteArray):Nat→(List T2)→Int→Option ((List T2) × Int × Int)
 | 0,_,_=>none
 | b+1,c,d =>
 bif (decide (d < (a.size:Int))) then ((ssl a (some d) none).bind fun e =>
 (ref09_token N e).bind fun f =>
 bif (f.2.2 != 0) then (some (([]:List T2),d,f.2.2))
 else (appL c ([(⟨f.1.Kind,f.1.Text,f.1.Value,d⟩:T2)]:List T2)).bind fun g =>
 (ref09_skip N a (w64 (d+f.2.1))).bind fun h =>
 (ref09_Tokens_l2 N a b) g h)
 else ref09_Tokens_k1 c
def ref09_Tokens (N:Nat) (a:ByteArray):Option ((List T2) × Int × Int) :=
 bif (decide ((a.size:Int) > 8000)) then (some (([]:List T2),8000,6))
 else (ref09_skip N a 0).bind fun b =>
 ref09_Tokens_l2 N a N ([]:List T2) b
def Pref10_parser_token (N:Nat) (a:T8):Option T2 :=
 bif (a.e' != 0) then (some (⟨0,(str []),0,0⟩:T2))
 else bif (decide (a.next'≥(a.l'.length:Int))) then (some (⟨0,(str []),0,0⟩:T2))
 else (idx a.l' a.next').bind fun b =>
 some b
def Pref10_parser_is (N:Nat) (a:T8) (b:ByteArray):Option Bool :=
 (Pref10_parser_token N a).bind fun c =>
 bif (c.Kind==1) then (some (c.Text.toList==b.toList))
 else bif (c.Kind==4) then (some (c.Text.toList==b.toList))
 else some false
def Pref10_parser_eat (N:Nat) (a:T8) (b:ByteArray):Option (Bool × T8) :=
 (Pref10_parser_is N a b).bind fun c =>
 bif c then (some (c,(⟨a.s',a.l',(w64 (a.next'+1)),a.at',a.e'⟩:T8)))
 else some (c,a)
def Pref10_parser_fail (N:Nat) (a:T8) (b:Int):Option T8 :=
 bif (a.e' != 0) then (some a)
 else bif (decide (a.next' < (a.l'.length:Int))) then ((idx a.l' a.next').bind fun c =>
 some (⟨a.s',a.l',a.next',c.From,b⟩:T8))
 else some (⟨a.s',a.l',a.next',(a.s'.size:Int),b⟩:T8)
def Pref10_parser_want (N:Nat) (a:T8) (b:ByteArray):Option T8 :=
 (Pref10_parser_eat N a b).bind fun c =>
 bif (!c.1) then ((Pref10_parser_fail N c.2 3).bind fun d =>
 some d)
 else some c.2
def z137_k1:Option Bool :=
 some true
def z137_l2 (N:Nat) (a:ByteArray):Nat→Int→Option Bool
 | 0,_=>none
 | b+1,c =>
 bif (decide (c < (a.size:Int))) then ((sidx a c).bind fun d =>
 (z113 N d).bind fun e =>
 bif (!e) then (some false)
 else (z137_l2 N a b) (w64 (c+1)))
 else z137_k1
def z137 (N:Nat) (a:ByteArray):Option Bool :=
 bif (a.toList==(str []).toList) then (some false)
 else (sidx a 0).bind fun b =>
 (z112 N b).bind fun c =>
 bif (!c) then (some false)
 else bif (decide ((a.size:Int) > 16)) then (some false)
 else z137_l2 N a N 0
def z138 (N:Nat):Option (List ByteArray) :=
 some ([(str [97,103,97,105,110]),(str [97,110,100]),(str [97,115]),(str [97,116]),(str [99,97,108,108]),(str [99,104,111,105,99,101]),(str [101,108,115,101]),(str [102,114,111,109]),(str [105,102]),(str [105,110,116]),(str [108,101,110]),(str [108,111,111,112]),(str [109,101,115,115,97,103,101]),(str [111,102]),(str [111,102,102,101,114]),(str [111,110]),(str [111,114]),(str [112,97,114]),(str [112,108,97,121,115]),(str [112,114,111,116,111,99,111,108]),(str [115,101,114,118,105,99,101]),(str [116,101,120,116]),(str [116,105,109,101,115]),(str [116,111]),(str [118,97,114]),(str [119,104,101,114,101]),(str [119,104,105,108,101]),(str [119,105,116,104,105,110])]:List ByteArray)
def z87 (N:Nat) (a:ByteArray):Option Bool :=
 (z137 N a).bind fun b =>
 bif b then ((z138 N).bind fun c =>
 (z117 N c a).bind fun d =>
 some (!d))
 else some false
def z40 (N:Nat) (a:ByteArray):Option Bool :=
 (z87 N a).bind fun b =>
 some b
def Pref10_parser_word (N:Nat) (a:T8):Option (ByteArray × T8) :=
 (Pref10_parser_token N a).bind fun b =>
 bif (b.Kind != 1) then ((Pref10_parser_fail N a 3).bind fun c =>
 some ((str []),c))
 else (z40 N b.Text).bind fun d =>
 bif (!d) then ((Pref10_parser_fail N a 3).bind fun e =>
 some ((str []),e))
 else some (b.Text,(⟨a.s',a.l',(w64 (a.next'+1)),a.at',a.e'⟩:T8))
def Pref10_parser_words_k1 (vbk0_0_0_1:ByteArray) (vbk0_0_1_1:(List T2)) (vbk0_0_2_1:Int) (vbk0_0_3_1:Int) (vbk0_0_4_1:Int) (a:(List ByteArray)):Option ((List ByteArray) × T8) :=
 some (a,(⟨vbk0_0_0_1,vbk0_0_1_1,vbk0_0_2_1,vbk0_0_3_1,vbk0_0_4_1⟩:T8))
def Pref10_parser_words_l2 (N:Nat):Nat→ByteArray→(List T2)→Int→Int→Int→(List ByteArray)→Option ((List ByteArray) × T8)
 | 0,_,_,_,_,_,_=>none
 | a+1,vbk0_0_0_3,vbk0_0_1_3,vbk0_0_2_3,vbk0_0_3_3,vbk0_0_4_3,b =>
 (Pref10_parser_eat N (⟨vbk0_0_0_3,vbk0_0_1_3,vbk0_0_2_3,vbk0_0_3_3,vbk0_0_4_3⟩:T8) (str [44])).bind fun c =>
 bif c.1 then ((Pref10_parser_word N c.2).bind fun d =>
 (appL b ([d.1]:List ByteArray)).bind fun e =>
 (Pref10_parser_words_l2 N a) d.2.s' d.2.l' d.2.next' d.2.at' d.2.e' e)
 else Pref10_parser_words_k1 c.2.s' c.2.l' c.2.next' c.2.at' c.2.e' b
def Pref10_parser_words (N:Nat) (a:T8):Option ((List ByteArray) × T8) :=
 (Pref10_parser_word N a).bind fun b =>
 Pref10_parser_words_l2 N N b.2.s' b.2.l' b.2.next' b.2.at' b.2.e' ([b.1]:List ByteArray)
def Pref10_parser_path_k1 (vbk0_0_0_1:ByteArray) (vbk0_0_1_1:(List T2)) (vbk0_0_2_1:Int) (vbk0_0_3_1:Int) (vbk0_0_4_1:Int) (a:ByteArray):Option (ByteArray × T8) :=
 some (a,(⟨vbk0_0_0_1,vbk0_0_1_1,vbk0_0_2_1,vbk0_0_3_1,vbk0_0_4_1⟩:T8))
def Pref10_parser_path_l2 (N:Nat):Nat→ByteArray→(List T2)→Int→Int→Int→ByteArray→Option (ByteArray × T8)
 | 0,_,_,_,_,_,_=>none
 | a+1,vbk0_0_0_3,vbk0_0_1_3,vbk0_0_2_3,vbk0_0_3_3,vbk0_0_4_3,b =>
 (Pref10_parser_eat N (⟨vbk0_0_0_3,vbk0_0_1_3,vbk0_0_2_3,vbk0_0_3_3,vbk0_0_4_3⟩:T8) (str [46])).bind fun c =>
 bif c.1 then ((Pref10_parser_word N c.2).bind fun d =>
 (catS (str [46]) d.1).bind fun e =>
 (catS b e).bind fun f =>
 (Pref10_parser_path_l2 N a) d.2.s' d.2.l' d.2.next' d.2.at' d.2.e' f)
 else Pref10_parser_path_k1 c.2.s' c.2.l' c.2.next' c.2.at' c.2.e' b
def Pref10_parser_path (N:Nat) (a:T8):Option (ByteArray × T8) :=
 (Pref10_parser_word N a).bind fun b =>
 Pref10_parser_path_l2 N N b.2.s' b.2.l' b.2.next' b.2.at' b.2.e' b.1
def Pref10_parser_number (N:Nat) (a:T8):Option (Int × T8) :=
 (Pref10_parser_token N a).bind fun b =>
 bif (b.Kind != 2) then ((Pref10_parser_fail N a 3).bind fun c =>
 some (0,c))
 else some (b.Value,(⟨a.s',a.l',(w64 (a.next'+1)),a.at',a.e'⟩:T8))
def Pref10_parser_signed (N:Nat) (a:T8):Option (Int × T8) :=
 (Pref10_parser_eat N a (str [45])).bind fun b =>
 bif b.1 then ((Pref10_parser_number N b.2).bind fun c =>
 some ((w64 (0-c.1)),c.2))
 else (Pref10_parser_number N b.2).bind fun d =>
 some (d.1,d.2)
def Pref10_parser_field (N:Nat) (a:T8):Option (T0 × T8) :=
 (Pref10_parser_word N a).bind fun b =>
 (Pref10_parser_want N b.2 (str [58])).bind fun c =>
 (Pref10_parser_eat N c (str [116,101,120,116])).bind fun d =>
 bif d.1 then ((Pref10_parser_number N d.2).bind fun e =>
 (Pref10_parser_want N e.2 (str [46,46])).bind fun f =>
 (Pref10_parser_number N f).bind fun g =>
 some ((⟨b.1,(⟨2,e.1,g.1⟩:T1)⟩:T0),g.2))
 else (Pref10_parser_want N d.2 (str [105,110,116])).bind fun h =>
 (Pref10_parser_signed N h).bind fun i =>
 (Pref10_parser_want N i.2 (str [46,46])).bind fun j =>
 (Pref10_parser_signed N j).bind fun k =>
 some ((⟨b.1,(⟨1,i.1,k.1⟩:T1)⟩:T0),k.2)
def ref10_split_k1 (a:ByteArray):Option (ByteArray × ByteArray) :=
 some ((str []),a)
def ref10_split_l2 (a:ByteArray):Nat→Int→Option (ByteArray × ByteArray)
 | 0,_=>none
 | b+1,c =>
 bif (decide (c≥0)) then ((sidx a c).bind fun d =>
 bif (d==46) then ((ssl a none (some c)).bind fun e =>
 (ssl a (some (w64 (c+1))) none).bind fun f =>
 some (e,f))
 else (ref10_split_l2 a b) (w64 (c-1)))
 else ref10_split_k1 a
def ref10_split (N:Nat) (a:ByteArray):Option (ByteArray × ByteArray) :=
 ref10_split_l2 a N (w64 ((a.size:Int)-1))
def Pref10_parser_term_k1 (N:Nat) (vbk0_0_0_1:ByteArray) (vbk0_0_1_1:(List T2)) (vbk0_0_2_1:Int) (vbk0_0_3_1:Int) (vbk0_0_4_1:Int) (a:Int) (b:ByteArray) (c:ByteArray):Option (T13 × T8) :=
 (Pref10_parser_eat N (⟨vbk0_0_0_1,vbk0_0_1_1,vbk0_0_2_1,vbk0_0_3_1,vbk0_0_4_1⟩:T8) (str [43])).bind fun d =>
 bif d.1 then ((Pref10_parser_number N d.2).bind fun e =>
 some ((⟨a,b,c,e.1⟩:T13),e.2))
 else (Pref10_parser_eat N d.2 (str [45])).bind fun f =>
 bif f.1 then ((Pref10_parser_number N f.2).bind fun g =>
 some ((⟨a,b,c,(w64 (0-g.1))⟩:T13),g.2))
 else some ((⟨a,b,c,0⟩:T13),f.2)
def Pref10_parser_term (N:Nat) (a:T8):Option (T13 × T8) :=
 (Pref10_parser_token N a).bind fun b =>
 bif (b.Kind==2) then ((Pref10_parser_signed N a).bind fun c =>
 some ((⟨1,(str []),(str []),c.1⟩:T13),c.2))
 else (Pref10_parser_is N a (str [45])).bind fun d =>
 bif d then ((Pref10_parser_signed N a).bind fun e =>
 some ((⟨1,(str []),(str []),e.1⟩:T13),e.2))
 else (Pref10_parser_eat N a (str [108,101,110])).bind fun f =>
 bif f.1 then ((Pref10_parser_want N f.2 (str [40])).bind fun g =>
 (Pref10_parser_path N g).bind fun h =>
 (ref10_split N h.1).bind fun i =>
 (Pref10_parser_want N h.2 (str [41])).bind fun j =>
 Pref10_parser_term_k1 N j.s' j.l' j.next' j.at' j.e' 3 i.1 i.2)
 else (Pref10_parser_path N f.2).bind fun k =>
 (ref10_split N k.1).bind fun l =>
 Pref10_parser_term_k1 N k.2.s' k.2.l' k.2.next' k.2.at' k.2.e' 2 l.1 l.2
def Pref10_parser_atom (N:Nat) (a:T8):Option (T4 × T8) :=
 (Pref10_parser_term N a).bind fun b =>
 (Pref10_parser_token N b.2).bind fun c =>
 (Pref10_parser_eat N b.2 (str [60])).bind fun d =>
 bif (!d.1) then ((Pref10_parser_eat N d.2 (str [60,61])).bind fun e =>
 bif (!e.1) then ((Pref10_parser_eat N e.2 (str [61,61])).bind fun f =>
 bif (!f.1) then ((Pref10_parser_eat N f.2 (str [62,61])).bind fun g =>
 bif (!g.1) then ((Pref10_parser_want N g.2 (str [62])).bind fun h =>
 (Pref10_parser_term N h).bind fun i =>
 some ((⟨b.1,c.Text,i.1⟩:T4),i.2))
 else (Pref10_parser_term N g.2).bind fun j =>
 some ((⟨b.1,c.Text,j.1⟩:T4),j.2))
 else (Pref10_parser_term N f.2).bind fun k =>
 some ((⟨b.1,c.Text,k.1⟩:T4),k.2))
 else (Pref10_parser_term N e.2).bind fun l =>
 some ((⟨b.1,c.Text,l.1⟩:T4),l.2))
 else (Pref10_parser_term N d.2).bind fun m =>
 some ((⟨b.1,c.Text,m.1⟩:T4),m.2)
def Pref10_parser_message_k1 (N:Nat) (a:ByteArray × T8) (b:(List T0)) (vbk0_0_0_5:ByteArray) (vbk0_0_1_5:(List T2)) (vbk0_0_2_5:Int) (vbk0_0_3_5:Int) (vbk0_0_4_5:Int) (c:(List T4)):Option (T6 × T8) :=
 (Pref10_parser_want N (⟨vbk0_0_0_5,vbk0_0_1_5,vbk0_0_2_5,vbk0_0_3_5,vbk0_0_4_5⟩:T8) (str [59])).bind fun d =>
 some ((⟨a.1,b,c⟩:T6),d)
def Pref10_parser_message_l2 (N:Nat) (a:ByteArray × T8) (b:(List T0)):Nat→ByteArray→(List T2)→Int→Int→Int→(List T4)→Option (T6 × T8)
 | 0,_,_,_,_,_,_=>none
 | c+1,vbk0_0_0_7,vbk0_0_1_7,vbk0_0_2_7,vbk0_0_3_7,vbk0_0_4_7,d =>
 (Pref10_parser_eat N (⟨vbk0_0_0_7,vbk0_0_1_7,vbk0_0_2_7,vbk0_0_3_7,vbk0_0_4_7⟩:T8) (str [97,110,100])).bind fun e =>
 bif e.1 then ((Pref10_parser_atom N e.2).bind fun f =>
 (appL d ([f.1]:List T4)).bind fun g =>
 (Pref10_parser_message_l2 N a b c) f.2.s' f.2.l' f.2.next' f.2.at' f.2.e' g)
 else Pref10_parser_message_k1 N a b e.2.s' e.2.l' e.2.next' e.2.at' e.2.e' d
def Pref10_parser_message_k3 (N:Nat) (a:ByteArray × T8) (vbk0_0_0_1:ByteArray) (vbk0_0_1_1:(List T2)) (vbk0_0_2_1:Int) (vbk0_0_3_1:Int) (vbk0_0_4_1:Int) (b:(List T0)):Option (T6 × T8) :=
 (Pref10_parser_want N (⟨vbk0_0_0_1,vbk0_0_1_1,vbk0_0_2_1,vbk0_0_3_1,vbk0_0_4_1⟩:T8) (str [41])).bind fun c =>
 (Pref10_parser_eat N c (str [119,104,101,114,101])).bind fun d =>
 bif d.1 then ((Pref10_parser_atom N d.2).bind fun e =>
 (appL ([]:List T4) ([e.1]:List T4)).bind fun f =>
 Pref10_parser_message_l2 N a b N e.2.s' e.2.l' e.2.next' e.2.at' e.2.e' f)
 else (Pref10_parser_want N d.2 (str [59])).bind fun g =>
 some ((⟨a.1,b,([]:List T4)⟩:T6),g)
def Pref10_parser_message_k4 (N:Nat) (a:ByteArray × T8) (vbk0_0_0_8:ByteArray) (vbk0_0_1_8:(List T2)) (vbk0_0_2_8:Int) (vbk0_0_3_8:Int) (vbk0_0_4_8:Int) (b:(List T0)):Option (T6 × T8) :=
 Pref10_parser_message_k3 N a vbk0_0_0_8 vbk0_0_1_8 vbk0_0_2_8 vbk0_0_3_8 vbk0_0_4_8 b
def Pref10_parser_message_l5 (N:Nat) (a:ByteArray × T8):Nat→ByteArray→(List T2)→Int→Int→Int→(List T0)→Option (T6 × T8)
 | 0,_,_,_,_,_,_=>none
 | b+1,vbk0_0_0_10,vbk0_0_1_10,vbk0_0_2_10,vbk0_0_3_10,vbk0_0_4_10,c =>
 (Pref10_parser_eat N (⟨vbk0_0_0_10,vbk0_0_1_10,vbk0_0_2_10,vbk0_0_3_10,vbk0_0_4_10⟩:T8) (str [44])).bind fun d =>
 bif d.1 then ((Pref10_parser_field N d.2).bind fun e =>
 (appL c ([e.1]:List T0)).bind fun f =>
 (Pref10_parser_message_l5 N a b) e.2.s' e.2.l' e.2.next' e.2.at' e.2.e' f)
 else Pref10_parser_message_k4 N a d.2.s' d.2.l' d.2.next' d.2.at' d.2.e' c
def Pref10_parser_message (N:Nat) (a:T8):Option (T6 × T8) :=
 (Pref10_parser_path N a).bind fun b =>
 (Pref10_parser_want N b.2 (str [40])).bind fun c =>
 (Pref10_parser_is N c (str [41])).bind fun d =>
 bif (!d) then ((Pref10_parser_field N c).bind fun e =>
 (appL ([]:List T0) ([e.1]:List T0)).bind fun f =>
 Pref10_parser_message_l5 N b N e.2.s' e.2.l' e.2.next' e.2.at' e.2.e' f)
 else Pref10_parser_message_k3 N b c.s' c.l' c.next' c.at' c.e' ([]:List T0)
def Pref10_parser_block_k1 (N:Nat) (vbk0_0_0_1:ByteArray) (vbk0_0_1_1:(List T2)) (vbk0_0_2_1:Int) (vbk0_0_3_1:Int) (vbk0_0_4_1:Int) (a:(List T5)):Option ((List T5) × T8) :=
 (Pref10_parser_want N (⟨vbk0_0_0_1,vbk0_0_1_1,vbk0_0_2_1,vbk0_0_3_1,vbk0_0_4_1⟩:T8) (str [125])).bind fun b =>
 some (a,b)
def Pref10_parser_block_l2 (N:Nat) (rc_Pref10_parser_item:T8→Option (T5 × T8)):Nat→ByteArray→(List T2)→Int→Int→Int→(List T5)→Option ((List T5) × T8)
 | 0,_,_,_,_,_,_=>none
 | a+1,vbk0_0_0_3,vbk0_0_1_3,vbk0_0_2_3,vbk0_0_3_3,vbk0_0_4_3,b =>
 bif (vbk0_0_4_3==0) then ((Pref10_parser_is N (⟨vbk0_0_0_3,vbk0_0_1_3,vbk0_0_2_3,vbk0_0_3_3,vbk0_0_4_3⟩:T8) (str [125])).bind fun c =>
 bif (!c) then ((rc_Pref10_parser_item (⟨vbk0_0_0_3,vbk0_0_1_3,vbk0_0_2_3,vbk0_0_3_3,vbk0_0_4_3⟩:T8)).bind fun d =>
 (appL b ([d.1]:List T5)).bind fun e =>
 (Pref10_parser_block_l2 N rc_Pref10_parser_item a) d.2.s' d.2.l' d.2.next' d.2.at' d.2.e' e)
 else Pref10_parser_block_k1 N vbk0_0_0_3 vbk0_0_1_3 vbk0_0_2_3 vbk0_0_3_3 vbk0_0_4_3 b)
 else Pref10_parser_block_k1 N vbk0_0_0_3 vbk0_0_1_3 vbk0_0_2_3 vbk0_0_3_3 vbk0_0_4_3 b
def Pref10_parser_block (N:Nat) (rc_Pref10_parser_item:T8→Option (T5 × T8)) (a:T8):Option ((List T5) × T8) :=
 (Pref10_parser_want N a (str [123])).bind fun b =>
 Pref10_parser_block_l2 N rc_Pref10_parser_item N b.s' b.l' b.next' b.at' b.e' ([]:List T5)
def Pref10_parser_blocks_k1 (vbk0_0_0_1:ByteArray) (vbk0_0_1_1:(List T2)) (vbk0_0_2_1:Int) (vbk0_0_3_1:Int) (vbk0_0_4_1:Int) (a:(List (List T5))):Option ((List (List T5)) × T8) :=
 some (a,(⟨vbk0_0_0_1,vbk0_0_1_1,vbk0_0_2_1,vbk0_0_3_1,vbk0_0_4_1⟩:T8))
def Pref10_parser_blocks_l2 (N:Nat) (rc_Pref10_parser_item:T8→Option (T5 × T8)) (a:ByteArray):Nat→ByteArray→(List T2)→Int→Int→Int→(List (List T5))→Option ((List (List T5)) × T8)
 | 0,_,_,_,_,_,_=>none
 | b+1,vbk0_0_0_3,vbk0_0_1_3,vbk0_0_2_3,vbk0_0_3_3,vbk0_0_4_3,c =>
 (Pref10_parser_eat N (⟨vbk0_0_0_3,vbk0_0_1_3,vbk0_0_2_3,vbk0_0_3_3,vbk0_0_4_3⟩:T8) a).bind fun d =>
 bif d.1 then ((Pref10_parser_block N rc_Pref10_parser_item d.2).bind fun e =>
 (appL c ([e.1]:List (List T5))).bind fun f =>
 (Pref10_parser_blocks_l2 N rc_Pref10_parser_item a b) e.2.s' e.2.l' e.2.next' e.2.at' e.2.e' f)
 else Pref10_parser_blocks_k1 d.2.s' d.2.l' d.2.next' d.2.at' d.2.e' c
def Pref10_parser_blocks (N:Nat) (rc_Pref10_parser_item:T8→Option (T5 × T8)) (a:T8) (b:ByteArray):Option ((List (List T5)) × T8) :=
 (Pref10_parser_block N rc_Pref10_parser_item a).bind fun c =>
 Pref10_parser_blocks_l2 N rc_Pref10_parser_item b N c.2.s' c.2.l' c.2.next' c.2.at' c.2.e' ([c.1]:List (List T5))
def Pref10_parser_choice_k1 (N:Nat) (rc_Pref10_parser_item:T8→Option (T5 × T8)) (a:ByteArray × T8) (vbk0_0_0_1:ByteArray) (vbk0_0_1_1:(List T2)) (vbk0_0_2_1:Int) (vbk0_0_3_1:Int) (vbk0_0_4_1:Int) (b:Int):Option (T5 × T8) :=
 (Pref10_parser_blocks N rc_Pref10_parser_item (⟨vbk0_0_0_1,vbk0_0_1_1,vbk0_0_2_1,vbk0_0_3_1,vbk0_0_4_1⟩:T8) (str [111,114])).bind fun c =>
 bif (decide (b > 0)) then ((Pref10_parser_want N c.2 (str [101,108,115,101])).bind fun d =>
 (Pref10_parser_block N rc_Pref10_parser_item d).bind fun e =>
 (appL c.1 ([e.1]:List (List T5))).bind fun f =>
 some ((⟨2,a.1,([]:List ByteArray),(str []),(str []),b,f⟩:T5),e.2))
 else some ((⟨2,a.1,([]:List ByteArray),(str []),(str []),b,c.1⟩:T5),c.2)
def Pref10_parser_choice (N:Nat) (rc_Pref10_parser_item:T8→Option (T5 × T8)) (a:T8):Option (T5 × T8) :=
 (Pref10_parser_want N a (str [97,116])).bind fun b =>
 (Pref10_parser_word N b).bind fun c =>
 (Pref10_parser_eat N c.2 (str [119,105,116,104,105,110])).bind fun d =>
 bif d.1 then ((Pref10_parser_token N d.2).bind fun e =>
 bif (e.Kind==2) then (bif (decide (e.Value < 1)) then ((Pref10_parser_fail N d.2 2).bind fun f =>
 (Pref10_parser_number N f).bind fun g =>
 Pref10_parser_choice_k1 N rc_Pref10_parser_item c g.2.s' g.2.l' g.2.next' g.2.at' g.2.e' g.1)
 else bif (decide (e.Value > 1000)) then ((Pref10_parser_fail N d.2 2).bind fun h =>
 (Pref10_parser_number N h).bind fun i =>
 Pref10_parser_choice_k1 N rc_Pref10_parser_item c i.2.s' i.2.l' i.2.next' i.2.at' i.2.e' i.1)
 else (Pref10_parser_number N d.2).bind fun j =>
 Pref10_parser_choice_k1 N rc_Pref10_parser_item c j.2.s' j.2.l' j.2.next' j.2.at' j.2.e' j.1)
 else (Pref10_parser_number N d.2).bind fun k =>
 Pref10_parser_choice_k1 N rc_Pref10_parser_item c k.2.s' k.2.l' k.2.next' k.2.at' k.2.e' k.1)
 else Pref10_parser_choice_k1 N rc_Pref10_parser_item c d.2.s' d.2.l' d.2.next' d.2.at' d.2.e' 0
def Pref10_parser_item_b (N:Nat) (rc_Pref10_parser_item:T8→Option (T5 × T8)) (a:T8):Option (T5 × T8) :=
 (Pref10_parser_eat N a (str [99,104,111,105,99,101])).bind fun b =>
 bif b.1 then ((Pref10_parser_choice N rc_Pref10_parser_item b.2).bind fun c =>
 some (c.1,c.2))
 else (Pref10_parser_eat N b.2 (str [108,111,111,112])).bind fun d =>
 bif d.1 then ((Pref10_parser_path N d.2).bind fun e =>
 (Pref10_parser_block N rc_Pref10_parser_item e.2).bind fun f =>
 some ((⟨3,(str []),([]:List ByteArray),e.1,(str []),0,([f.1]:List (List T5))⟩:T5),f.2))
 else (Pref10_parser_eat N d.2 (str [97,103,97,105,110])).bind fun g =>
 bif g.1 then ((Pref10_parser_path N g.2).bind fun h =>
 (Pref10_parser_want N h.2 (str [59])).bind fun i =>
 some ((⟨4,(str []),([]:List ByteArray),h.1,(str []),0,([]:List (List T5))⟩:T5),i))
 else (Pref10_parser_eat N g.2 (str [112,97,114])).bind fun j =>
 bif j.1 then ((Pref10_parser_block N rc_Pref10_parser_item j.2).bind fun k =>
 (Pref10_parser_want N k.2 (str [97,110,100])).bind fun l =>
 (Pref10_parser_blocks N rc_Pref10_parser_item l (str [97,110,100])).bind fun m =>
 (appL ([k.1]:List (List T5)) m.1).bind fun o =>
 some ((⟨5,(str []),([]:List ByteArray),(str []),(str []),0,o⟩:T5),m.2))
 else (Pref10_parser_eat N j.2 (str [99,97,108,108])).bind fun p =>
 bif p.1 then ((Pref10_parser_word N p.2).bind fun q =>
 (Pref10_parser_want N q.2 (str [40])).bind fun r =>
 (Pref10_parser_words N r).bind fun s =>
 (Pref10_parser_want N s.2 (str [41])).bind fun t =>
 (Pref10_parser_want N t (str [97,115])).bind fun u =>
 (Pref10_parser_word N u).bind fun v =>
 (Pref10_parser_want N v.2 (str [59])).bind fun w =>
 some ((⟨6,(str []),s.1,q.1,v.1,0,([]:List (List T5))⟩:T5),w))
 else (Pref10_parser_word N p.2).bind fun x =>
 (Pref10_parser_want N x.2 (str [45,62])).bind fun y =>
 (Pref10_parser_words N y).bind fun z =>
 (Pref10_parser_want N z.2 (str [58])).bind fun A =>
 (Pref10_parser_path N A).bind fun B =>
 (Pref10_parser_want N B.2 (str [59])).bind fun C =>
 some ((⟨1,x.1,z.1,B.1,(str []),0,([]:List (List T5))⟩:T5),C)
def Pref10_parser_item_r:Nat→T8→Option (T5 × T8)
 | 0,_=>none
 | N+1,a0=>Pref10_parser_item_b N (Pref10_parser_item_r N) a0
def Pref10_parser_item (N:Nat) (a:T8):Option (T5 × T8):=Pref10_parser_item_r N a
def Pref10_parser_protocol_k1 (N:Nat) (a:ByteArray × T8) (b:(List ByteArray) × T8) (c:(List T6)) (vbk0_0_0_3:ByteArray) (vbk0_0_1_3:(List T2)) (vbk0_0_2_3:Int) (vbk0_0_3_3:Int) (vbk0_0_4_3:Int) (d:(List T5)):Option (T7 × T8) :=
 (Pref10_parser_want N (⟨vbk0_0_0_3,vbk0_0_1_3,vbk0_0_2_3,vbk0_0_3_3,vbk0_0_4_3⟩:T8) (str [125])).bind fun e =>
 some ((⟨a.1,b.1,c,d⟩:T7),e)
def Pref10_parser_protocol_l2 (N:Nat) (a:ByteArray × T8) (b:(List ByteArray) × T8) (c:(List T6)):Nat→ByteArray→(List T2)→Int→Int→Int→(List T5)→Option (T7 × T8)
 | 0,_,_,_,_,_,_=>none
 | d+1,vbk0_0_0_5,vbk0_0_1_5,vbk0_0_2_5,vbk0_0_3_5,vbk0_0_4_5,e =>
 bif (vbk0_0_4_5==0) then ((Pref10_parser_is N (⟨vbk0_0_0_5,vbk0_0_1_5,vbk0_0_2_5,vbk0_0_3_5,vbk0_0_4_5⟩:T8) (str [125])).bind fun f =>
 bif (!f) then ((Pref10_parser_item N (⟨vbk0_0_0_5,vbk0_0_1_5,vbk0_0_2_5,vbk0_0_3_5,vbk0_0_4_5⟩:T8)).bind fun g =>
 (appL e ([g.1]:List T5)).bind fun h =>
 (Pref10_parser_protocol_l2 N a b c d) g.2.s' g.2.l' g.2.next' g.2.at' g.2.e' h)
 else Pref10_parser_protocol_k1 N a b c vbk0_0_0_5 vbk0_0_1_5 vbk0_0_2_5 vbk0_0_3_5 vbk0_0_4_5 e)
 else Pref10_parser_protocol_k1 N a b c vbk0_0_0_5 vbk0_0_1_5 vbk0_0_2_5 vbk0_0_3_5 vbk0_0_4_5 e
def Pref10_parser_protocol_k3 (N:Nat) (a:ByteArray × T8) (b:(List ByteArray) × T8) (vbk0_0_0_1:ByteArray) (vbk0_0_1_1:(List T2)) (vbk0_0_2_1:Int) (vbk0_0_3_1:Int) (vbk0_0_4_1:Int) (c:(List T6)):Option (T7 × T8) :=
 Pref10_parser_protocol_l2 N a b c N vbk0_0_0_1 vbk0_0_1_1 vbk0_0_2_1 vbk0_0_3_1 vbk0_0_4_1 ([]:List T5)
def Pref10_parser_protocol_l4 (N:Nat) (a:ByteArray × T8) (b:(List ByteArray) × T8):Nat→ByteArray→(List T2)→Int→Int→Int→(List T6)→Option (T7 × T8)
 | 0,_,_,_,_,_,_=>none
 | c+1,vbk0_0_0_6,vbk0_0_1_6,vbk0_0_2_6,vbk0_0_3_6,vbk0_0_4_6,d =>
 (Pref10_parser_eat N (⟨vbk0_0_0_6,vbk0_0_1_6,vbk0_0_2_6,vbk0_0_3_6,vbk0_0_4_6⟩:T8) (str [109,101,115,115,97,103,101])).bind fun e =>
 bif e.1 then ((Pref10_parser_message N e.2).bind fun f =>
 (appL d ([f.1]:List T6)).bind fun g =>
 (Pref10_parser_protocol_l4 N a b c) f.2.s' f.2.l' f.2.next' f.2.at' f.2.e' g)
 else Pref10_parser_protocol_k3 N a b e.2.s' e.2.l' e.2.next' e.2.at' e.2.e' d
def Pref10_parser_protocol (N:Nat) (a:T8):Option (T7 × T8) :=
 (Pref10_parser_want N a (str [112,114,111,116,111,99,111,108])).bind fun b =>
 (Pref10_parser_word N b).bind fun c =>
 (Pref10_parser_want N c.2 (str [40])).bind fun d =>
 (Pref10_parser_words N d).bind fun e =>
 (Pref10_parser_want N e.2 (str [41])).bind fun f =>
 (Pref10_parser_want N f (str [123])).bind fun g =>
 Pref10_parser_protocol_l4 N c e N g.s' g.l' g.next' g.at' g.e' ([]:List T6)
def z41_k1 (a:(List ByteArray)) (b:Int):Option Bool :=
 bif (decide ((a.length:Int)≥1)) then (some (decide ((a.length:Int)≤b)))
 else some false
def z41_l2 (N:Nat) (a:(List ByteArray)) (b:Int):Nat→Int→Option Bool
 | 0,_=>none
 | c+1,d =>
 bif (decide (d < (a.length:Int))) then ((idx a d).bind fun e =>
 (z40 N e).bind fun f =>
 bif (!f) then (some false)
 else (z41_l2 N a b c) (w64 (d+1)))
 else z41_k1 a b
def z41 (N:Nat) (a:(List ByteArray)) (b:Int):Option Bool :=
 z41_l2 N a b N 0
def z42_k1 (a:Int):Option Int :=
 some a
def z42_k3 (a:Int) (b:Int) (c:Int→Int→Option Int) (d:Int):Option Int :=
 c (maxI a (w64 (d+1))) (w64 (b+1))
def z42_l4 (rc:(List T5)→Option Int) (a:(List T5)) (b:Int) (c:Int) (d:Int→Int→Option Int):Nat→Int→Int→Option Int
 | 0,_,_=>none
 | e+1,f,g =>
 (idx a c).bind fun h =>
 bif (decide (g < (h.Blocks.length:Int))) then ((idx a c).bind fun i =>
 (idx i.Blocks g).bind fun j =>
 (rc j).bind fun k =>
 (z42_l4 rc a b c d e) (maxI f k) (w64 (g+1)))
 else z42_k3 b c d f
def z42_l2 (N:Nat) (rc:(List T5)→Option Int) (a:(List T5)):Nat→Int→Int→Option Int
 | 0,_,_=>none
 | b+1,c,d =>
 bif (decide (d < (a.length:Int))) then (z42_l4 rc a c d (z42_l2 N rc a b) N 0 0)
 else z42_k1 c
def z42_b (N:Nat) (rc:(List T5)→Option Int) (a:(List T5)):Option Int :=
 z42_l2 N rc a N 0 0
def z42_r:Nat→(List T5)→Option Int
 | 0,_=>none
 | N+1,a0=>z42_b N (z42_r N) a0
def z42 (N:Nat) (a:(List T5)):Option Int:=z42_r N a
def z37_k1 (a:Int):Option Int :=
 some a
def z37_k3 (a:Int) (b:Int→Int→Option Int) (c:Int):Option Int :=
 b c (w64 (a+1))
def z37_l4 (rc:(List T5)→Option Int) (a:(List T5)) (b:Int) (c:Int→Int→Option Int):Nat→Int→Int→Option Int
 | 0,_,_=>none
 | d+1,e,f =>
 (idx a b).bind fun g =>
 bif (decide (f < (g.Blocks.length:Int))) then ((idx a b).bind fun h =>
 (idx h.Blocks f).bind fun i =>
 (rc i).bind fun j =>
 (z37_l4 rc a b c d) (w64 (e+j)) (w64 (f+1)))
 else z37_k3 b c e
def z37_l2 (N:Nat) (rc:(List T5)→Option Int) (a:(List T5)):Nat→Int→Int→Option Int
 | 0,_,_=>none
 | b+1,c,d =>
 bif (decide (d < (a.length:Int))) then (z37_l4 rc a d (z37_l2 N rc a b) N (w64 (c+1)) 0)
 else z37_k1 c
def z37_b (N:Nat) (rc:(List T5)→Option Int) (a:(List T5)):Option Int :=
 z37_l2 N rc a N 0 0
def z37_r:Nat→(List T5)→Option Int
 | 0,_=>none
 | N+1,a0=>z37_b N (z37_r N) a0
def z37 (N:Nat) (a:(List T5)):Option Int:=z37_r N a
def z22_k1 (a:ByteArray):Option Bool :=
 some (decide ((a.size:Int)≤50))
def z22_k3 (N:Nat) (a:ByteArray) (b:Int) (c:Int) (d:Int→Int→Option Bool) (e:Bool):Option Bool :=
 bif e then ((ssl a (some b) (some c)).bind fun f =>
 (z40 N f).bind fun g =>
 bif (!g) then (some false)
 else d (w64 (c+1)) (w64 (c+1)))
 else d b (w64 (c+1))
def z22_l2 (N:Nat) (a:ByteArray):Nat→Int→Int→Option Bool
 | 0,_,_=>none
 | b+1,c,d =>
 bif (decide (d≤(a.size:Int))) then (bif (d==(a.size:Int)) then (z22_k3 N a c d (z22_l2 N a b) true)
 else (sidx a d).bind fun e =>
 z22_k3 N a c d (z22_l2 N a b) (e==46))
 else z22_k1 a
def z22 (N:Nat) (a:ByteArray):Option Bool :=
 z22_l2 N a N 0 0
def z88_k1 (a:Bool):Option Bool :=
 some a
def z88_l2 (rc:(List T5)→Option Bool) (a:T5):Nat→Bool→Int→Option Bool
 | 0,_,_=>none
 | b+1,c,d =>
 bif (decide (d < (a.Blocks.length:Int))) then (bif c then ((idx a.Blocks d).bind fun e =>
 (rc e).bind fun f =>
 (z88_l2 rc a b) f (w64 (d+1)))
 else z88_k1 c)
 else z88_k1 c
def z88_k3 (N:Nat) (rc:(List T5)→Option Bool) (a:T5) (b:Bool):Option Bool :=
 z88_l2 rc a N b 0
def z88_k4 (N:Nat) (rc:(List T5)→Option Bool) (a:T5) (b:Int):Option Bool :=
 (z40 N a.From).bind fun c =>
 bif c then (bif ((a.To.length:Int)==0) then (bif (a.Name.toList==(str []).toList) then (bif (a.As.toList==(str []).toList) then (bif (decide (a.Ticks≥0)) then (bif (decide (a.Ticks≤1000)) then (bif (decide ((a.Blocks.length:Int)≥b)) then (z88_k3 N rc a (decide ((a.Blocks.length:Int)≤8)))
 else z88_k3 N rc a false)
 else z88_k3 N rc a false)
 else z88_k3 N rc a false)
 else z88_k3 N rc a false)
 else z88_k3 N rc a false)
 else z88_k3 N rc a false)
 else z88_k3 N rc a false
def z88 (N:Nat) (rc:(List T5)→Option Bool) (a:T5):Option Bool :=
 bif (a.Kind==1) then ((z40 N a.From).bind fun b =>
 bif b then ((z41 N a.To 5).bind fun c =>
 bif c then ((z22 N a.Name).bind fun d =>
 bif d then (bif (a.As.toList==(str []).toList) then (bif (a.Ticks==0) then (z88_k3 N rc a ((a.Blocks.length:Int)==0))
 else z88_k3 N rc a false)
 else z88_k3 N rc a false)
 else z88_k3 N rc a false)
 else z88_k3 N rc a false)
 else z88_k3 N rc a false)
 else bif (a.Kind==2) then (bif (decide (a.Ticks > 0)) then (z88_k4 N rc a 2)
 else z88_k4 N rc a 1)
 else bif (a.Kind==3) then (bif (a.From.toList==(str []).toList) then (bif ((a.To.length:Int)==0) then ((z22 N a.Name).bind fun e =>
 bif e then (bif (a.As.toList==(str []).toList) then (bif (a.Ticks==0) then (z88_k3 N rc a ((a.Blocks.length:Int)==1))
 else z88_k3 N rc a false)
 else z88_k3 N rc a false)
 else z88_k3 N rc a false)
 else z88_k3 N rc a false)
 else z88_k3 N rc a false)
 else bif (a.Kind==4) then (bif (a.From.toList==(str []).toList) then (bif ((a.To.length:Int)==0) then ((z22 N a.Name).bind fun f =>
 bif f then (bif (a.As.toList==(str []).toList) then (bif (a.Ticks==0) then (z88_k3 N rc a ((a.Blocks.length:Int)==0))
 else z88_k3 N rc a false)
 else z88_k3 N rc a false)
 else z88_k3 N rc a false)
 else z88_k3 N rc a false)
 else z88_k3 N rc a false)
 else bif (a.Kind==5) then (bif (a.From.toList==(str []).toList) then (bif ((a.To.length:Int)==0) then (bif (a.Name.toList==(str []).toList) then (bif (a.As.toList==(str []).toList) then (bif (a.Ticks==0) then (bif (decide ((a.Blocks.length:Int)≥2)) then (z88_k3 N rc a (decide ((a.Blocks.length:Int)≤8)))
 else z88_k3 N rc a false)
 else z88_k3 N rc a false)
 else z88_k3 N rc a false)
 else z88_k3 N rc a false)
 else z88_k3 N rc a false)
 else z88_k3 N rc a false)
 else bif (a.Kind==6) then (bif (a.From.toList==(str []).toList) then ((z41 N a.To 6).bind fun g =>
 bif g then ((z40 N a.Name).bind fun h =>
 bif h then ((z40 N a.As).bind fun i =>
 bif i then (bif (a.Ticks==0) then (z88_k3 N rc a ((a.Blocks.length:Int)==0))
 else z88_k3 N rc a false)
 else z88_k3 N rc a false)
 else z88_k3 N rc a false)
 else z88_k3 N rc a false)
 else z88_k3 N rc a false)
 else z88_k3 N rc a false
def z43_k1:Option Bool :=
 some true
def z43_l2 (N:Nat) (rc:(List T5)→Option Bool) (a:(List T5)):Nat→Int→Option Bool
 | 0,_=>none
 | b+1,c =>
 bif (decide (c < (a.length:Int))) then ((idx a c).bind fun d =>
 (z88 N rc d).bind fun e =>
 bif (!e) then (some false)
 else (z43_l2 N rc a b) (w64 (c+1)))
 else z43_k1
def z43_b (N:Nat) (rc:(List T5)→Option Bool) (a:(List T5)):Option Bool :=
 z43_l2 N rc a N 0
def z43_r:Nat→(List T5)→Option Bool
 | 0,_=>none
 | N+1,a0=>z43_b N (z43_r N) a0
def z43 (N:Nat) (a:(List T5)):Option Bool:=z43_r N a
def z89 (N:Nat) (a:Int):Option Bool :=
 bif (decide (a≥(-999999))) then (some (decide (a≤999999)))
 else some false
def z90 (N:Nat) (a:T13):Option Bool :=
 (z89 N a.N).bind fun b =>
 bif (!b) then (some false)
 else bif (a.Kind==1) then (bif (a.Message.toList==(str []).toList) then (some (a.Field.toList==(str []).toList))
 else some false)
 else bif (a.Kind==2) then ((z40 N a.Field).bind fun c =>
 bif c then (bif (a.Message.toList==(str []).toList) then (some true)
 else (z22 N a.Message).bind fun d =>
 some d)
 else some false)
 else bif (a.Kind==3) then ((z40 N a.Field).bind fun e =>
 bif e then (bif (a.Message.toList==(str []).toList) then (some true)
 else (z22 N a.Message).bind fun f =>
 some f)
 else some false)
 else some false
def z44_k1 (N:Nat) (a:T6):Option Bool :=
 (z22 N a.Name).bind fun b =>
 bif b then (bif (decide ((a.Fields.length:Int)≤4)) then (some (decide ((a.Where.length:Int)≤6)))
 else some false)
 else some false
def z44_l2 (N:Nat) (a:T6):Nat→Int→Option Bool
 | 0,_=>none
 | b+1,c =>
 bif (decide (c < (a.Where.length:Int))) then ((idx a.Where c).bind fun d =>
 (z90 N d.Left).bind fun e =>
 bif (!e) then (some false)
 else (z90 N d.Right).bind fun f =>
 bif (!f) then (some false)
 else bif (!(d.Op.toList==(str [60]).toList)) then (bif (!(d.Op.toList==(str [60,61]).toList)) then (bif (!(d.Op.toList==(str [61,61]).toList)) then (bif (!(d.Op.toList==(str [62,61]).toList)) then (bif (!(d.Op.toList==(str [62]).toList)) then (some false)
 else (z44_l2 N a b) (w64 (c+1)))
 else (z44_l2 N a b) (w64 (c+1)))
 else (z44_l2 N a b) (w64 (c+1)))
 else (z44_l2 N a b) (w64 (c+1)))
 else (z44_l2 N a b) (w64 (c+1)))
 else z44_k1 N a
def z44_k3 (N:Nat) (a:T6):Option Bool :=
 z44_l2 N a N 0
def z44_l4 (N:Nat) (a:T6):Nat→Int→Option Bool
 | 0,_=>none
 | b+1,c =>
 bif (decide (c < (a.Fields.length:Int))) then ((idx a.Fields c).bind fun d =>
 (idx a.Fields c).bind fun e =>
 (z40 N e.Name).bind fun f =>
 bif (!f) then (some false)
 else (z89 N d.Sort'.Lo).bind fun g =>
 bif (!g) then (some false)
 else (z89 N d.Sort'.Hi).bind fun h =>
 bif (!h) then (some false)
 else bif (d.Sort'.Kind != 1) then (bif (d.Sort'.Kind != 2) then (some false)
 else bif (d.Sort'.Kind==2) then (bif (decide (d.Sort'.Lo < 0)) then (some false)
 else bif (decide (d.Sort'.Hi < 0)) then (some false)
 else (z44_l4 N a b) (w64 (c+1)))
 else (z44_l4 N a b) (w64 (c+1)))
 else bif (d.Sort'.Kind==2) then (bif (decide (d.Sort'.Lo < 0)) then (some false)
 else bif (decide (d.Sort'.Hi < 0)) then (some false)
 else (z44_l4 N a b) (w64 (c+1)))
 else (z44_l4 N a b) (w64 (c+1)))
 else z44_k3 N a
def z44 (N:Nat) (a:T6):Option Bool :=
 z44_l4 N a N 0
def z84_k1 (a:ByteArray):Option ByteArray :=
 some a
def z84_l2 (a:(List ByteArray)):Nat→ByteArray→Int→Option ByteArray
 | 0,_,_=>none
 | b+1,c,d =>
 bif (decide (d < (a.length:Int))) then (bif (decide (d > 0)) then ((catS c (str [44,32])).bind fun e =>
 (idx a d).bind fun f =>
 (catS e f).bind fun g =>
 (z84_l2 a b) g (w64 (d+1)))
 else (idx a d).bind fun h =>
 (catS c h).bind fun i =>
 (z84_l2 a b) i (w64 (d+1)))
 else z84_k1 c
def z84 (N:Nat) (a:(List ByteArray)):Option ByteArray :=
 z84_l2 a N (str []) 0
def z134_b (N:Nat) (rc:Int→Option ByteArray) (a:Int):Option ByteArray :=
 bif (decide (a < (-9))) then ((rc (w64 (a.tdiv 10))).bind fun b =>
 (catS b (Utf8.encode (wk .i32 ((w64 (48-(a.tmod 10))))))).bind fun c =>
 some c)
 else bif (decide (a < 0)) then ((catS (str [45]) (Utf8.encode (wk .i32 ((w64 (48-a)))))).bind fun d =>
 some d)
 else bif (decide (a < 10)) then (some (Utf8.encode (wk .i32 ((w64 (48+a))))))
 else (rc (w64 (a.tdiv 10))).bind fun e =>
 (catS e (Utf8.encode (wk .i32 ((w64 (48+(a.tmod 10))))))).bind fun f =>
 some f
def z134_r:Nat→Int→Option ByteArray
 | 0,_=>none
 | N+1,a0=>z134_b N (z134_r N) a0
def z134 (N:Nat) (a:Int):Option ByteArray:=z134_r N a
def z135_k1 (N:Nat) (a:T13) (b:ByteArray):Option ByteArray :=
 bif (decide (a.N > 0)) then ((z134 N a.N).bind fun c =>
 (catS (str [32,43,32]) c).bind fun d =>
 (catS b d).bind fun e =>
 some e)
 else bif (decide (a.N < 0)) then ((z134 N (w64 (0-a.N))).bind fun f =>
 (catS (str [32,45,32]) f).bind fun g =>
 (catS b g).bind fun h =>
 some h)
 else some b
def z135_k2 (N:Nat) (a:T13) (b:ByteArray):Option ByteArray :=
 bif (a.Kind==3) then ((catS (str [108,101,110,40]) b).bind fun c =>
 (catS c (str [41])).bind fun d =>
 z135_k1 N a d)
 else z135_k1 N a b
def z135 (N:Nat) (a:T13):Option ByteArray :=
 bif (a.Kind==1) then ((z134 N a.N).bind fun b =>
 some b)
 else bif (!(a.Message.toList==(str []).toList)) then ((catS a.Message (str [46])).bind fun c =>
 (catS c a.Field).bind fun d =>
 z135_k2 N a d)
 else z135_k2 N a a.Field
def z85_k1 (a:ByteArray):Option ByteArray :=
 (catS a (str [59])).bind fun b =>
 some b
def z85_k3 (N:Nat) (a:T6) (b:Int) (c:ByteArray→Int→Option ByteArray) (d:ByteArray):Option ByteArray :=
 (idx a.Where b).bind fun e =>
 (z135 N e.Left).bind fun f =>
 (catS f (str [32])).bind fun g =>
 (idx a.Where b).bind fun h =>
 (catS g h.Op).bind fun i =>
 (catS i (str [32])).bind fun j =>
 (idx a.Where b).bind fun k =>
 (z135 N k.Right).bind fun l =>
 (catS j l).bind fun m =>
 (catS d m).bind fun o =>
 c o (w64 (b+1))
def z85_l2 (N:Nat) (a:T6):Nat→ByteArray→Int→Option ByteArray
 | 0,_,_=>none
 | b+1,c,d =>
 bif (decide (d < (a.Where.length:Int))) then (bif (d==0) then ((catS c (str [32,119,104,101,114,101,32])).bind fun e =>
 z85_k3 N a d (z85_l2 N a b) e)
 else (catS c (str [32,97,110,100,32])).bind fun f =>
 z85_k3 N a d (z85_l2 N a b) f)
 else z85_k1 c
def z85_k4 (N:Nat) (a:T6) (b:ByteArray):Option ByteArray :=
 (catS b (str [41])).bind fun c =>
 z85_l2 N a N c 0
def z85_k6 (N:Nat) (a:Int) (b:ByteArray→Int→Option ByteArray) (c:T0) (d:ByteArray) (e:ByteArray):Option ByteArray :=
 (catS c.Name (str [58,32])).bind fun f =>
 (catS f d).bind fun g =>
 (catS g (str [32])).bind fun h =>
 (z134 N c.Sort'.Lo).bind fun i =>
 (catS h i).bind fun j =>
 (catS j (str [46,46])).bind fun k =>
 (z134 N c.Sort'.Hi).bind fun l =>
 (catS k l).bind fun m =>
 (catS e m).bind fun o =>
 b o (w64 (a+1))
def z85_k7 (N:Nat) (a:ByteArray) (b:Int) (c:ByteArray→Int→Option ByteArray) (d:T0) (e:ByteArray):Option ByteArray :=
 bif (decide (b > 0)) then ((catS a (str [44,32])).bind fun f =>
 z85_k6 N b c d e f)
 else z85_k6 N b c d e a
def z85_l5 (N:Nat) (a:T6):Nat→ByteArray→Int→Option ByteArray
 | 0,_,_=>none
 | b+1,c,d =>
 bif (decide (d < (a.Fields.length:Int))) then ((idx a.Fields d).bind fun e =>
 bif (e.Sort'.Kind==2) then (z85_k7 N c d (z85_l5 N a b) e (str [116,101,120,116]))
 else z85_k7 N c d (z85_l5 N a b) e (str [105,110,116]))
 else z85_k4 N a c
def z85 (N:Nat) (a:T6):Option ByteArray :=
 (catS (str [109,101,115,115,97,103,101,32]) a.Name).bind fun b =>
 (catS b (str [40])).bind fun c =>
 z85_l5 N a N c 0
def z136_k1 (a:ByteArray) (b:ByteArray):Option ByteArray :=
 (catS b a).bind fun c =>
 (catS c (str [125])).bind fun d =>
 some d
def z136_l2 (rc:T5→ByteArray→Option ByteArray) (a:(List T5)) (b:ByteArray):Nat→ByteArray→Int→Option ByteArray
 | 0,_,_=>none
 | c+1,d,e =>
 bif (decide (e < (a.length:Int))) then ((catS b (str [9])).bind fun f =>
 (idx a e).bind fun g =>
 (catS b (str [9])).bind fun h =>
 (rc g h).bind fun i =>
 (catS f i).bind fun j =>
 (catS j (str [10])).bind fun k =>
 (catS d k).bind fun l =>
 (z136_l2 rc a b c) l (w64 (e+1)))
 else z136_k1 b d
def z136 (N:Nat) (rc:T5→ByteArray→Option ByteArray) (a:(List T5)) (b:ByteArray):Option ByteArray :=
 z136_l2 rc a b N (str [123,10]) 0
def z86_k1 (a:ByteArray):Option ByteArray :=
 some a
def z86_k3 (N:Nat) (rc:T5→ByteArray→Option ByteArray) (a:T5) (b:ByteArray) (c:ByteArray) (d:ByteArray) (e:Int) (f:ByteArray→Int→Option ByteArray) (g:Bool):Option ByteArray :=
 bif g then ((catS d (str [32,101,108,115,101,32])).bind fun h =>
 (idx a.Blocks e).bind fun i =>
 (z136 N rc i b).bind fun j =>
 (catS h j).bind fun k =>
 f k (w64 (e+1)))
 else bif (decide (e > 0)) then ((catS d c).bind fun l =>
 (idx a.Blocks e).bind fun m =>
 (z136 N rc m b).bind fun o =>
 (catS l o).bind fun p =>
 f p (w64 (e+1)))
 else (idx a.Blocks e).bind fun q =>
 (z136 N rc q b).bind fun r =>
 (catS d r).bind fun s =>
 f s (w64 (e+1))
def z86_l2 (N:Nat) (rc:T5→ByteArray→Option ByteArray) (a:T5) (b:ByteArray) (c:ByteArray):Nat→ByteArray→Int→Option ByteArray
 | 0,_,_=>none
 | d+1,e,f =>
 bif (decide (f < (a.Blocks.length:Int))) then (bif (decide (f > 0)) then (bif (decide (a.Ticks > 0)) then (z86_k3 N rc a b c e f (z86_l2 N rc a b c d) (f==(w64 ((a.Blocks.length:Int)-1))))
 else z86_k3 N rc a b c e f (z86_l2 N rc a b c d) false)
 else z86_k3 N rc a b c e f (z86_l2 N rc a b c d) false)
 else z86_k1 e
def z86_k4 (N:Nat) (rc:T5→ByteArray→Option ByteArray) (a:T5) (b:ByteArray) (c:ByteArray) (d:ByteArray):Option ByteArray :=
 z86_l2 N rc a b d N c 0
def z86_b (N:Nat) (rc:T5→ByteArray→Option ByteArray) (a:T5) (b:ByteArray):Option ByteArray :=
 bif (a.Kind==1) then ((catS a.From (str [32,45,62,32])).bind fun c =>
 (z84 N a.To).bind fun d =>
 (catS c d).bind fun e =>
 (catS e (str [58,32])).bind fun f =>
 (catS f a.Name).bind fun g =>
 (catS g (str [59])).bind fun h =>
 some h)
 else bif (a.Kind==4) then ((catS (str [97,103,97,105,110,32]) a.Name).bind fun i =>
 (catS i (str [59])).bind fun j =>
 some j)
 else bif (a.Kind==6) then ((catS (str [99,97,108,108,32]) a.Name).bind fun k =>
 (catS k (str [40])).bind fun l =>
 (z84 N a.To).bind fun m =>
 (catS l m).bind fun o =>
 (catS o (str [41,32,97,115,32])).bind fun p =>
 (catS p a.As).bind fun q =>
 (catS q (str [59])).bind fun r =>
 some r)
 else bif (a.Kind==3) then ((catS (str [108,111,111,112,32]) a.Name).bind fun s =>
 (catS s (str [32])).bind fun t =>
 z86_k4 N rc a b t (str []))
 else bif (a.Kind==5) then (z86_k4 N rc a b (str [112,97,114,32]) (str [32,97,110,100,32]))
 else (catS (str [99,104,111,105,99,101,32,97,116,32]) a.From).bind fun u =>
 (catS u (str [32])).bind fun v =>
 bif (decide (a.Ticks > 0)) then ((z134 N a.Ticks).bind fun w =>
 (catS (str [119,105,116,104,105,110,32]) w).bind fun x =>
 (catS x (str [32])).bind fun y =>
 (catS v y).bind fun z =>
 z86_k4 N rc a b z (str [32,111,114,32]))
 else z86_k4 N rc a b v (str [32,111,114,32])
def z86_r:Nat→T5→ByteArray→Option ByteArray
 | 0,_,_=>none
 | N+1,a0,a1=>z86_b N (z86_r N) a0 a1
def z86 (N:Nat) (a:T5) (b:ByteArray):Option ByteArray:=z86_r N a b
def z39_k1 (a:ByteArray):Option ByteArray :=
 some a
def z39_k3 (a:Int) (b:ByteArray→Int→Option ByteArray) (c:ByteArray):Option ByteArray :=
 (catS c (str [125,10])).bind fun d =>
 b d (w64 (a+1))
def z39_l4 (N:Nat) (a:(List T7)) (b:Int) (c:ByteArray→Int→Option ByteArray):Nat→ByteArray→Int→Option ByteArray
 | 0,_,_=>none
 | d+1,e,f =>
 (idx a b).bind fun g =>
 bif (decide (f < (g.Body.length:Int))) then ((idx a b).bind fun h =>
 (idx h.Body f).bind fun i =>
 (z86 N i (str [9])).bind fun j =>
 (catS (str [9]) j).bind fun k =>
 (catS k (str [10])).bind fun l =>
 (catS e l).bind fun m =>
 (z39_l4 N a b c d) m (w64 (f+1)))
 else z39_k3 b c e
def z39_k5 (N:Nat) (a:(List T7)) (b:Int) (c:ByteArray→Int→Option ByteArray) (d:ByteArray):Option ByteArray :=
 z39_l4 N a b c N d 0
def z39_l6 (N:Nat) (a:(List T7)) (b:Int) (c:ByteArray→Int→Option ByteArray):Nat→ByteArray→Int→Option ByteArray
 | 0,_,_=>none
 | d+1,e,f =>
 (idx a b).bind fun g =>
 bif (decide (f < (g.Messages.length:Int))) then ((idx a b).bind fun h =>
 (idx h.Messages f).bind fun i =>
 (z85 N i).bind fun j =>
 (catS (str [9]) j).bind fun k =>
 (catS k (str [10])).bind fun l =>
 (catS e l).bind fun m =>
 (z39_l6 N a b c d) m (w64 (f+1)))
 else z39_k5 N a b c e
def z39_l2 (N:Nat) (a:(List T7)):Nat→ByteArray→Int→Option ByteArray
 | 0,_,_=>none
 | b+1,c,d =>
 bif (decide (d < (a.length:Int))) then ((idx a d).bind fun e =>
 (catS (str [112,114,111,116,111,99,111,108,32]) e.Name).bind fun f =>
 (catS f (str [40])).bind fun g =>
 (idx a d).bind fun h =>
 (z84 N h.Roles).bind fun i =>
 (catS g i).bind fun j =>
 (catS j (str [41,32,123,10])).bind fun k =>
 (catS c k).bind fun l =>
 z39_l6 N a d (z39_l2 N a b) N l 0)
 else z39_k1 c
def z39 (N:Nat) (a:(List T7)):Option ByteArray :=
 z39_l2 N a N (str []) 0
def z19_k1 (N:Nat) (a:(List T7)):Option Bool :=
 (z39 N a).bind fun b =>
 some (decide ((b.size:Int)≤8000))
def z19_k3 (a:Int) (b:Int→Option Bool):Option Bool :=
 b (w64 (a+1))
def z19_l4 (N:Nat) (a:Int) (b:Int→Option Bool) (c:T7):Nat→Int→Option Bool
 | 0,_=>none
 | d+1,e =>
 bif (decide (e < (c.Messages.length:Int))) then ((idx c.Messages e).bind fun f =>
 (z44 N f).bind fun g =>
 bif (!g) then (some false)
 else (z19_l4 N a b c d) (w64 (e+1)))
 else z19_k3 a b
def z19_l2 (N:Nat) (a:(List T7)):Nat→Int→Option Bool
 | 0,_=>none
 | b+1,c =>
 bif (decide (c < (a.length:Int))) then ((idx a c).bind fun d =>
 (z40 N d.Name).bind fun e =>
 bif (!e) then (some false)
 else (z41 N d.Roles 6).bind fun f =>
 bif (!f) then (some false)
 else bif (decide ((d.Messages.length:Int) > 40)) then (some false)
 else (z42 N d.Body).bind fun g =>
 bif (decide (g > 10)) then (some false)
 else (z37 N d.Body).bind fun h =>
 bif (decide (h > 300)) then (some false)
 else (z43 N d.Body).bind fun i =>
 bif (!i) then (some false)
 else z19_l4 N c (z19_l2 N a b) d N 0)
 else z19_k1 N a
def z19 (N:Nat) (a:(List T7)):Option Bool :=
 bif (decide ((a.length:Int) > 10)) then (some false)
 else z19_l2 N a N 0
def ref10_Parse_k1 (N:Nat) (a:ByteArray) (b:(List T2)) (c:Int) (d:Int) (e:Int) (f:(List T7)):Option ((List T7) × Int × Int) :=
 bif (e != 0) then (some (([]:List T7),d,e))
 else (z19 N f).bind fun g =>
 bif (!g) then (some (([]:List T7),0,6))
 else some (f,0,0)
def ref10_Parse_l2 (N:Nat) (a:(List T2) × Int × Int):Nat→ByteArray→(List T2)→Int→Int→Int→(List T7)→Option ((List T7) × Int × Int)
 | 0,_,_,_,_,_,_=>none
 | b+1,c,d,e,f,g,h =>
 bif (g==0) then (bif (decide (e < (a.1.length:Int))) then ((Pref10_parser_protocol N (⟨c,d,e,f,g⟩:T8)).bind fun i =>
 (appL h ([i.1]:List T7)).bind fun j =>
 (ref10_Parse_l2 N a b) i.2.s' i.2.l' i.2.next' i.2.at' i.2.e' j)
 else ref10_Parse_k1 N c d e f g h)
 else ref10_Parse_k1 N c d e f g h
def ref10_Parse (N:Nat) (a:ByteArray):Option ((List T7) × Int × Int) :=
 (ref09_Tokens N a).bind fun b =>
 bif (b.2.2 != 0) then (some (([]:List T7),b.2.1,b.2.2))
 else ref10_Parse_l2 N b N a b.1 0 0 0 ([]:List T7)
def z31_k1 (a:(List T5)):Option (List T5) :=
 some a
def z31_k3 (a:(List T5)) (b:Int) (c:(List T5)→Int→Option (List T5)) (d:T10) (e:(List (List T5))):Option (List T5) :=
 (appL a ([(⟨d.Kind,d.From,d.To,d.Name,d.As,d.Ticks,e⟩:T5)]:List T5)).bind fun f =>
 c f (w64 (b+1))
def z31_l4 (rc:(List T10)→Option (List T5)) (a:(List T5)) (b:Int) (c:(List T5)→Int→Option (List T5)) (d:T10):Nat→(List (List T5))→Int→Option (List T5)
 | 0,_,_=>none
 | e+1,f,g =>
 bif (decide (g < (d.Blocks.length:Int))) then ((idx d.Blocks g).bind fun h =>
 (rc h).bind fun i =>
 (appL f ([i]:List (List T5))).bind fun j =>
 (z31_l4 rc a b c d e) j (w64 (g+1)))
 else z31_k3 a b c d f
def z31_l2 (N:Nat) (rc:(List T10)→Option (List T5)) (a:(List T10)):Nat→(List T5)→Int→Option (List T5)
 | 0,_,_=>none
 | b+1,c,d =>
 bif (decide (d < (a.length:Int))) then ((idx a d).bind fun e =>
 z31_l4 rc c d (z31_l2 N rc a b) e N ([]:List (List T5)) 0)
 else z31_k1 c
def z31_b (N:Nat) (rc:(List T10)→Option (List T5)) (a:(List T10)):Option (List T5) :=
 z31_l2 N rc a N ([]:List T5) 0
def z31_r:Nat→(List T10)→Option (List T5)
 | 0,_=>none
 | N+1,a0=>z31_b N (z31_r N) a0
def z31 (N:Nat) (a:(List T10)):Option (List T5):=z31_r N a
def z13_k1 (a:(List T7)):Option (List T7) :=
 some a
def z13_k3 (a:(List T7)) (b:Int) (c:(List T7)→Int→Option (List T7)) (d:T12) (e:(List T5)) (f:(List T6)):Option (List T7) :=
 (appL a ([(⟨d.Name,d.Roles,f,e⟩:T7)]:List T7)).bind fun g =>
 c g (w64 (b+1))
def z13_k5 (a:(List T6)) (b:Int) (c:(List T6)→Int→Option (List T7)) (d:T11) (e:(List T4)):Option (List T7) :=
 (appL a ([(⟨d.Name,d.Fields,e⟩:T6)]:List T6)).bind fun f =>
 c f (w64 (b+1))
def z13_l6 (a:(List T6)) (b:Int) (c:(List T6)→Int→Option (List T7)) (d:T11):Nat→(List T4)→Int→Option (List T7)
 | 0,_,_=>none
 | e+1,f,g =>
 bif (decide (g < (d.Where.length:Int))) then ((idx d.Where g).bind fun h =>
 (appL f ([(⟨h.Left,h.Op,h.Right⟩:T4)]:List T4)).bind fun i =>
 (z13_l6 a b c d e) i (w64 (g+1)))
 else z13_k5 a b c d f
def z13_l4 (N:Nat) (a:(List T7)) (b:Int) (c:(List T7)→Int→Option (List T7)) (d:T12) (e:(List T5)):Nat→(List T6)→Int→Option (List T7)
 | 0,_,_=>none
 | f+1,g,h =>
 bif (decide (h < (d.Messages.length:Int))) then ((idx d.Messages h).bind fun i =>
 z13_l6 g h (z13_l4 N a b c d e f) i N ([]:List T4) 0)
 else z13_k3 a b c d e g
def z13_l2 (N:Nat) (a:(List T12)):Nat→(List T7)→Int→Option (List T7)
 | 0,_,_=>none
 | b+1,c,d =>
 bif (decide (d < (a.length:Int))) then ((idx a d).bind fun e =>
 (z31 N e.Body).bind fun f =>
 z13_l4 N c d (z13_l2 N a b) e f N ([]:List T6) 0)
 else z13_k1 c
def z13 (N:Nat) (a:(List T12)):Option (List T7) :=
 z13_l2 N a N ([]:List T7) 0
def z28_k1:Option Bool :=
 some true
def z28_l2 (a:(List ByteArray)) (b:(List ByteArray)):Nat→Int→Option Bool
 | 0,_=>none
 | c+1,d =>
 bif (decide (d < (a.length:Int))) then ((idx a d).bind fun e =>
 (idx b d).bind fun f =>
 bif (!(e.toList==f.toList)) then (some false)
 else (z28_l2 a b c) (w64 (d+1)))
 else z28_k1
def z28 (N:Nat) (a:(List ByteArray)) (b:(List ByteArray)):Option Bool :=
 bif ((a.length:Int) != (b.length:Int)) then (some false)
 else z28_l2 a b N 0
def z29_k1:Option Bool :=
 some true
def z29_k3 (a:Int) (b:Int→Option Bool):Option Bool :=
 b (w64 (a+1))
def z29_l4 (a:(List T6)) (b:(List T6)) (c:Int) (d:Int→Option Bool):Nat→Int→Option Bool
 | 0,_=>none
 | e+1,f =>
 (idx a c).bind fun g =>
 bif (decide (f < (g.Where.length:Int))) then ((idx a c).bind fun h =>
 (idx h.Where f).bind fun i =>
 (idx b c).bind fun j =>
 (idx j.Where f).bind fun k =>
 bif (!(((i.Left.Kind==k.Left.Kind) && ((i.Left.Message.toList==k.Left.Message.toList) && ((i.Left.Field.toList==k.Left.Field.toList) && ((i.Left.N==k.Left.N) && true)))) && ((i.Op.toList==k.Op.toList) && (((i.Right.Kind==k.Right.Kind) && ((i.Right.Message.toList==k.Right.Message.toList) && ((i.Right.Field.toList==k.Right.Field.toList) && ((i.Right.N==k.Right.N) && true)))) && true)))) then (some false)
 else (z29_l4 a b c d e) (w64 (f+1)))
 else z29_k3 c d
def z29_k5 (N:Nat) (a:(List T6)) (b:(List T6)) (c:Int) (d:Int→Option Bool):Option Bool :=
 z29_l4 a b c d N 0
def z29_l6 (N:Nat) (a:(List T6)) (b:(List T6)) (c:Int) (d:Int→Option Bool):Nat→Int→Option Bool
 | 0,_=>none
 | e+1,f =>
 (idx a c).bind fun g =>
 bif (decide (f < (g.Fields.length:Int))) then ((idx a c).bind fun h =>
 (idx h.Fields f).bind fun i =>
 (idx b c).bind fun j =>
 (idx j.Fields f).bind fun k =>
 bif (!((i.Name.toList==k.Name.toList) && (((i.Sort'.Kind==k.Sort'.Kind) && ((i.Sort'.Lo==k.Sort'.Lo) && ((i.Sort'.Hi==k.Sort'.Hi) && true))) && true))) then (some false)
 else (z29_l6 N a b c d e) (w64 (f+1)))
 else z29_k5 N a b c d
def z29_l2 (N:Nat) (a:(List T6)) (b:(List T6)):Nat→Int→Option Bool
 | 0,_=>none
 | c+1,d =>
 bif (decide (d < (a.length:Int))) then ((idx a d).bind fun e =>
 (idx b d).bind fun f =>
 bif (!(e.Name.toList==f.Name.toList)) then (some false)
 else (idx a d).bind fun g =>
 (idx b d).bind fun h =>
 bif ((g.Fields.length:Int) != (h.Fields.length:Int)) then (some false)
 else (idx a d).bind fun i =>
 (idx b d).bind fun j =>
 bif ((i.Where.length:Int) != (j.Where.length:Int)) then (some false)
 else z29_l6 N a b d (z29_l2 N a b c) N 0)
 else z29_k1
def z29 (N:Nat) (a:(List T6)) (b:(List T6)):Option Bool :=
 bif ((a.length:Int) != (b.length:Int)) then (some false)
 else z29_l2 N a b N 0
def z30_k1:Option Bool :=
 some true
def z30_k3 (a:Int) (b:Int→Option Bool):Option Bool :=
 b (w64 (a+1))
def z30_l4 (rc:(List T5)→(List T5)→Option Bool) (a:Int) (b:Int→Option Bool) (c:T5) (d:T5):Nat→Int→Option Bool
 | 0,_=>none
 | e+1,f =>
 bif (decide (f < (c.Blocks.length:Int))) then ((idx c.Blocks f).bind fun g =>
 (idx d.Blocks f).bind fun h =>
 (rc g h).bind fun i =>
 bif (!i) then (some false)
 else (z30_l4 rc a b c d e) (w64 (f+1)))
 else z30_k3 a b
def z30_l2 (N:Nat) (rc:(List T5)→(List T5)→Option Bool) (a:(List T5)) (b:(List T5)):Nat→Int→Option Bool
 | 0,_=>none
 | c+1,d =>
 bif (decide (d < (a.length:Int))) then ((idx a d).bind fun e =>
 (idx b d).bind fun f =>
 bif (e.Kind != f.Kind) then (some false)
 else bif (!(e.From.toList==f.From.toList)) then (some false)
 else (z28 N e.To f.To).bind fun g =>
 bif (!g) then (some false)
 else bif (!(e.Name.toList==f.Name.toList)) then (some false)
 else bif (!(e.As.toList==f.As.toList)) then (some false)
 else bif (e.Ticks != f.Ticks) then (some false)
 else bif ((e.Blocks.length:Int) != (f.Blocks.length:Int)) then (some false)
 else z30_l4 rc d (z30_l2 N rc a b c) e f N 0)
 else z30_k1
def z30_b (N:Nat) (rc:(List T5)→(List T5)→Option Bool) (a:(List T5)) (b:(List T5)):Option Bool :=
 bif ((a.length:Int) != (b.length:Int)) then (some false)
 else z30_l2 N rc a b N 0
def z30_r:Nat→(List T5)→(List T5)→Option Bool
 | 0,_,_=>none
 | N+1,a0,a1=>z30_b N (z30_r N) a0 a1
def z30 (N:Nat) (a:(List T5)) (b:(List T5)):Option Bool:=z30_r N a b
def z12_k1:Option Bool :=
 some true
def z12_l2 (N:Nat) (a:(List T7)) (b:(List T7)):Nat→Int→Option Bool
 | 0,_=>none
 | c+1,d =>
 bif (decide (d < (a.length:Int))) then ((idx a d).bind fun e =>
 (idx b d).bind fun f =>
 bif (!(e.Name.toList==f.Name.toList)) then (some false)
 else (idx a d).bind fun g =>
 (idx b d).bind fun h =>
 (z28 N g.Roles h.Roles).bind fun i =>
 bif (!i) then (some false)
 else (idx a d).bind fun j =>
 (idx b d).bind fun k =>
 (z29 N j.Messages k.Messages).bind fun l =>
 bif (!l) then (some false)
 else (idx a d).bind fun m =>
 (idx b d).bind fun o =>
 (z30 N m.Body o.Body).bind fun p =>
 bif (!p) then (some false)
 else (z12_l2 N a b c) (w64 (d+1)))
 else z12_k1
def z12 (N:Nat) (a:(List T7)) (b:(List T7)):Option Bool :=
 bif ((a.length:Int) != (b.length:Int)) then (some false)
 else z12_l2 N a b N 0
def z15_k1 (a:(List T7)) (b:Int) (c:Int):Option Bool :=
 bif (decide ((a.length:Int)≤12)) then (bif (decide (b≤320)) then (some (decide (c≤60)))
 else some false)
 else some false
def z15_k3 (a:Int) (b:Int) (c:Int) (d:Int→Int→Int→Option Bool) (e:Int) (f:T7):Option Bool :=
 d (w64 (a+e)) (w64 (b+(f.Messages.length:Int))) (w64 (c+1))
def z15_l4 (a:(List T7)) (b:Int) (c:Int) (d:Int) (e:Int→Int→Int→Option Bool) (f:Int) (g:T7):Nat→Int→Option Bool
 | 0,_=>none
 | h+1,i =>
 (idx a d).bind fun j =>
 bif (decide (i < (j.Messages.length:Int))) then ((idx a d).bind fun k =>
 (idx k.Messages i).bind fun l =>
 bif (decide ((l.Fields.length:Int) > 8)) then (some false)
 else (idx a d).bind fun m =>
 (idx m.Messages i).bind fun o =>
 bif (decide ((o.Where.length:Int) > 10)) then (some false)
 else (z15_l4 a b c d e f g h) (w64 (i+1)))
 else z15_k3 b c d e f g
def z15_l2 (N:Nat) (a:(List T7)):Nat→Int→Int→Int→Option Bool
 | 0,_,_,_=>none
 | b+1,c,d,e =>
 bif (decide (e < (a.length:Int))) then ((idx a e).bind fun f =>
 (z37 N f.Body).bind fun g =>
 (idx a e).bind fun h =>
 z15_l4 a c d e (z15_l2 N a b) g h N 0)
 else z15_k1 a c d
def z15 (N:Nat) (a:(List T7)):Option Bool :=
 z15_l2 N a N 0 0 0
def z38_k1 (a:(List T10)):Option (List T10) :=
 some a
def z38_k3 (a:(List T10)) (b:Int) (c:(List T10)→Int→Option (List T10)) (d:T5) (e:(List (List T10))):Option (List T10) :=
 (appL a ([(⟨d.Kind,d.From,d.To,d.Name,d.As,d.Ticks,e⟩:T10)]:List T10)).bind fun f =>
 c f (w64 (b+1))
def z38_l4 (rc:(List T5)→Option (List T10)) (a:(List T10)) (b:Int) (c:(List T10)→Int→Option (List T10)) (d:T5):Nat→(List (List T10))→Int→Option (List T10)
 | 0,_,_=>none
 | e+1,f,g =>
 bif (decide (g < (d.Blocks.length:Int))) then ((idx d.Blocks g).bind fun h =>
 (rc h).bind fun i =>
 (appL f ([i]:List (List T10))).bind fun j =>
 (z38_l4 rc a b c d e) j (w64 (g+1)))
 else z38_k3 a b c d f
def z38_l2 (N:Nat) (rc:(List T5)→Option (List T10)) (a:(List T5)):Nat→(List T10)→Int→Option (List T10)
 | 0,_,_=>none
 | b+1,c,d =>
 bif (decide (d < (a.length:Int))) then ((idx a d).bind fun e =>
 z38_l4 rc c d (z38_l2 N rc a b) e N ([]:List (List T10)) 0)
 else z38_k1 c
def z38_b (N:Nat) (rc:(List T5)→Option (List T10)) (a:(List T5)):Option (List T10) :=
 z38_l2 N rc a N ([]:List T10) 0
def z38_r:Nat→(List T5)→Option (List T10)
 | 0,_=>none
 | N+1,a0=>z38_b N (z38_r N) a0
def z38 (N:Nat) (a:(List T5)):Option (List T10):=z38_r N a
def z17_k1 (a:(List T12)):Option (List T12) :=
 some a
def z17_k3 (a:(List T12)) (b:Int) (c:(List T12)→Int→Option (List T12)) (d:T7) (e:(List T10)) (f:(List T11)):Option (List T12) :=
 (appL a ([(⟨d.Name,d.Roles,f,e⟩:T12)]:List T12)).bind fun g =>
 c g (w64 (b+1))
def z17_k5 (a:(List T11)) (b:Int) (c:(List T11)→Int→Option (List T12)) (d:T6) (e:(List T9)):Option (List T12) :=
 (appL a ([(⟨d.Name,d.Fields,e⟩:T11)]:List T11)).bind fun f =>
 c f (w64 (b+1))
def z17_l6 (a:(List T11)) (b:Int) (c:(List T11)→Int→Option (List T12)) (d:T6):Nat→(List T9)→Int→Option (List T12)
 | 0,_,_=>none
 | e+1,f,g =>
 bif (decide (g < (d.Where.length:Int))) then ((idx d.Where g).bind fun h =>
 (appL f ([(⟨h.Left,h.Op,h.Right⟩:T9)]:List T9)).bind fun i =>
 (z17_l6 a b c d e) i (w64 (g+1)))
 else z17_k5 a b c d f
def z17_l4 (N:Nat) (a:(List T12)) (b:Int) (c:(List T12)→Int→Option (List T12)) (d:T7) (e:(List T10)):Nat→(List T11)→Int→Option (List T12)
 | 0,_,_=>none
 | f+1,g,h =>
 bif (decide (h < (d.Messages.length:Int))) then ((idx d.Messages h).bind fun i =>
 z17_l6 g h (z17_l4 N a b c d e f) i N ([]:List T9) 0)
 else z17_k3 a b c d e g
def z17_l2 (N:Nat) (a:(List T7)):Nat→(List T12)→Int→Option (List T12)
 | 0,_,_=>none
 | b+1,c,d =>
 bif (decide (d < (a.length:Int))) then ((idx a d).bind fun e =>
 (z38 N e.Body).bind fun f =>
 z17_l4 N c d (z17_l2 N a b) e f N ([]:List T11) 0)
 else z17_k1 c
def z17 (N:Nat) (a:(List T7)):Option (List T12) :=
 z17_l2 N a N ([]:List T12) 0
def z18 (N:Nat) (a:(List T7)):Option (ByteArray × Int) :=
 (z19 N a).bind fun b =>
 bif (!b) then (some ((str []),1))
 else (z39 N a).bind fun c =>
 some (c,0)
def law10_SyntaxPrint (N:Nat) (a:(List T7)):Option Bool :=
 (z9 N).bind fun b =>
 bif (!b) then ((z9 N).bind fun c =>
 some c)
 else (z15 N a).bind fun d =>
 bif (!d) then ((z9 N).bind fun e =>
 some e)
 else (z17 N a).bind fun f =>
 (z16 N f).bind fun g =>
 (z18 N a).bind fun h =>
 bif (!(g.1.toList==h.1.toList)) then (some false)
 else bif (g.2 != h.2) then (some false)
 else (z17 N a).bind fun i =>
 (z14 N i).bind fun j =>
 (z19 N a).bind fun k =>
 bif (!(j==k)) then (some false)
 else (z10 N g.1).bind fun l =>
 bif (g.2 != 0) then (some true)
 else bif (l.2.2==0) then ((z13 N l.1).bind fun m =>
 (z12 N m a).bind fun o =>
 some o)
 else some false
end Gx
end
