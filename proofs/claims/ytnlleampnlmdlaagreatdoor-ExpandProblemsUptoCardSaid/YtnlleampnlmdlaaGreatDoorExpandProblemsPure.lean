/- What each function of the statement computes, as plain definitions. -/
import Derived.Test.YtnlleampnlmdlaaGreatDoorExpandProblemsCore3
set_option linter.all false
section
open Go Go.Kx
namespace Gx
def VL:Nat->Nat->List UInt8
 | 0,_=>[]
 | f+1,u=>bif Nat.blt u 10 then [UInt8.ofNat (48+u)] else VL f (u / 10)++[UInt8.ofNat (48+u % 10)]
def UF (n:Int):ByteArray:=⟨(bif decide (n < 0) then 45::VL 25 n.natAbs else VL 25 n.toNat).toArray⟩
def X9 (sep:List UInt8):List (List UInt8)->List UInt8
 | []=>[]
 | x::r=>x++(r.map (sep++·)).flatten
structure T1 where
  Zq:Int
  Lo:Int
  Hi:Int
structure T0 where
  Zt:ByteArray
  Zu:T1
structure Ys where
  Zq:Int
  Zv:ByteArray
  Field:ByteArray
  N:Int
structure YM where
  Zw:Ys
  Op:ByteArray
  Zx:Ys
structure ZS where
  Zt:ByteArray
  Zy:List T0
  Zz:List YM
structure ZJ where
  Zq:Int
  ZA:ByteArray
  To:List ByteArray
  Zt:ByteArray
  As:ByteArray
  ZB:Int
  ZC:(List (List ZJ))
structure ZL where
  Zt:ByteArray
  ZD:List ByteArray
  ZE:List ZS
  ZF:List ZJ
structure T4 where
  Zq:Int
  ZG:ByteArray
  Value:Int
  ZA:Int
structure T5 where
  s':ByteArray
  at':Int
structure Z4 where
  l':List T4
  n':Int
  end':Int
  at':Int
  err':Int
structure Yd where
  Builder:ByteArray
  depth':Int
structure T6 where
  ZH:ByteArray
  Zt:ByteArray
  ZI:Int
structure T7 where
  all':List ZL
  p':ZL
  calls':List ByteArray
  out':T6
structure T8 where
  name':ByteArray
  tail':Bool
  hidden':Bool
structure T2 where
  all':(List (ByteArray × ZL))
  done':(List (ByteArray × ZL))
structure T3 where
  roles':(List (ByteArray × ByteArray))
  head':ByteArray
structure T9 where
  Zw:Ys
  Op:ByteArray
  Zx:Ys
structure Yi where
  Zt:ByteArray
  Zy:List T0
  Zz:List T9
structure ZT where
  Zq:Int
  ZA:ByteArray
  To:List ByteArray
  Zt:ByteArray
  As:ByteArray
  ZB:Int
  ZC:(List (List ZT))
structure ZU where
  Zt:ByteArray
  ZD:List ByteArray
  ZE:List Yi
  ZF:List ZT
structure ZZ where
  l':List ZU
  p':ZU
  calls':List ByteArray
  first':T6
def G2 (N:Nat) (a:ByteArray) (b:Int):Option Int :=
 some (ZdP a b)
def GQ (N:Nat) (a:ByteArray) (b:Int):Option Int :=
 (G2 N a b).bind fun c =>
 some c
def Zfu (N:Nat) (a:Int):Option Bool :=
 bif decide (0<=a) then bif decide (a < 55296) then some true
 else bif decide (57343 < a) then bif decide (a<=1114111) then some true
 else some false
 else some false
 else bif decide (57343 < a) then bif decide (a<=1114111) then some true
 else some false
 else some false
def Zfj (a:Nat):Option Int :=
 some (-1)
def ZbF (a:ByteArray):Nat->Nat->Option Int
 | 0,_=>none
 | b+1,c =>
 bif decide (c < a.size) then bif ((Utf8.decode a c).1:Int)==65533 then some ((c:Nat):Int)
 else (ZbF a b) (c+(Utf8.decode a c).2)
 else Zfj c
def Zfk:Option Int :=
 some (-1)
def Zfl (a:Int) (b:Int):Option Int :=
 some (ZM (b-(ZM (((Utf8.encode a).size:Int)-1))))
def ZbG (a:ByteArray) (b:Int) (c:Int):Nat->Int->Option Int
 | 0,_=>none
 | d+1,e =>
 bif decide (e < ((Utf8.encode b).size:Int)) then (YX a (ZM (c-e))).bind fun f =>
 (YX (Utf8.encode b) (ZM ((ZM (((Utf8.encode b).size:Int)-1))-e))).bind fun g =>
 bif f != g then Zdz 0
 else (ZbG a b c d) (ZM (e+1))
 else Zfl b c
def ZbD (N:Nat) (a:ByteArray) (b:Int) (c:Int):Option Int :=
 ZbG a b c N 1
def Zfm (N:Nat) (a:ByteArray) (b:Int):Nat->Option Int
 | 0=>none
 | c+1 =>
 bif decide ((ZM (((Utf8.encode b).size:Int)-1)) < (a.size:Int)) then (YX a (ZM (((Utf8.encode b).size:Int)-1))).bind fun d =>
 (YX (Utf8.encode b) (ZM (((Utf8.encode b).size:Int)-1))).bind fun e =>
 bif d != e then (ssl a (some (ZM ((ZM (((Utf8.encode b).size:Int)-1))+1))) none).bind fun f =>
 (YX (Utf8.encode b) (ZM (((Utf8.encode b).size:Int)-1))).bind fun g =>
 (GQ N f g).bind fun h =>
 bif decide (h < 0) then some (-1)
 else ZbD N a b (ZM ((ZM (((Utf8.encode b).size:Int)-1))+(ZM (h+1))))
 else ZbD N a b (ZM (((Utf8.encode b).size:Int)-1))
 else Zfk
def ZbE (N:Nat) (a:ByteArray) (b:Int) (c:Bool):Option Int :=
 bif c then (GQ N a (wk .u8 (b))).bind fun d =>
 some d
 else bif b==65533 then ZbF a N (0:Nat)
 else (Zfu N b).bind fun e =>
 bif !e then some (-1)
 else Zfm N a b N
def Zfi (N:Nat) (a:ByteArray) (b:Int):Option Int :=
 bif decide (0<=b) then ZbE N a b (decide (b < 128))
 else ZbE N a b false
def Ze5 (N:Nat) (a:ByteArray) (b:Int):Option Bool :=
 (Zfi N a b).bind fun c =>
 some (decide (c>=0))
def Zfn (N:Nat) (a:ByteArray) (b:ByteArray):Option Bool :=
 bif decide ((a.size:Int)>=(b.size:Int)) then (ssl a none (some (b.size:Int))).bind fun c =>
 some (c.toList==b.toList)
 else some false
def Zbh (N:Nat) (a:ByteArray) (b:ByteArray):Option Bool :=
 (Zfn N a b).bind fun c =>
 some c
def ZfR (a:T5) (b:Int):Option T5 :=
 some (⟨a.s',b⟩:T5)
def Hu (N:Nat) (a:T5):Nat->Int->Option T5
 | 0,_=>none
 | b+1,c =>
 bif decide (c < (a.s'.size:Int)) then (ssl a.s' (some c) none).bind fun d =>
 (YX d 0).bind fun e =>
 (Ze5 N (str [32,9,10,13]) (wk .i32 (e))).bind fun f =>
 bif f then (Hu N a b) (ZM (c+1))
 else (Zbh N d (str [47,47])).bind fun g =>
 bif g then (GQ N d 10).bind fun h =>
 bif decide (h < 0) then (Hu N a b) (ZM (c+(ZM ((ZM ((d.size:Int)-1))+1))))
 else (Hu N a b) (ZM (c+(ZM (h+1))))
 else some (⟨a.s',c⟩:T5)
 else ZfR a c
def Mp (N:Nat) (a:T5):Option T5 :=
 Hu N a N a.at'
def Mq (N:Nat) (a:Int):Option Bool :=
 bif decide (97<=a) then bif decide (a<=122) then some true
 else bif decide (65<=a) then some (decide (a<=90))
 else some false
 else bif decide (65<=a) then some (decide (a<=90))
 else some false
def Hv (N:Nat) (a:Int):Option Bool :=
 bif decide (48<=a) then some (decide (a<=57))
 else some false
def Pz (N:Nat) (a:Int):Option Bool :=
 (Mq N a).bind fun b =>
 bif b then some true
 else (Hv N a).bind fun c =>
 bif c then some true
 else some (a==95)
def Zbi (a:T5) (b:Int):Option (ByteArray × T5) :=
 (ssl a.s' (some a.at') (some b)).bind fun c =>
 some (c,(⟨a.s',b⟩:T5))
def Zbj (N:Nat) (a:T5):Nat->Int->Option (ByteArray × T5)
 | 0,_=>none
 | b+1,c =>
 bif decide (c < (a.s'.size:Int)) then (YX a.s' c).bind fun d =>
 (Pz N d).bind fun e =>
 bif e then (Zbj N a b) (ZM (c+1))
 else Zbi a c
 else Zbi a c
def Ze9 (N:Nat) (a:T5):Option (ByteArray × T5) :=
 Zbj N a N a.at'
def z83 (N:Nat) (a:T5):Option (T4 × Int × T5) :=
 (Ze9 N a).bind fun b =>
 bif decide ((b.1.size:Int) > 16) then some ((⟨0,(str []),0,0⟩:T4),6,b.2)
 else some ((⟨1,b.1,0,0⟩:T4),0,b.2)
def Zbk (a:T5) (b:Int):Option (ByteArray × T5) :=
 (ssl a.s' (some a.at') (some b)).bind fun c =>
 some (c,(⟨a.s',b⟩:T5))
def Zbl (N:Nat) (a:T5):Nat->Int->Option (ByteArray × T5)
 | 0,_=>none
 | b+1,c =>
 bif decide (c < (a.s'.size:Int)) then (YX a.s' c).bind fun d =>
 (Hv N d).bind fun e =>
 bif e then (Zbl N a b) (ZM (c+1))
 else Zbk a c
 else Zbk a c
def Zfa (N:Nat) (a:T5):Option (ByteArray × T5) :=
 Zbl N a N a.at'
def ZfY (a:ByteArray × T5) (b:Int):Option (T4 × Int × T5) :=
 some ((⟨2,(str []),b,0⟩:T4),0,a.2)
def ZcQ (a:ByteArray × T5):Nat->Int->Int->Option (T4 × Int × T5)
 | 0,_,_=>none
 | b+1,c,d =>
 bif decide (d < (a.1.size:Int)) then (YX a.1 d).bind fun e =>
 (ZcQ a b) (ZM ((ZM (10 * c))+(ZM ((wk .u8 (e-48)))))) (ZM (d+1))
 else ZfY a c
def D4 (N:Nat) (a:ByteArray × T5) (b:Bool):Option (T4 × Int × T5) :=
 bif b then some ((⟨0,(str []),0,0⟩:T4),2,a.2)
 else ZcQ a N 0 0
def ZcP (N:Nat) (a:ByteArray × T5) (b:Bool):Option (T4 × Int × T5) :=
 bif b then some ((⟨0,(str []),0,0⟩:T4),3,a.2)
 else bif decide ((a.1.size:Int) > 6) then D4 N a true
 else bif decide ((a.1.size:Int) > 1) then (YX a.1 0).bind fun c =>
 D4 N a (c==48)
 else D4 N a false
def z85 (N:Nat) (a:T5):Option (T4 × Int × T5) :=
 (Zfa N a).bind fun b =>
 bif decide (b.2.at' < (b.2.s'.size:Int)) then (YX b.2.s' b.2.at').bind fun c =>
 (Pz N c).bind fun d =>
 ZcP N b d
 else ZcP N b false
def Zf0 (a:T5) (b:Int):Option (T4 × Int × T5) :=
 some ((⟨0,(str []),0,0⟩:T4),3,(⟨a.s',b⟩:T5))
def D5 (a:T5) (b:List Int) (c:Int->(List Int)->Option (T4 × Int × T5)) (d:Int) (e:Int):Option (T4 × Int × T5) :=
 bif decide (e < 32) then some ((⟨0,(str []),0,0⟩:T4),3,(⟨a.s',d⟩:T5))
 else bif decide (e > 126) then some ((⟨0,(str []),0,0⟩:T4),3,(⟨a.s',d⟩:T5))
 else (YG b ([e]:List Int)).bind fun f =>
 c (ZM (d+1)) f
def Mr (a:T5):Nat->Int->(List Int)->Option (T4 × Int × T5)
 | 0,_,_=>none
 | b+1,c,d =>
 bif decide (c < (a.s'.size:Int)) then (YX a.s' c).bind fun e =>
 bif e==34 then bif decide ((d.length:Int) > 40) then some ((⟨0,(str []),0,0⟩:T4),6,(⟨a.s',(ZM (c+1))⟩:T5))
 else some ((⟨3,(ZaE d),0,0⟩:T4),0,(⟨a.s',(ZM (c+1))⟩:T5))
 else bif e==92 then bif (ZM (c+1))==(a.s'.size:Int) then some ((⟨0,(str []),0,0⟩:T4),3,(⟨a.s',(ZM (c+1))⟩:T5))
 else (YX a.s' (ZM (c+1))).bind fun f =>
 bif f != 34 then (YX a.s' (ZM (c+1))).bind fun g =>
 bif g != 92 then some ((⟨0,(str []),0,0⟩:T4),3,(⟨a.s',(ZM (c+1))⟩:T5))
 else (YX a.s' (ZM (c+1))).bind fun h =>
 D5 a d (Mr a b) (ZM (c+1)) h
 else (YX a.s' (ZM (c+1))).bind fun i =>
 D5 a d (Mr a b) (ZM (c+1)) i
 else D5 a d (Mr a b) c e
 else Zf0 a c
def z86 (N:Nat) (a:T5):Option (T4 × Int × T5) :=
 Mr a N (ZM (a.at'+1)) ([]:List Int)
def ZbW (N:Nat) (a:ByteArray) (b:ByteArray):Option Int :=
 bif (b.size:Int)==0 then some 0
 else bif b.toList==a.toList then some 0
 else bif (b.size:Int)==1 then (YX b 0).bind fun c =>
 (G2 N a c).bind fun d =>
 some d
 else bif decide ((b.size:Int)>=(a.size:Int)) then some (-1)
 else Zdz 0
def PK (N:Nat) (a:ByteArray) (b:ByteArray):Option Int :=
 (ZbW N a b).bind fun c =>
 some c
def Ze7 (N:Nat) (a:ByteArray) (b:ByteArray):Option Bool :=
 (PK N a b).bind fun c =>
 some (decide (c>=0))
def ZfT (N:Nat) (a:T5):Option (T4 × Int × T5) :=
 (ssl a.s' (some a.at') (some (ZM (a.at'+1)))).bind fun b =>
 (Ze7 N (str [40,41,123,125,44,59,58,46,43,45,42,47,37,60,62,61,33]) b).bind fun c =>
 bif !c then some ((⟨0,(str []),0,0⟩:T4),3,a)
 else some ((⟨4,b,0,0⟩:T4),0,(⟨a.s',(ZM (a.at'+1))⟩:T5))
def ZcO (N:Nat) (a:T5):Nat->Int->Option (T4 × Int × T5)
 | 0,_=>none
 | b+1,c =>
 bif decide (c < 8) then (Z6 ([(str [45,62]),(str [46,46]),(str [60,61]),(str [62,61]),(str [61,61]),(str [33,61]),(str [38,38]),(str [124,124])]:List ByteArray) c).bind fun d =>
 (ssl a.s' (some a.at') none).bind fun e =>
 (Zbh N e d).bind fun f =>
 bif f then some ((⟨4,d,0,0⟩:T4),0,(⟨a.s',(ZM (a.at'+2))⟩:T5))
 else (ZcO N a b) (ZM (c+1))
 else ZfT N a
def z81 (N:Nat) (a:T5):Option (T4 × Int × T5) :=
 ZcO N a N 0
def ZfF (a:List T4):Option ((List T4) × Int × Int) :=
 some (a,0,0)
def PS (N:Nat) (a:ByteArray):Nat->(List T4)->ByteArray->Int->Option ((List T4) × Int × Int)
 | 0,_,_,_=>none
 | b+1,c,d,e =>
 bif decide (e < (a.size:Int)) then (YX a e).bind fun f =>
 (Mq N f).bind fun g =>
 bif g then (z83 N (⟨d,e⟩:T5)).bind fun h =>
 bif h.2.1 != 0 then some (([]:List T4),e,h.2.1)
 else (YG c ([(⟨h.1.Zq,h.1.ZG,h.1.Value,e⟩:T4)]:List T4)).bind fun i =>
 (Mp N h.2.2).bind fun j =>
 (PS N a b) i j.s' j.at'
 else (Hv N f).bind fun k =>
 bif k then (z85 N (⟨d,e⟩:T5)).bind fun l =>
 bif l.2.1 != 0 then some (([]:List T4),e,l.2.1)
 else (YG c ([(⟨l.1.Zq,l.1.ZG,l.1.Value,e⟩:T4)]:List T4)).bind fun m =>
 (Mp N l.2.2).bind fun o =>
 (PS N a b) m o.s' o.at'
 else bif f==34 then (z86 N (⟨d,e⟩:T5)).bind fun p =>
 bif p.2.1 != 0 then some (([]:List T4),e,p.2.1)
 else (YG c ([(⟨p.1.Zq,p.1.ZG,p.1.Value,e⟩:T4)]:List T4)).bind fun q =>
 (Mp N p.2.2).bind fun r =>
 (PS N a b) q r.s' r.at'
 else (z81 N (⟨d,e⟩:T5)).bind fun s =>
 bif s.2.1 != 0 then some (([]:List T4),e,s.2.1)
 else (YG c ([(⟨s.1.Zq,s.1.ZG,s.1.Value,e⟩:T4)]:List T4)).bind fun t =>
 (Mp N s.2.2).bind fun u =>
 (PS N a b) t u.s' u.at'
 else ZfF c
def z32 (N:Nat) (a:ByteArray):Option ((List T4) × Int × Int) :=
 bif decide ((a.size:Int) > 8000) then some (([]:List T4),8000,6)
 else (Mp N (⟨a,0⟩:T5)).bind fun b =>
 PS N a N ([]:List T4) b.s' b.at'
def S6 (N:Nat) (a:Z4):Option T4 :=
 bif a.err' != 0 then some (⟨0,(str []),0,0⟩:T4)
 else bif decide (a.n'>=(a.l'.length:Int)) then some (⟨0,(str []),0,0⟩:T4)
 else (Z6 a.l' a.n').bind fun b =>
 some b
def Zbm (N:Nat) (a:Z4) (b:ByteArray):Option Bool :=
 (S6 N a).bind fun c =>
 bif c.Zq==4 then some (c.ZG.toList==b.toList)
 else bif c.Zq==1 then some (c.ZG.toList==b.toList)
 else some false
def We (N:Nat) (a:Z4) (b:ByteArray):Option (Bool × Z4) :=
 (Zbm N a b).bind fun c =>
 bif !c then some (false,a)
 else some (true,(⟨a.l',(ZM (a.n'+1)),a.end',a.at',a.err'⟩:Z4))
def Sd (N:Nat) (a:Z4) (b:Int):Option Z4 :=
 bif a.err' != 0 then some a
 else bif decide (a.n' < (a.l'.length:Int)) then (Z6 a.l' a.n').bind fun c =>
 some (⟨a.l',a.n',a.end',c.ZA,b⟩:Z4)
 else some (⟨a.l',a.n',a.end',a.end',b⟩:Z4)
def Xy (N:Nat) (a:Z4) (b:ByteArray):Option Z4 :=
 (We N a b).bind fun c =>
 bif !c.1 then (Sd N c.2 3).bind fun d =>
 some d
 else some c.2
def ZcZ:Option Bool :=
 some true
def So (N:Nat) (a:ByteArray):Nat->Int->Option Bool
 | 0,_=>none
 | b+1,c =>
 bif decide (c < (a.size:Int)) then (YX a c).bind fun d =>
 (Pz N d).bind fun e =>
 bif !e then some false
 else (So N a b) (ZM (c+1))
 else ZcZ
def Rt (N:Nat) (a:ByteArray):Option Bool :=
 bif a.toList==(str []).toList then some false
 else bif decide ((a.size:Int) > 16) then some false
 else (YX a 0).bind fun b =>
 (Mq N b).bind fun c =>
 bif !c then some false
 else So N a N 0
def GF:Option Int :=
 some (-1)
def Sc (a:List ByteArray) (b:ByteArray):Nat->Int->Option Int
 | 0,_=>none
 | c+1,d =>
 bif decide (d < (a.length:Int)) then (Z6 a d).bind fun e =>
 bif b.toList==e.toList then some d
 else (Sc a b c) (ZM (d+1))
 else GF
def LC (N:Nat) (a:List ByteArray) (b:ByteArray):Option Int :=
 Sc a b N 0
def W7 (N:Nat) (a:List ByteArray) (b:ByteArray):Option Bool :=
 (LC N a b).bind fun c =>
 some (decide (c>=0))
def Wl (N:Nat) (a:ByteArray):Option Bool :=
 (Rt N a).bind fun b =>
 bif b then (W7 N ([(str [97,103,97,105,110]),(str [97,110,100]),(str [97,115]),(str [97,116]),(str [99,97,108,108]),(str [99,104,111,105,99,101]),(str [101,108,115,101]),(str [102,114,111,109]),(str [105,102]),(str [105,110,116]),(str [108,101,110]),(str [108,111,111,112]),(str [109,101,115,115,97,103,101]),(str [111,102]),(str [111,102,102,101,114]),(str [111,110]),(str [111,114]),(str [112,97,114]),(str [112,108,97,121,115]),(str [112,114,111,116,111,99,111,108]),(str [115,101,114,118,105,99,101]),(str [116,101,120,116]),(str [116,105,109,101,115]),(str [116,111]),(str [118,97,114]),(str [119,104,101,114,101]),(str [119,104,105,108,101]),(str [119,105,116,104,105,110])]:List ByteArray) a).bind fun c =>
 some (!c)
 else some false
def UV (N:Nat) (a:Z4):Option (ByteArray × Z4) :=
 (S6 N a).bind fun b =>
 bif b.Zq != 1 then (Sd N a 3).bind fun c =>
 some ((str []),c)
 else (Wl N b.ZG).bind fun d =>
 bif !d then (Sd N a 3).bind fun e =>
 some ((str []),e)
 else some (b.ZG,(⟨a.l',(ZM (a.n'+1)),a.end',a.at',a.err'⟩:Z4))
def Zf2 (a:List T4) (b:Int) (c:Int) (d:Int) (e:Int) (f:List ByteArray):Option ((List ByteArray) × Z4) :=
 some (f,(⟨a,b,c,d,e⟩:Z4))
def ZcR (N:Nat):Nat->(List T4)->Int->Int->Int->Int->(List ByteArray)->Option ((List ByteArray) × Z4)
 | 0,_,_,_,_,_,_=>none
 | a+1,b,c,d,e,f,g =>
 (We N (⟨b,c,d,e,f⟩:Z4) (str [44])).bind fun h =>
 bif h.1 then (UV N h.2).bind fun i =>
 (YG g ([i.1]:List ByteArray)).bind fun j =>
 (ZcR N a) i.2.l' i.2.n' i.2.end' i.2.at' i.2.err' j
 else Zf2 h.2.l' h.2.n' h.2.end' h.2.at' h.2.err' g
def D6 (N:Nat) (a:Z4):Option ((List ByteArray) × Z4) :=
 (UV N a).bind fun b =>
 ZcR N N b.2.l' b.2.n' b.2.end' b.2.at' b.2.err' ([b.1]:List ByteArray)
def Zfc (a:List T4) (b:Int) (c:Int) (d:Int) (e:Int) (f:ByteArray):Option (ByteArray × Z4) :=
 some (f,(⟨a,b,c,d,e⟩:Z4))
def Zbn (N:Nat):Nat->(List T4)->Int->Int->Int->Int->ByteArray->Option (ByteArray × Z4)
 | 0,_,_,_,_,_,_=>none
 | a+1,b,c,d,e,f,g =>
 (We N (⟨b,c,d,e,f⟩:Z4) (str [46])).bind fun h =>
 bif h.1 then (UV N h.2).bind fun i =>
 (Yg (str [46]) i.1).bind fun j =>
 (Yg g j).bind fun k =>
 (Zbn N a) i.2.l' i.2.n' i.2.end' i.2.at' i.2.err' k
 else Zfc h.2.l' h.2.n' h.2.end' h.2.at' h.2.err' g
def Qf (N:Nat) (a:Z4):Option (ByteArray × Z4) :=
 (UV N a).bind fun b =>
 Zbn N N b.2.l' b.2.n' b.2.end' b.2.at' b.2.err' b.1
def z183 (N:Nat) (a:Z4):Option (Int × Z4) :=
 (S6 N a).bind fun b =>
 bif b.Zq != 2 then (Sd N a 3).bind fun c =>
 some (0,c)
 else some (b.Value,(⟨a.l',(ZM (a.n'+1)),a.end',a.at',a.err'⟩:Z4))
def z182 (N:Nat) (a:Z4):Option (Int × Z4) :=
 (We N a (str [45])).bind fun b =>
 bif b.1 then (z183 N b.2).bind fun c =>
 some ((ZM (0-c.1)),c.2)
 else (z183 N b.2).bind fun d =>
 some (d.1,d.2)
def z146 (N:Nat) (a:Z4):Option (T0 × Z4) :=
 (UV N a).bind fun b =>
 (Xy N b.2 (str [58])).bind fun c =>
 (We N c (str [105,110,116])).bind fun d =>
 bif !d.1 then (Xy N d.2 (str [116,101,120,116])).bind fun e =>
 (z183 N e).bind fun f =>
 (Xy N f.2 (str [46,46])).bind fun g =>
 (z183 N g).bind fun h =>
 some ((⟨b.1,(⟨2,f.1,h.1⟩:T1)⟩:T0),h.2)
 else (z182 N d.2).bind fun i =>
 (Xy N i.2 (str [46,46])).bind fun j =>
 (z182 N j).bind fun k =>
 some ((⟨b.1,(⟨1,i.1,k.1⟩:T1)⟩:T0),k.2)
def ZfA:Option Int :=
 some (-1)
def Zb3 (a:ByteArray) (b:Int):Nat->Int->Option Int
 | 0,_=>none
 | c+1,d =>
 bif decide (d>=0) then (YX a d).bind fun e =>
 bif e==b then some d
 else (Zb3 a b c) (ZM (d-1))
 else ZfA
def z222 (N:Nat) (a:ByteArray) (b:Int):Option Int :=
 Zb3 a b N (ZM ((a.size:Int)-1))
def Zfv (N:Nat) (a:ByteArray) (b:Int):Option Int :=
 (z222 N a b).bind fun c =>
 some c
def ZbJ (N:Nat) (a:List T4) (b:Int) (c:Int) (d:Int) (e:Int) (f:Int) (g:ByteArray) (h:ByteArray):Option (Ys × Z4) :=
 (We N (⟨a,b,c,d,e⟩:Z4) (str [43])).bind fun i =>
 bif i.1 then (z183 N i.2).bind fun j =>
 some ((⟨f,g,h,j.1⟩:Ys),j.2)
 else (We N i.2 (str [45])).bind fun k =>
 bif k.1 then (z183 N k.2).bind fun l =>
 some ((⟨f,g,h,(ZM (0-l.1))⟩:Ys),l.2)
 else some ((⟨f,g,h,0⟩:Ys),k.2)
def ZbK (N:Nat) (a:List T4) (b:Int) (c:Int) (d:Int) (e:Int) (f:Int) (g:ByteArray):Option (Ys × Z4) :=
 (Zfv N g 46).bind fun h =>
 bif decide (h>=0) then (ssl g none (some h)).bind fun i =>
 (ssl g (some (ZM (h+1))) none).bind fun j =>
 ZbJ N a b c d e f i j
 else ZbJ N a b c d e f (str []) g
def LU (N:Nat) (a:Z4):Option (Ys × Z4) :=
 (Zbm N a (str [45])).bind fun b =>
 bif b then (z182 N a).bind fun c =>
 some ((⟨1,(str []),(str []),c.1⟩:Ys),c.2)
 else (S6 N a).bind fun d =>
 bif d.Zq==2 then (z182 N a).bind fun e =>
 some ((⟨1,(str []),(str []),e.1⟩:Ys),e.2)
 else (We N a (str [108,101,110])).bind fun f =>
 bif f.1 then (Xy N f.2 (str [40])).bind fun g =>
 (Qf N g).bind fun h =>
 (Xy N h.2 (str [41])).bind fun i =>
 ZbK N i.l' i.n' i.end' i.at' i.err' 3 h.1
 else (Qf N f.2).bind fun j =>
 ZbK N j.2.l' j.2.n' j.2.end' j.2.at' j.2.err' 2 j.1
def Ln (N:Nat):Option (List ByteArray) :=
 some ([(str [60]),(str [60,61]),(str [61,61]),(str [62,61]),(str [62])]:List ByteArray)
def Zbo (N:Nat) (a:Z4):Option (YM × Z4) :=
 (LU N a).bind fun b =>
 (S6 N b.2).bind fun c =>
 bif c.Zq==4 then (Ln N).bind fun d =>
 (W7 N d c.ZG).bind fun e =>
 bif e then (LU N (⟨b.2.l',(ZM (b.2.n'+1)),b.2.end',b.2.at',b.2.err'⟩:Z4)).bind fun f =>
 some ((⟨b.1,c.ZG,f.1⟩:YM),f.2)
 else (Sd N b.2 3).bind fun g =>
 (LU N g).bind fun h =>
 some ((⟨b.1,(str []),h.1⟩:YM),h.2)
 else (Sd N b.2 3).bind fun i =>
 (LU N i).bind fun j =>
 some ((⟨b.1,(str []),j.1⟩:YM),j.2)
def Zf4 (N:Nat) (a:ByteArray × Z4) (b:List T0) (c:List T4) (d:Int) (e:Int) (f:Int) (g:Int) (h:List YM):Option (ZS × Z4) :=
 (Xy N (⟨c,d,e,f,g⟩:Z4) (str [59])).bind fun i =>
 some ((⟨a.1,b,h⟩:ZS),i)
def ZcT (N:Nat) (a:ByteArray × Z4) (b:List T0):Nat->(List T4)->Int->Int->Int->Int->(List YM)->Option (ZS × Z4)
 | 0,_,_,_,_,_,_=>none
 | c+1,d,e,f,g,h,i =>
 (We N (⟨d,e,f,g,h⟩:Z4) (str [97,110,100])).bind fun j =>
 bif j.1 then (Zbo N j.2).bind fun k =>
 (YG i ([k.1]:List YM)).bind fun l =>
 (ZcT N a b c) k.2.l' k.2.n' k.2.end' k.2.at' k.2.err' l
 else Zf4 N a b j.2.l' j.2.n' j.2.end' j.2.at' j.2.err' i
def ZcS (N:Nat) (a:ByteArray × Z4) (b:List T4) (c:Int) (d:Int) (e:Int) (f:Int) (g:List T0):Option (ZS × Z4) :=
 (We N (⟨b,c,d,e,f⟩:Z4) (str [119,104,101,114,101])).bind fun h =>
 bif h.1 then (Zbo N h.2).bind fun i =>
 (YG ([]:List YM) ([i.1]:List YM)).bind fun j =>
 ZcT N a g N i.2.l' i.2.n' i.2.end' i.2.at' i.2.err' j
 else (Xy N h.2 (str [59])).bind fun k =>
 some ((⟨a.1,g,([]:List YM)⟩:ZS),k)
def Zf5 (N:Nat) (a:ByteArray × Z4) (b:List T4) (c:Int) (d:Int) (e:Int) (f:Int) (g:List T0):Option (ZS × Z4) :=
 (Xy N (⟨b,c,d,e,f⟩:Z4) (str [41])).bind fun h =>
 ZcS N a h.l' h.n' h.end' h.at' h.err' g
def ZcU (N:Nat) (a:ByteArray × Z4):Nat->(List T4)->Int->Int->Int->Int->(List T0)->Option (ZS × Z4)
 | 0,_,_,_,_,_,_=>none
 | b+1,c,d,e,f,g,h =>
 (We N (⟨c,d,e,f,g⟩:Z4) (str [44])).bind fun i =>
 bif i.1 then (z146 N i.2).bind fun j =>
 (YG h ([j.1]:List T0)).bind fun k =>
 (ZcU N a b) j.2.l' j.2.n' j.2.end' j.2.at' j.2.err' k
 else Zf5 N a i.2.l' i.2.n' i.2.end' i.2.at' i.2.err' h
def z91 (N:Nat) (a:Z4):Option (ZS × Z4) :=
 (Qf N a).bind fun b =>
 (Xy N b.2 (str [40])).bind fun c =>
 (We N c (str [41])).bind fun d =>
 bif !d.1 then (z146 N d.2).bind fun e =>
 (YG ([]:List T0) ([e.1]:List T0)).bind fun f =>
 ZcU N b N e.2.l' e.2.n' e.2.end' e.2.at' e.2.err' f
 else ZcS N b d.2.l' d.2.n' d.2.end' d.2.at' d.2.err' ([]:List T0)
def Rb (N:Nat) (rc:Z4->Option ((List ZJ) × Z4)) (a:Z4):Option ((List ZJ) × Z4) :=
 (Xy N a (str [123])).bind fun b =>
 (rc b).bind fun c =>
 (Xy N c.2 (str [125])).bind fun d =>
 some (c.1,d)
def Zfq (N:Nat) (rc:Z4->Option ((List ZJ) × Z4)) (a:ByteArray × Z4) (b:Int) (c:List T4) (d:Int) (e:Int) (f:Int) (g:Int) (h:(List (List ZJ))):Option (ZJ × Z4) :=
 bif decide (b > 0) then (Xy N (⟨c,d,e,f,g⟩:Z4) (str [101,108,115,101])).bind fun i =>
 (Rb N rc i).bind fun j =>
 (YG h ([j.1]:List (List ZJ))).bind fun k =>
 some ((⟨2,a.1,([]:List ByteArray),(str []),(str []),b,k⟩:ZJ),j.2)
 else some ((⟨2,a.1,([]:List ByteArray),(str []),(str []),b,h⟩:ZJ),(⟨c,d,e,f,g⟩:Z4))
def ZbL (N:Nat) (rc:Z4->Option ((List ZJ) × Z4)) (a:ByteArray × Z4) (b:Int):Nat->(List T4)->Int->Int->Int->Int->(List (List ZJ))->Option (ZJ × Z4)
 | 0,_,_,_,_,_,_=>none
 | c+1,d,e,f,g,h,i =>
 (We N (⟨d,e,f,g,h⟩:Z4) (str [111,114])).bind fun j =>
 bif j.1 then (Rb N rc j.2).bind fun k =>
 (YG i ([k.1]:List (List ZJ))).bind fun l =>
 (ZbL N rc a b c) k.2.l' k.2.n' k.2.end' k.2.at' k.2.err' l
 else Zfq N rc a b j.2.l' j.2.n' j.2.end' j.2.at' j.2.err' i
def PL (N:Nat) (rc:Z4->Option ((List ZJ) × Z4)) (a:ByteArray × Z4) (b:List T4) (c:Int) (d:Int) (e:Int) (f:Int) (g:Int):Option (ZJ × Z4) :=
 (Rb N rc (⟨b,c,d,e,f⟩:Z4)).bind fun h =>
 ZbL N rc a g N h.2.l' h.2.n' h.2.end' h.2.at' h.2.err' ([h.1]:List (List ZJ))
def Zfp (N:Nat) (rc:Z4->Option ((List ZJ) × Z4)) (a:Z4):Option (ZJ × Z4) :=
 (Xy N a (str [97,116])).bind fun b =>
 (UV N b).bind fun c =>
 (We N c.2 (str [119,105,116,104,105,110])).bind fun d =>
 bif d.1 then (S6 N d.2).bind fun e =>
 bif e.Zq==2 then bif decide (e.Value < 1) then (Sd N d.2 2).bind fun f =>
 (z183 N f).bind fun g =>
 PL N rc c g.2.l' g.2.n' g.2.end' g.2.at' g.2.err' g.1
 else bif decide (e.Value > 1000) then (Sd N d.2 2).bind fun h =>
 (z183 N h).bind fun i =>
 PL N rc c i.2.l' i.2.n' i.2.end' i.2.at' i.2.err' i.1
 else (z183 N d.2).bind fun j =>
 PL N rc c j.2.l' j.2.n' j.2.end' j.2.at' j.2.err' j.1
 else (z183 N d.2).bind fun k =>
 PL N rc c k.2.l' k.2.n' k.2.end' k.2.at' k.2.err' k.1
 else PL N rc c d.2.l' d.2.n' d.2.end' d.2.at' d.2.err' 0
def Zfd (a:List T4) (b:Int) (c:Int) (d:Int) (e:Int) (f:(List (List ZJ))):Option (ZJ × Z4) :=
 some ((⟨5,(str []),([]:List ByteArray),(str []),(str []),0,f⟩:ZJ),(⟨a,b,c,d,e⟩:Z4))
def Zbp (N:Nat) (rc:Z4->Option ((List ZJ) × Z4)):Nat->(List T4)->Int->Int->Int->Int->(List (List ZJ))->Option (ZJ × Z4)
 | 0,_,_,_,_,_,_=>none
 | a+1,b,c,d,e,f,g =>
 (We N (⟨b,c,d,e,f⟩:Z4) (str [97,110,100])).bind fun h =>
 bif h.1 then (Rb N rc h.2).bind fun i =>
 (YG g ([i.1]:List (List ZJ))).bind fun j =>
 (Zbp N rc a) i.2.l' i.2.n' i.2.end' i.2.at' i.2.err' j
 else Zfd h.2.l' h.2.n' h.2.end' h.2.at' h.2.err' g
def z148 (N:Nat) (rc:Z4->Option ((List ZJ) × Z4)) (a:Z4):Option (ZJ × Z4) :=
 (We N a (str [99,104,111,105,99,101])).bind fun b =>
 bif b.1 then (Zfp N rc b.2).bind fun c =>
 some (c.1,c.2)
 else (We N b.2 (str [108,111,111,112])).bind fun d =>
 bif d.1 then (Qf N d.2).bind fun e =>
 (Rb N rc e.2).bind fun f =>
 some ((⟨3,(str []),([]:List ByteArray),e.1,(str []),0,([f.1]:List (List ZJ))⟩:ZJ),f.2)
 else (We N d.2 (str [97,103,97,105,110])).bind fun g =>
 bif g.1 then (Qf N g.2).bind fun h =>
 (Xy N h.2 (str [59])).bind fun i =>
 some ((⟨4,(str []),([]:List ByteArray),h.1,(str []),0,([]:List (List ZJ))⟩:ZJ),i)
 else (We N g.2 (str [112,97,114])).bind fun j =>
 bif j.1 then (Rb N rc j.2).bind fun k =>
 (Xy N k.2 (str [97,110,100])).bind fun l =>
 (Rb N rc l).bind fun m =>
 (YG ([k.1]:List (List ZJ)) ([m.1]:List (List ZJ))).bind fun o =>
 Zbp N rc N m.2.l' m.2.n' m.2.end' m.2.at' m.2.err' o
 else (We N j.2 (str [99,97,108,108])).bind fun p =>
 bif p.1 then (UV N p.2).bind fun q =>
 (Xy N q.2 (str [40])).bind fun r =>
 (D6 N r).bind fun s =>
 (Xy N s.2 (str [41])).bind fun t =>
 (Xy N t (str [97,115])).bind fun u =>
 (UV N u).bind fun v =>
 (Xy N v.2 (str [59])).bind fun w =>
 some ((⟨6,(str []),s.1,q.1,v.1,0,([]:List (List ZJ))⟩:ZJ),w)
 else (UV N p.2).bind fun x =>
 (Xy N x.2 (str [45,62])).bind fun y =>
 (D6 N y).bind fun z =>
 (Xy N z.2 (str [58])).bind fun A =>
 (Qf N A).bind fun B =>
 (Xy N B.2 (str [59])).bind fun C =>
 some ((⟨1,x.1,z.1,B.1,(str []),0,([]:List (List ZJ))⟩:ZJ),C)
def D7 (N:Nat) (rc:Z4->Option ((List ZJ) × Z4)):Nat->(List T4)->Int->Int->Int->Int->(List ZJ)->Option ((List ZJ) × Z4)
 | 0,_,_,_,_,_,_=>none
 | a+1,b,c,d,e,f,g =>
 (S6 N (⟨b,c,d,e,f⟩:Z4)).bind fun h =>
 bif h.Zq != 1 then some (g,(⟨b,c,d,e,f⟩:Z4))
 else (Wl N h.ZG).bind fun i =>
 bif !i then (W7 N ([(str [99,104,111,105,99,101]),(str [108,111,111,112]),(str [97,103,97,105,110]),(str [112,97,114]),(str [99,97,108,108])]:List ByteArray) h.ZG).bind fun j =>
 bif !j then some (g,(⟨b,c,d,e,f⟩:Z4))
 else (z148 N rc (⟨b,c,d,e,f⟩:Z4)).bind fun k =>
 (YG g ([k.1]:List ZJ)).bind fun l =>
 (D7 N rc a) k.2.l' k.2.n' k.2.end' k.2.at' k.2.err' l
 else (z148 N rc (⟨b,c,d,e,f⟩:Z4)).bind fun m =>
 (YG g ([m.1]:List ZJ)).bind fun o =>
 (D7 N rc a) m.2.l' m.2.n' m.2.end' m.2.at' m.2.err' o
def Zf6 (N:Nat) (rc:Z4->Option ((List ZJ) × Z4)) (a:Z4):Option ((List ZJ) × Z4) :=
 D7 N rc N a.l' a.n' a.end' a.at' a.err' ([]:List ZJ)
def ZcV:Nat->Z4->Option ((List ZJ) × Z4)
 | 0,_=>none
 | N+1,a0=>Zf6 N (ZcV N) a0
def z92 (N:Nat) (a:Z4):Option ((List ZJ) × Z4):=ZcV N a
def ZfH (N:Nat) (a:ByteArray × Z4) (b:List ByteArray × Z4) (c:List T4) (d:Int) (e:Int) (f:Int) (g:Int) (h:List ZS):Option (ZL × Z4) :=
 (z92 N (⟨c,d,e,f,g⟩:Z4)).bind fun i =>
 (Xy N i.2 (str [125])).bind fun j =>
 some ((⟨a.1,b.1,h,i.1⟩:ZL),j)
def Zca (N:Nat) (a:ByteArray × Z4) (b:List ByteArray × Z4):Nat->(List T4)->Int->Int->Int->Int->(List ZS)->Option (ZL × Z4)
 | 0,_,_,_,_,_,_=>none
 | c+1,d,e,f,g,h,i =>
 (We N (⟨d,e,f,g,h⟩:Z4) (str [109,101,115,115,97,103,101])).bind fun j =>
 bif j.1 then (z91 N j.2).bind fun k =>
 (YG i ([k.1]:List ZS)).bind fun l =>
 (Zca N a b c) k.2.l' k.2.n' k.2.end' k.2.at' k.2.err' l
 else ZfH N a b j.2.l' j.2.n' j.2.end' j.2.at' j.2.err' i
def z33 (N:Nat) (a:Z4):Option (ZL × Z4) :=
 (Xy N a (str [112,114,111,116,111,99,111,108])).bind fun b =>
 (UV N b).bind fun c =>
 (Xy N c.2 (str [40])).bind fun d =>
 (D6 N d).bind fun e =>
 (Xy N e.2 (str [41])).bind fun f =>
 (Xy N f (str [123])).bind fun g =>
 Zca N c e N g.l' g.n' g.end' g.at' g.err' ([]:List ZS)
def z99 (N:Nat) (a:ByteArray):Option Bool :=
 (Wl N a).bind fun b =>
 some (!b)
def Zbd:Option Int :=
 some (-1)
def Pv (N:Nat) (a:List ByteArray):Nat->Int->Option Int
 | 0,_=>none
 | b+1,c =>
 bif decide (c < (a.length:Int)) then (Z6 a c).bind fun d =>
 (z99 N d).bind fun e =>
 bif e then some c
 else (Pv N a b) (ZM (c+1))
 else Zbd
def Zbc (N:Nat) (a:List ByteArray):Option Int :=
 Pv N a N 0
def Zc0 (N:Nat) (a:List ByteArray):Option Bool :=
 (Zbc N a).bind fun b =>
 some (decide (b>=0))
def P2 (N:Nat) (a:List ByteArray) (b:Int):Option Bool :=
 bif decide ((a.length:Int)>=1) then bif decide ((a.length:Int)<=b) then (Zc0 N a).bind fun c =>
 some (!c)
 else some false
 else some false
def ZfB (a:Int) (b:Nat):Option Int :=
 some a
def Zb5 (a:ByteArray):Nat->Int->Nat->Option Int
 | 0,_,_=>none
 | b+1,c,d =>
 bif decide (d < a.size) then (Zb5 a b) (ZM (c+1)) (d+(Utf8.decode a d).2)
 else ZfB c d
def Zb4 (N:Nat) (a:ByteArray):Option Int :=
 Zb5 a N 0 (0:Nat)
def z232 (N:Nat) (a:ByteArray):Option (Int × Int) :=
 bif decide ((a.size:Int) < 1) then some (65533,0)
 else (YX a 0).bind fun b =>
 Zdz 0
def ZfC (N:Nat) (a:ByteArray):Option (Int × Int) :=
 bif !(a.toList==(str []).toList) then (YX a 0).bind fun b =>
 bif decide (b < 128) then (YX a 0).bind fun c =>
 some ((wk .i32 (c)),1)
 else (z232 N a).bind fun d =>
 some (d.1,d.2)
 else (z232 N a).bind fun e =>
 some (e.1,e.2)
def Zfx (a:Int) (b:ByteArray) (c:List ByteArray):Option (List ByteArray) :=
 bif decide (a > 0) then (Z6 c (ZM (a-1))).bind fun d =>
 some (XK c (ZM (a-1)) b)
 else some c
def Zb1 (N:Nat) (a:Int):Nat->ByteArray->(List ByteArray)->Int->Option (List ByteArray)
 | 0,_,_,_=>none
 | b+1,c,d,e =>
 bif decide (e < (ZM (a-1))) then (ZfC N c).bind fun f =>
 (ssl c none (some f.2)).bind fun g =>
 (Z6 d e).bind fun h =>
 (ssl c (some f.2) none).bind fun i =>
 (Zb1 N a b) i (XK d e g) (ZM (e+1))
 else Zfx a c d
def ZbZ (N:Nat) (a:ByteArray) (b:Int):Option (List ByteArray) :=
 (Q0 (str []) b b).bind fun c =>
 Zb1 N b N a c 0
def Zb0 (N:Nat) (a:ByteArray) (b:Int) (c:Int) (d:Bool):Option (List ByteArray) :=
 bif d then ZbZ N a c
 else ZbZ N a b
def Zfw (N:Nat) (a:ByteArray) (b:Int):Option (List ByteArray) :=
 (Zb4 N a).bind fun c =>
 bif decide (b < 0) then Zb0 N a b c true
 else Zb0 N a b c (decide (b > c))
def Zb2 (N:Nat) (a:ByteArray):Nat->ByteArray->Int->Option Int
 | 0,_,_=>none
 | b+1,c,d =>
 (PK N c a).bind fun e =>
 bif e==(-1) then some d
 else (ssl c (some (ZM (e+(a.size:Int)))) none).bind fun f =>
 (Zb2 N a b) f (ZM (d+1))
def z212 (N:Nat) (a:ByteArray) (b:ByteArray):Option Int :=
 bif (b.size:Int)==0 then (Zb4 N a).bind fun c =>
 some (ZM (c+1))
 else bif (b.size:Int)==1 then (YX b 0).bind fun d =>
 some (BF a d)
 else Zb2 N b N a 0
def LV (a:ByteArray) (b:List ByteArray) (c:Int):Option (List ByteArray) :=
 (Z6 b c).bind fun d =>
 (lsl (XK b c a) none (some (ZM (c+1)))).bind fun e =>
 some e
def Ql (N:Nat) (a:ByteArray) (b:ByteArray) (c:Int) (d:Int):Nat->ByteArray->(List ByteArray)->Int->Option (List ByteArray)
 | 0,_,_,_=>none
 | e+1,f,g,h =>
 bif decide (h < (ZM ((W0 d (ZM ((a.size:Int)+1)))-1))) then (PK N f b).bind fun i =>
 bif decide (i < 0) then LV f g h
 else (ssl f none (some (ZM (i+c)))).bind fun j =>
 (Z6 g h).bind fun k =>
 (ssl f (some (ZM (i+(b.size:Int)))) none).bind fun l =>
 (Ql N a b c d e) l (XK g h j) (ZM (h+1))
 else LV f g h
def G3 (N:Nat) (a:ByteArray) (b:ByteArray) (c:Int) (d:Int):Option (List ByteArray) :=
 (Q0 (str []) (W0 d (ZM ((a.size:Int)+1))) (W0 d (ZM ((a.size:Int)+1)))).bind fun e =>
 Ql N a b c d N a e 0
def ZbM (N:Nat) (a:ByteArray) (b:ByteArray) (c:Int) (d:Int):Option (List ByteArray) :=
 bif d==0 then some ([]:List ByteArray)
 else bif b.toList==(str []).toList then (Zfw N a d).bind fun e =>
 some e
 else bif decide (d < 0) then (z212 N a b).bind fun f =>
 G3 N a b c (ZM (f+1))
 else G3 N a b c d
def GR (N:Nat) (a:ByteArray) (b:ByteArray):Option (List ByteArray) :=
 (ZbM N a b 0 (-1)).bind fun c =>
 some c
def Zbq (N:Nat) (a:ByteArray):Option Bool :=
 (Wl N a).bind fun b =>
 some (!b)
def Zbg:Option Int :=
 some (-1)
def Py (N:Nat) (a:List ByteArray):Nat->Int->Option Int
 | 0,_=>none
 | b+1,c =>
 bif decide (c < (a.length:Int)) then (Z6 a c).bind fun d =>
 (Zbq N d).bind fun e =>
 bif e then some c
 else (Py N a b) (ZM (c+1))
 else Zbg
def Zbe (N:Nat) (a:List ByteArray):Option Int :=
 Py N a N 0
def Zc1 (N:Nat) (a:List ByteArray):Option Bool :=
 (Zbe N a).bind fun b =>
 some (decide (b>=0))
def SX (N:Nat) (a:ByteArray):Option Bool :=
 bif decide ((a.size:Int)<=50) then (GR N a (str [46])).bind fun b =>
 (Zc1 N b).bind fun c =>
 some (!c)
 else some false
def Pb (N:Nat) (a:ZJ) (b:Bool):Option Bool :=
 bif b then bif a.ZA.toList==(str []).toList then bif (a.To.length:Int)==0 then (SX N a.Zt).bind fun c =>
 bif c then bif a.As.toList==(str []).toList then bif a.ZB==0 then bif (a.Zq==3)==((a.ZC.length:Int)==1) then some (decide ((a.ZC.length:Int)<=1))
 else some false
 else some false
 else some false
 else some false
 else some false
 else some false
 else bif a.Zq==5 then bif a.ZA.toList==(str []).toList then bif (a.To.length:Int)==0 then bif a.Zt.toList==(str []).toList then bif a.As.toList==(str []).toList then bif a.ZB==0 then bif decide ((a.ZC.length:Int)>=2) then some (decide ((a.ZC.length:Int)<=8))
 else some false
 else some false
 else some false
 else some false
 else some false
 else some false
 else bif a.Zq==6 then bif a.ZA.toList==(str []).toList then (P2 N a.To 6).bind fun d =>
 bif d then (Wl N a.Zt).bind fun e =>
 bif e then (Wl N a.As).bind fun f =>
 bif f then bif a.ZB==0 then some ((a.ZC.length:Int)==0)
 else some false
 else some false
 else some false
 else some false
 else some false
 else some false
def Gg (N:Nat) (a:ZJ):Option Bool :=
 bif a.Zq==1 then (Wl N a.ZA).bind fun b =>
 bif b then (P2 N a.To 5).bind fun c =>
 bif c then (SX N a.Zt).bind fun d =>
 bif d then bif a.As.toList==(str []).toList then bif a.ZB==0 then some ((a.ZC.length:Int)==0)
 else some false
 else some false
 else some false
 else some false
 else some false
 else bif a.Zq==2 then (Wl N a.ZA).bind fun e =>
 bif e then bif (a.To.length:Int)==0 then bif a.Zt.toList==(str []).toList then bif a.As.toList==(str []).toList then bif decide (a.ZB>=0) then bif decide (a.ZB<=1000) then bif decide ((a.ZC.length:Int)>=(ZM (1+(W0 a.ZB 1)))) then some (decide ((a.ZC.length:Int)<=8))
 else some false
 else some false
 else some false
 else some false
 else some false
 else some false
 else some false
 else bif a.Zq==3 then Pb N a true
 else Pb N a (a.Zq==4)
def Zck (a:Int):Option (Bool × Int) :=
 some (true,a)
def Zcl (a:Int) (b:Int->Int->Option (Bool × Int)) (c:Int):Option (Bool × Int) :=
 b c (ZM (a+1))
def P3 (rc:List ZJ->Int->Int->Option (Bool × Int)) (a:Int) (b:Int) (c:Int->Int->Option (Bool × Int)) (d:ZJ):Nat->Int->Int->Option (Bool × Int)
 | 0,_,_=>none
 | e+1,f,g =>
 bif decide (g < (d.ZC.length:Int)) then (Z6 d.ZC g).bind fun h =>
 (rc h (ZM (a+1)) f).bind fun i =>
 bif !i.1 then some (false,i.2)
 else (P3 rc a b c d e) i.2 (ZM (g+1))
 else Zcl b c f
def Rl (N:Nat) (rc:List ZJ->Int->Int->Option (Bool × Int)) (a:List ZJ) (b:Int):Nat->Int->Int->Option (Bool × Int)
 | 0,_,_=>none
 | c+1,d,e =>
 bif decide (e < (a.length:Int)) then (Z6 a e).bind fun f =>
 bif decide (b > 10) then some (false,(ZM (d+1)))
 else bif decide ((ZM (d+1)) > 300) then some (false,(ZM (d+1)))
 else (Gg N f).bind fun g =>
 bif !g then some (false,(ZM (d+1)))
 else P3 rc b e (Rl N rc a b c) f N (ZM (d+1)) 0
 else Zck d
def Dy (N:Nat) (rc:List ZJ->Int->Int->Option (Bool × Int)) (a:List ZJ) (b:Int) (c:Int):Option (Bool × Int) :=
 Rl N rc a b N c 0
def Zcm:Nat->(List ZJ)->Int->Int->Option (Bool × Int)
 | 0,_,_,_=>none
 | N+1,a0,a1,a2=>Dy N (Zcm N) a0 a1 a2
def Hm (N:Nat) (a:List ZJ) (b:Int) (c:Int):Option (Bool × Int):=Zcm N a b c
def Zbr (N:Nat) (a:Int):Option Bool :=
 bif decide (a>=(-999999)) then some (decide (a<=999999))
 else some false
def Pc (N:Nat) (a:Ys) (b:Bool):Option Bool :=
 bif b then (Wl N a.Field).bind fun c =>
 bif c then bif a.Zv.toList==(str []).toList then some true
 else (SX N a.Zv).bind fun d =>
 some d
 else some false
 else some false
def Lm (N:Nat) (a:Ys):Option Bool :=
 (Zbr N a.N).bind fun b =>
 bif !b then some false
 else bif a.Zq==1 then bif a.Zv.toList==(str []).toList then some (a.Field.toList==(str []).toList)
 else some false
 else bif a.Zq==2 then Pc N a true
 else Pc N a (a.Zq==3)
def Zcn:Option Bool :=
 some true
def Ho (N:Nat) (a:ZS):Nat->Int->Option Bool
 | 0,_=>none
 | b+1,c =>
 bif decide (c < (a.Zz.length:Int)) then (Z6 a.Zz c).bind fun d =>
 (Lm N d.Zw).bind fun e =>
 bif !e then some false
 else (Lm N d.Zx).bind fun f =>
 bif !f then some false
 else (Ln N).bind fun g =>
 (W7 N g d.Op).bind fun h =>
 bif !h then some false
 else (Ho N a b) (ZM (c+1))
 else Zcn
def Zco (N:Nat) (a:ZS):Option Bool :=
 Ho N a N 0
def Hn (N:Nat) (a:Int) (b:Int->Option Bool) (c:T0) (d:Int):Option Bool :=
 (Wl N c.Zt).bind fun e =>
 bif !e then some false
 else bif c.Zu.Zq != 1 then bif c.Zu.Zq != 2 then some false
 else bif decide ((W0 c.Zu.Lo c.Zu.Hi) < d) then some false
 else bif decide ((Uk c.Zu.Lo c.Zu.Hi) > 999999) then some false
 else b (ZM (a+1))
 else bif decide ((W0 c.Zu.Lo c.Zu.Hi) < d) then some false
 else bif decide ((Uk c.Zu.Lo c.Zu.Hi) > 999999) then some false
 else b (ZM (a+1))
def Sm (N:Nat) (a:ZS):Nat->Int->Option Bool
 | 0,_=>none
 | b+1,c =>
 bif decide (c < (a.Zy.length:Int)) then (Z6 a.Zy c).bind fun d =>
 bif d.Zu.Zq==2 then Hn N c (Sm N a b) d 0
 else Hn N c (Sm N a b) d (-999999)
 else Zco N a
def Dz (N:Nat) (a:ZS):Option Bool :=
 (SX N a.Zt).bind fun b =>
 bif !b then some false
 else bif decide ((a.Zy.length:Int) > 4) then some false
 else bif decide ((a.Zz.length:Int) > 6) then some false
 else Sm N a N 0
def Vw (N:Nat) (a:List ByteArray) (b:ByteArray):Option ByteArray:=bif decide (a.length<=140737488355328) && decide ((X9 b.data.toList (a.map (·.data.toList))).length<=140737488355328) then some ⟨(X9 b.data.toList (a.map (·.data.toList))).toArray⟩ else none
def M5 (l:List UInt8):Nat->List UInt8
 | 0=>[]
 | n+1=>l++M5 l n
def PB (N:Nat) (a:ByteArray) (b:Int):Option ByteArray :=
 bif (decide (0<=b) && decide (b<=140737488355328)) && decide (a.size * b.toNat<=140737488355328) then some ⟨(M5 a.data.toList b.toNat).toArray⟩ else none
def ZbN (N:Nat) (a:Yd):Option Yd :=
 some (⟨ByteArray.empty,a.depth'⟩:Yd)
def Zbt (N:Nat) (a:ByteArray) (b:Yd):Option (Int × Unit × Yd) :=
 (ZbN N (⟨ByteArray.empty,b.depth'⟩:Yd)).bind fun c =>
 (QP c.Builder a).bind fun d =>
 some ((a.size:Int),(),(⟨d,c.depth'⟩:Yd))
def Gh (N:Nat) (a:List ByteArray) (b:Yd):Option Yd :=
 (PB N (str [9]) b.depth').bind fun c =>
 (Vw N a (str [])).bind fun d =>
 (Yg c d).bind fun e =>
 (Yg e (str [10])).bind fun f =>
 (Zbt N f (⟨ByteArray.empty,b.depth'⟩:Yd)).bind fun g =>
 some g.2.2
def Tt (N:Nat) (a:Int):Option ByteArray:=bif decide ((-9223372036854775808)<=a) && decide (a<=9223372036854775807) then some (UF a) else none
def Qg (N:Nat) (a:Ys) (b:ByteArray):Option ByteArray :=
 bif decide (a.N > 0) then (Tt N a.N).bind fun c =>
 (Yg (str [32,43,32]) c).bind fun d =>
 (Yg b d).bind fun e =>
 some e
 else bif decide (a.N < 0) then (Tt N (ZM (0-a.N))).bind fun f =>
 (Yg (str [32,45,32]) f).bind fun g =>
 (Yg b g).bind fun h =>
 some h
 else some b
def Qh (N:Nat) (a:Ys) (b:ByteArray):Option ByteArray :=
 bif a.Zq==3 then (Yg (str [108,101,110,40]) b).bind fun c =>
 (Yg c (str [41])).bind fun d =>
 Qg N a d
 else Qg N a b
def PC (N:Nat) (a:Ys):Option ByteArray :=
 bif a.Zq==1 then (Tt N a.N).bind fun b =>
 some b
 else bif !(a.Zv.toList==(str []).toList) then (Yg a.Zv (str [46])).bind fun c =>
 (Yg c a.Field).bind fun d =>
 Qh N a d
 else Qh N a a.Field
def ZbO (N:Nat) (a:Yd):Option Unit :=
 some ()
def Zbs (N:Nat) (a:ByteArray) (b:Yd):Option (Int × Unit × Yd) :=
 (ZbO N b).bind fun c =>
 (QP b.Builder a).bind fun d =>
 some ((a.size:Int),(),(⟨d,b.depth'⟩:Yd))
def Ww (N:Nat) (a:List ByteArray) (b:Yd):Option Yd :=
 (PB N (str [9]) b.depth').bind fun c =>
 (Vw N a (str [])).bind fun d =>
 (Yg c d).bind fun e =>
 (Yg e (str [10])).bind fun f =>
 (Zbs N f b).bind fun g =>
 some g.2.2
def Gi (N:Nat) (a:ZS) (b:Yd) (c:List ByteArray) (d:List ByteArray):Option Yd :=
 bif decide ((d.length:Int) > 0) then (Vw N d (str [32,97,110,100,32])).bind fun e =>
 (Yg (str [32,119,104,101,114,101,32]) e).bind fun f =>
 (Vw N c (str [44,32])).bind fun g =>
 (Ww N ([(str [109,101,115,115,97,103,101,32]),a.Zt,(str [40]),g,(str [41]),f,(str [59])]:List ByteArray) b).bind fun h =>
 some h
 else (Vw N c (str [44,32])).bind fun i =>
 (Ww N ([(str [109,101,115,115,97,103,101,32]),a.Zt,(str [40]),i,(str [41]),(str []),(str [59])]:List ByteArray) b).bind fun j =>
 some j
def Pe (N:Nat) (a:ZS) (b:Yd) (c:List ByteArray):Nat->(List ByteArray)->Int->Option Yd
 | 0,_,_=>none
 | d+1,e,f =>
 bif decide (f < (a.Zz.length:Int)) then (Z6 a.Zz f).bind fun g =>
 (PC N g.Zw).bind fun h =>
 (Yg h (str [32])).bind fun i =>
 (Yg i g.Op).bind fun j =>
 (Yg j (str [32])).bind fun k =>
 (PC N g.Zx).bind fun l =>
 (Yg k l).bind fun m =>
 (YG e ([m]:List ByteArray)).bind fun o =>
 (Pe N a b c d) o (ZM (f+1))
 else Gi N a b c e
def Gj (N:Nat) (a:ZS) (b:Yd) (c:List ByteArray):Option Yd :=
 Pe N a b c N ([]:List ByteArray) 0
def Lp (N:Nat) (a:List ByteArray) (b:Int) (c:List ByteArray->Int->Option Yd) (d:T0) (e:ByteArray):Option Yd :=
 (Yg d.Zt e).bind fun f =>
 (Tt N d.Zu.Lo).bind fun g =>
 (Yg f g).bind fun h =>
 (Yg h (str [46,46])).bind fun i =>
 (Tt N d.Zu.Hi).bind fun j =>
 (Yg i j).bind fun k =>
 (YG a ([k]:List ByteArray)).bind fun l =>
 c l (ZM (b+1))
def SZ (N:Nat) (a:ZS) (b:Yd):Nat->(List ByteArray)->Int->Option Yd
 | 0,_,_=>none
 | c+1,d,e =>
 bif decide (e < (a.Zy.length:Int)) then (Z6 a.Zy e).bind fun f =>
 bif f.Zu.Zq==2 then Lp N d e (SZ N a b c) f (str [58,32,116,101,120,116,32])
 else Lp N d e (SZ N a b c) f (str [58,32,105,110,116,32])
 else Gj N a b d
def Pd (N:Nat) (a:ZS) (b:Yd):Option Yd :=
 SZ N a b N ([]:List ByteArray) 0
def Zbv (N:Nat) (a:ByteArray) (b:Int):Option Yd :=
 (Ww N ([(str [125])]:List ByteArray) (⟨a,b⟩:Yd)).bind fun c =>
 some c
def Qi (rc:List ZJ->Yd->Option Yd) (a:Int) (b:ByteArray->Int->Int->Option Yd) (c:List ZJ) (d:ByteArray) (e:Int):Option Yd :=
 (rc c (⟨d,(ZM (e+1))⟩:Yd)).bind fun f =>
 b f.Builder (ZM (f.depth'-1)) (ZM (a+1))
def UR (N:Nat) (rc:List ZJ->Yd->Option Yd) (a:ByteArray) (b:ByteArray) (c:ByteArray) (d:(List (List ZJ))):Nat->ByteArray->Int->Int->Option Yd
 | 0,_,_,_=>none
 | e+1,f,g,h =>
 bif decide (h < (d.length:Int)) then (Z6 d h).bind fun i =>
 bif h==0 then (Ww N ([a,(str [32,123])]:List ByteArray) (⟨f,g⟩:Yd)).bind fun j =>
 Qi rc h (UR N rc a b c d e) i j.Builder j.depth'
 else bif h==(ZM ((d.length:Int)-1)) then bif !(c.toList==(str []).toList) then (Ww N ([(str [125,32]),c,(str [32,123])]:List ByteArray) (⟨f,g⟩:Yd)).bind fun k =>
 Qi rc h (UR N rc a b c d e) i k.Builder k.depth'
 else (Ww N ([(str [125,32]),b,(str [32,123])]:List ByteArray) (⟨f,g⟩:Yd)).bind fun l =>
 Qi rc h (UR N rc a b c d e) i l.Builder l.depth'
 else (Ww N ([(str [125,32]),b,(str [32,123])]:List ByteArray) (⟨f,g⟩:Yd)).bind fun m =>
 Qi rc h (UR N rc a b c d e) i m.Builder m.depth'
 else Zbv N f g
def S7 (N:Nat) (rc:List ZJ->Yd->Option Yd) (a:ByteArray) (b:ByteArray) (c:ByteArray) (d:(List (List ZJ))) (e:Yd):Option Yd :=
 UR N rc a b c d N e.Builder e.depth' 0
def ZaJ (a:ByteArray) (b:Int):Option Yd :=
 some (⟨a,b⟩:Yd)
def Vx (N:Nat) (rc:List ZJ->Yd->Option Yd) (a:List ZJ):Nat->ByteArray->Int->Int->Option Yd
 | 0,_,_,_=>none
 | b+1,c,d,e =>
 bif decide (e < (a.length:Int)) then (Z6 a e).bind fun f =>
 bif f.Zq==1 then (Vw N f.To (str [44,32])).bind fun g =>
 (Ww N ([f.ZA,(str [32,45,62,32]),g,(str [58,32]),f.Zt,(str [59])]:List ByteArray) (⟨c,d⟩:Yd)).bind fun h =>
 (Vx N rc a b) h.Builder h.depth' (ZM (e+1))
 else bif f.Zq==2 then bif decide (f.ZB > 0) then (Yg (str [99,104,111,105,99,101,32,97,116,32]) f.ZA).bind fun i =>
 (Yg i (str [32,119,105,116,104,105,110,32])).bind fun j =>
 (Tt N f.ZB).bind fun k =>
 (Yg j k).bind fun l =>
 (S7 N rc l (str [111,114]) (str [101,108,115,101]) f.ZC (⟨c,d⟩:Yd)).bind fun m =>
 (Vx N rc a b) m.Builder m.depth' (ZM (e+1))
 else (Yg (str [99,104,111,105,99,101,32,97,116,32]) f.ZA).bind fun o =>
 (S7 N rc o (str [111,114]) (str []) f.ZC (⟨c,d⟩:Yd)).bind fun p =>
 (Vx N rc a b) p.Builder p.depth' (ZM (e+1))
 else bif f.Zq==3 then (Yg (str [108,111,111,112,32]) f.Zt).bind fun q =>
 (S7 N rc q (str []) (str []) f.ZC (⟨c,d⟩:Yd)).bind fun r =>
 (Vx N rc a b) r.Builder r.depth' (ZM (e+1))
 else bif f.Zq==4 then (Ww N ([(str [97,103,97,105,110,32]),f.Zt,(str [59])]:List ByteArray) (⟨c,d⟩:Yd)).bind fun s =>
 (Vx N rc a b) s.Builder s.depth' (ZM (e+1))
 else bif f.Zq==5 then (S7 N rc (str [112,97,114]) (str [97,110,100]) (str []) f.ZC (⟨c,d⟩:Yd)).bind fun t =>
 (Vx N rc a b) t.Builder t.depth' (ZM (e+1))
 else bif f.Zq==6 then (Vw N f.To (str [44,32])).bind fun u =>
 (Ww N ([(str [99,97,108,108,32]),f.Zt,(str [40]),u,(str [41,32,97,115,32]),f.As,(str [59])]:List ByteArray) (⟨c,d⟩:Yd)).bind fun v =>
 (Vx N rc a b) v.Builder v.depth' (ZM (e+1))
 else (Vx N rc a b) c d (ZM (e+1))
 else ZaJ c d
def Gk (N:Nat) (rc:List ZJ->Yd->Option Yd) (a:List ZJ) (b:Yd):Option Yd :=
 Vx N rc a N b.Builder b.depth' 0
def ZaK:Nat->(List ZJ)->Yd->Option Yd
 | 0,_,_=>none
 | N+1,a0,a1=>Gk N (ZaK N) a0 a1
def S2 (N:Nat) (a:List ZJ) (b:Yd):Option Yd:=ZaK N a b
def Lq (N:Nat) (a:Yd):Option ByteArray :=
 (MN a.Builder).bind fun b =>
 (MN a.Builder).bind fun c =>
 some a.Builder
def Ze1 (N:Nat) (a:Yd):Option ByteArray :=
 some ByteArray.empty
def DB (N:Nat) (a:Int) (b:ByteArray->Int->Int->Option ByteArray) (c:ZL) (d:ByteArray) (e:Int):Option ByteArray :=
 (S2 N c.ZF (⟨d,e⟩:Yd)).bind fun f =>
 (Ww N ([(str [125])]:List ByteArray) (⟨f.Builder,(ZM (f.depth'-1))⟩:Yd)).bind fun g =>
 b g.Builder g.depth' (ZM (a+1))
def P4 (N:Nat) (a:Int) (b:ByteArray->Int->Int->Option ByteArray) (c:ZL):Nat->ByteArray->Int->Int->Option ByteArray
 | 0,_,_,_=>none
 | d+1,e,f,g =>
 bif decide (g < (c.ZE.length:Int)) then (Z6 c.ZE g).bind fun h =>
 (Pd N h (⟨e,f⟩:Yd)).bind fun i =>
 (P4 N a b c d) i.Builder i.depth' (ZM (g+1))
 else DB N a b c e f
def UT (N:Nat) (a:List ZL):Nat->ByteArray->Int->Int->Option ByteArray
 | 0,_,_,_=>none
 | b+1,c,d,e =>
 bif decide (e < (a.length:Int)) then (Z6 a e).bind fun f =>
 (Vw N f.ZD (str [44,32])).bind fun g =>
 (Ww N ([(str [112,114,111,116,111,99,111,108,32]),f.Zt,(str [40]),g,(str [41,32,123])]:List ByteArray) (⟨c,d⟩:Yd)).bind fun h =>
 P4 N e (UT N a b) f N h.Builder (ZM (h.depth'+1)) 0
 else (Lq N (⟨c,d⟩:Yd)).bind fun i =>
 some i
def DC (N:Nat) (a:List ZL) (b:ZL) (c:ByteArray) (d:Int):Option ByteArray :=
 (S2 N b.ZF (⟨c,d⟩:Yd)).bind fun e =>
 (Ww N ([(str [125])]:List ByteArray) (⟨e.Builder,(ZM (e.depth'-1))⟩:Yd)).bind fun f =>
 UT N a N f.Builder f.depth' (ZM (0+1))
def P5 (N:Nat) (a:List ZL) (b:ZL):Nat->ByteArray->Int->Int->Option ByteArray
 | 0,_,_,_=>none
 | c+1,d,e,f =>
 bif decide (f < (b.ZE.length:Int)) then (Z6 b.ZE f).bind fun g =>
 (Pd N g (⟨d,e⟩:Yd)).bind fun h =>
 (P5 N a b c) h.Builder h.depth' (ZM (f+1))
 else DC N a b d e
def DA (N:Nat) (a:List ZL):Option ByteArray :=
 bif decide (0 < (a.length:Int)) then (Z6 a 0).bind fun b =>
 (Vw N b.ZD (str [44,32])).bind fun c =>
 (Gh N ([(str [112,114,111,116,111,99,111,108,32]),b.Zt,(str [40]),c,(str [41,32,123])]:List ByteArray) (⟨ByteArray.empty,0⟩:Yd)).bind fun d =>
 P5 N a b N d.Builder (ZM (d.depth'+1)) 0
 else (Ze1 N (⟨ByteArray.empty,0⟩:Yd)).bind fun e =>
 some e
def ZbP (N:Nat) (a:List ZL):Option Bool :=
 (DA N a).bind fun b =>
 some (decide ((b.size:Int)<=8000))
def ZbQ (a:Int) (b:Int->Option Bool):Option Bool :=
 b (ZM (a+1))
def PN (N:Nat) (a:Int) (b:Int->Option Bool) (c:ZL):Nat->Int->Option Bool
 | 0,_=>none
 | d+1,e =>
 bif decide (e < (c.ZE.length:Int)) then (Z6 c.ZE e).bind fun f =>
 (Dz N f).bind fun g =>
 bif !g then some false
 else (PN N a b c d) (ZM (e+1))
 else ZbQ a b
def Rc (N:Nat) (a:List ZL):Nat->Int->Option Bool
 | 0,_=>none
 | b+1,c =>
 bif decide (c < (a.length:Int)) then (Z6 a c).bind fun d =>
 (Wl N d.Zt).bind fun e =>
 bif !e then some false
 else (P2 N d.ZD 6).bind fun f =>
 bif !f then some false
 else bif decide ((d.ZE.length:Int) > 40) then some false
 else (Hm N d.ZF 1 0).bind fun g =>
 bif !g.1 then some false
 else PN N c (Rc N a b) d N 0
 else ZbP N a
def Ra (N:Nat) (a:List ZL):Option Bool :=
 bif decide ((a.length:Int) > 10) then some false
 else Rc N a N 0
def Zbw (N:Nat) (a:List ZL) (b:List T4) (c:Int) (d:Int) (e:Int) (f:Int):Option ((List ZL) × Int × Int) :=
 bif f != 0 then some (([]:List ZL),e,f)
 else (Ra N a).bind fun g =>
 bif !g then some (([]:List ZL),0,6)
 else some (a,0,0)
def Zbx (N:Nat) (a:List T4 × Int × Int):Nat->(List ZL)->(List T4)->Int->Int->Int->Int->Option ((List ZL) × Int × Int)
 | 0,_,_,_,_,_,_=>none
 | b+1,c,d,e,f,g,h =>
 bif decide (e < (a.1.length:Int)) then bif h==0 then (z33 N (⟨d,e,f,g,h⟩:Z4)).bind fun i =>
 (YG c ([i.1]:List ZL)).bind fun j =>
 (Zbx N a b) j i.2.l' i.2.n' i.2.end' i.2.at' i.2.err'
 else Zbw N c d e f g h
 else Zbw N c d e f g h
def z15 (N:Nat) (a:ByteArray):Option ((List ZL) × Int × Int) :=
 (z32 N a).bind fun b =>
 bif b.2.2 != 0 then some (([]:List ZL),b.2.1,b.2.2)
 else Zbx N b N ([]:List ZL) b.1 0 (a.size:Int) 0 0
def Zb6 (N:Nat) (a:ZL) (b:ZL):Option Bool :=
 some (a.Zt.toList==b.Zt.toList)
def Zcw:Option Int :=
 some (-1)
def Mc (N:Nat) (a:List ZL) (b:ZL):Nat->Int->Option Int
 | 0,_=>none
 | c+1,d =>
 bif decide (d < (a.length:Int)) then (Z6 a d).bind fun e =>
 (Zb6 N e b).bind fun f =>
 bif f then some d
 else (Mc N a b c) (ZM (d+1))
 else Zcw
def DL (N:Nat) (a:List ZL) (b:ZL):Option Int :=
 Mc N a b N 0
def L7 (N:Nat) (a:List ZL) (b:ZL):Option Bool :=
 (DL N a b).bind fun c =>
 some (decide (c>=0))
def L8 (N:Nat) (a:List ByteArray) (b:Int):Option Bool :=
 (lsl a none (some b)).bind fun c =>
 (Z6 a b).bind fun d =>
 (W7 N c d).bind fun e =>
 some e
def ZcA (N:Nat) (a:ZS) (b:ZS):Option Bool :=
 some (a.Zt.toList==b.Zt.toList)
def Za1:Option Int :=
 some (-1)
def Pp (N:Nat) (a:List ZS) (b:ZS):Nat->Int->Option Int
 | 0,_=>none
 | c+1,d =>
 bif decide (d < (a.length:Int)) then (Z6 a d).bind fun e =>
 (ZcA N e b).bind fun f =>
 bif f then some d
 else (Pp N a b c) (ZM (d+1))
 else Za1
def GG (N:Nat) (a:List ZS) (b:ZS):Option Int :=
 Pp N a b N 0
def DP (N:Nat) (a:List ZS) (b:ZS):Option Bool :=
 (GG N a b).bind fun c =>
 some (decide (c>=0))
def ZcB (N:Nat) (a:T0) (b:T0):Option Bool :=
 some (a.Zt.toList==b.Zt.toList)
def Za4:Option Int :=
 some (-1)
def Ps (N:Nat) (a:List T0) (b:T0):Nat->Int->Option Int
 | 0,_=>none
 | c+1,d =>
 bif decide (d < (a.length:Int)) then (Z6 a d).bind fun e =>
 (ZcB N e b).bind fun f =>
 bif f then some d
 else (Ps N a b c) (ZM (d+1))
 else Za4
def GK (N:Nat) (a:List T0) (b:T0):Option Int :=
 Ps N a b N 0
def DR (N:Nat) (a:List T0) (b:T0):Option Bool :=
 (GK N a b).bind fun c =>
 some (decide (c>=0))
def Za6 (N:Nat) (a:ZS) (b:Ys):Option Bool :=
 some (a.Zt.toList==b.Zv.toList)
def Za2:Option Int :=
 some (-1)
def Pq (N:Nat) (a:List ZS) (b:Ys):Nat->Int->Option Int
 | 0,_=>none
 | c+1,d =>
 bif decide (d < (a.length:Int)) then (Z6 a d).bind fun e =>
 (Za6 N e b).bind fun f =>
 bif f then some d
 else (Pq N a b c) (ZM (d+1))
 else Za2
def GH (N:Nat) (a:List ZS) (b:Ys):Option Int :=
 Pq N a b N 0
def Za7 (N:Nat) (a:T0) (b:Ys):Option Bool :=
 some (a.Zt.toList==b.Field.toList)
def Za5:Option Int :=
 some (-1)
def Pt (N:Nat) (a:List T0) (b:Ys):Nat->Int->Option Int
 | 0,_=>none
 | c+1,d =>
 bif decide (d < (a.length:Int)) then (Z6 a d).bind fun e =>
 (Za7 N e b).bind fun f =>
 bif f then some d
 else (Pt N a b c) (ZM (d+1))
 else Za5
def GM (N:Nat) (a:List T0) (b:Ys):Option Int :=
 Pt N a b N 0
def Hq (N:Nat) (a:Ys) (b:ByteArray) (c:List T0) (d:List YM):Option Int :=
 (GM N c a).bind fun e =>
 bif decide (e < 0) then some 0
 else (Z6 c e).bind fun f =>
 some f.Zu.Zq
def DS (N:Nat) (a:T7) (b:ZS) (c:Ys):Option Int :=
 bif !(c.Zv.toList==(str []).toList) then (GH N a.p'.ZE c).bind fun d =>
 bif decide (d < 0) then some 0
 else (Z6 a.p'.ZE d).bind fun e =>
 Hq N c e.Zt e.Zy e.Zz
 else Hq N c b.Zt b.Zy b.Zz
def z60 (N:Nat) (a:List T8):Option (List T8) :=
 (YG ([]:List T8) a).bind fun b =>
 some b
def Za8 (N:Nat) (a:ZS) (b:ZJ):Option Bool :=
 some (a.Zt.toList==b.Zt.toList)
def Za3:Option Int :=
 some (-1)
def Pr (N:Nat) (a:List ZS) (b:ZJ):Nat->Int->Option Int
 | 0,_=>none
 | c+1,d =>
 bif decide (d < (a.length:Int)) then (Z6 a d).bind fun e =>
 (Za8 N e b).bind fun f =>
 bif f then some d
 else (Pr N a b c) (ZM (d+1))
 else Za3
def GJ (N:Nat) (a:List ZS) (b:ZJ):Option Int :=
 Pr N a b N 0
def DQ (N:Nat) (a:List ZS) (b:ZJ):Option Bool :=
 (GJ N a b).bind fun c =>
 some (decide (c>=0))
def ZcD (N:Nat) (a:T8) (b:ZJ):Option Bool :=
 some (a.name'.toList==b.Zt.toList)
def ZcE:Option Int :=
 some (-1)
def Mi (N:Nat) (a:List T8) (b:ZJ):Nat->Int->Option Int
 | 0,_=>none
 | c+1,d =>
 bif decide (d < (a.length:Int)) then (Z6 a d).bind fun e =>
 (ZcD N e b).bind fun f =>
 bif f then some d
 else (Mi N a b c) (ZM (d+1))
 else ZcE
def DV (N:Nat) (a:List T8) (b:ZJ):Option Int :=
 Mi N a b N 0
def DU (N:Nat) (a:List T8) (b:ZJ):Option Bool :=
 (DV N a b).bind fun c =>
 some (decide (c>=0))
def ZcG (N:Nat) (a:T8) (b:ZJ):Option Bool :=
 bif a.name'.toList==b.Zt.toList then some (!a.hidden')
 else some false
def ZcF:Option Int :=
 some (-1)
def Mj (N:Nat) (a:List T8) (b:ZJ):Nat->Int->Option Int
 | 0,_=>none
 | c+1,d =>
 bif decide (d < (a.length:Int)) then (Z6 a d).bind fun e =>
 (ZcG N e b).bind fun f =>
 bif f then some d
 else (Mj N a b c) (ZM (d+1))
 else ZcF
def DW (N:Nat) (a:List T8) (b:ZJ):Option Int :=
 Mj N a b N 0
def Za9 (N:Nat) (a:ZL) (b:ZJ):Option Bool :=
 some (a.Zt.toList==b.Zt.toList)
def Zcx:Option Int :=
 some (-1)
def Md (N:Nat) (a:List ZL) (b:ZJ):Nat->Int->Option Int
 | 0,_=>none
 | c+1,d =>
 bif decide (d < (a.length:Int)) then (Z6 a d).bind fun e =>
 (Za9 N e b).bind fun f =>
 bif f then some d
 else (Md N a b c) (ZM (d+1))
 else Zcx
def DM (N:Nat) (a:List ZL) (b:ZJ):Option Int :=
 Md N a b N 0
def Y6 (N:Nat) (a:T7) (b:ByteArray) (c:Int):Option T7 :=
 bif a.out'.ZI==0 then some (⟨a.all',a.p',a.calls',(⟨a.p'.Zt,b,c⟩:T6)⟩:T7)
 else some a
def Mh (N:Nat) (a:T7) (b:List ByteArray) (c:Int):Option T7 :=
 (Z6 b c).bind fun d =>
 (W7 N a.p'.ZD d).bind fun e =>
 bif !e then (Z6 b c).bind fun f =>
 (Y6 N a f 12).bind fun g =>
 some g
 else (L8 N b c).bind fun h =>
 bif h then (Z6 b c).bind fun i =>
 (Y6 N a i 12).bind fun j =>
 some j
 else some a
def Mk (N:Nat) (a:ZJ) (b:List ZL) (c:ByteArray) (d:List ByteArray) (e:List ZS) (f:List ZJ) (g:List ByteArray) (h:ByteArray) (i:ByteArray) (j:Int):Option T7 :=
 (W7 N g a.As).bind fun k =>
 bif k then (Y6 N (⟨b,(⟨c,d,e,f⟩:ZL),g,(⟨h,i,j⟩:T6)⟩:T7) a.As 9).bind fun l =>
 (YG l.calls' ([a.As]:List ByteArray)).bind fun m =>
 some (⟨l.all',l.p',m,l.out'⟩:T7)
 else (YG g ([a.As]:List ByteArray)).bind fun o =>
 some (⟨b,(⟨c,d,e,f⟩:ZL),o,(⟨h,i,j⟩:T6)⟩:T7)
def Ml (N:Nat) (a:ZJ):Nat->(List ZL)->ByteArray->(List ByteArray)->(List ZS)->(List ZJ)->(List ByteArray)->ByteArray->ByteArray->Int->Int->Option T7
 | 0,_,_,_,_,_,_,_,_,_,_=>none
 | b+1,c,d,e,f,g,h,i,j,k,l =>
 bif decide (l < (a.To.length:Int)) then (Mh N (⟨c,(⟨d,e,f,g⟩:ZL),h,(⟨i,j,k⟩:T6)⟩:T7) a.To l).bind fun m =>
 (Ml N a b) m.all' m.p'.Zt m.p'.ZD m.p'.ZE m.p'.ZF m.calls' m.out'.ZH m.out'.Zt m.out'.ZI (ZM (l+1))
 else Mk N a c d e f g h i j k
def Hs (N:Nat) (a:ZJ) (b:List ZL) (c:ByteArray) (d:List ByteArray) (e:List ZS) (f:List ZJ) (g:List ByteArray) (h:ByteArray) (i:ByteArray) (j:Int):Option T7 :=
 Ml N a N b c d e f g h i j 0
def DX (N:Nat) (a:T7) (b:ZJ):Option T7 :=
 (DM N a.all' b).bind fun c =>
 bif decide (c < 0) then (Y6 N a b.Zt 10).bind fun d =>
 some d
 else (Z6 a.all' c).bind fun e =>
 bif (e.ZD.length:Int) != (b.To.length:Int) then (Y6 N a b.Zt 1).bind fun f =>
 Hs N b f.all' f.p'.Zt f.p'.ZD f.p'.ZE f.p'.ZF f.calls' f.out'.ZH f.out'.Zt f.out'.ZI
 else Hs N b a.all' a.p'.Zt a.p'.ZD a.p'.ZE a.p'.ZF a.calls' a.out'.ZH a.out'.Zt a.out'.ZI
def Hr (N:Nat) (a:ZJ) (b:List ZL) (c:ByteArray) (d:List ByteArray) (e:List ZS) (f:List ZJ) (g:List ByteArray) (h:ByteArray) (i:ByteArray) (j:Int):Option T7 :=
 (DQ N e a).bind fun k =>
 bif !k then (Y6 N (⟨b,(⟨c,d,e,f⟩:ZL),g,(⟨h,i,j⟩:T6)⟩:T7) a.Zt 10).bind fun l =>
 some l
 else some (⟨b,(⟨c,d,e,f⟩:ZL),g,(⟨h,i,j⟩:T6)⟩:T7)
def Mg (N:Nat) (a:ZJ) (b:List ByteArray):Nat->(List ZL)->ByteArray->(List ByteArray)->(List ZS)->(List ZJ)->(List ByteArray)->ByteArray->ByteArray->Int->Int->Option T7
 | 0,_,_,_,_,_,_,_,_,_,_=>none
 | c+1,d,e,f,g,h,i,j,k,l,m =>
 bif decide (m < (b.length:Int)) then (Mh N (⟨d,(⟨e,f,g,h⟩:ZL),i,(⟨j,k,l⟩:T6)⟩:T7) b m).bind fun o =>
 (Mg N a b c) o.all' o.p'.Zt o.p'.ZD o.p'.ZE o.p'.ZF o.calls' o.out'.ZH o.out'.Zt o.out'.ZI (ZM (m+1))
 else Hr N a d e f g h i j k l
def DT (N:Nat) (a:T7) (b:ZJ):Option T7 :=
 (YG ([b.ZA]:List ByteArray) b.To).bind fun c =>
 Mg N b c N a.all' a.p'.Zt a.p'.ZD a.p'.ZE a.p'.ZF a.calls' a.out'.ZH a.out'.Zt a.out'.ZI 0
def Dj (a:List ZL) (b:ByteArray) (c:List ByteArray) (d:List ZS) (e:List ZJ) (f:List ByteArray) (g:ByteArray) (h:ByteArray) (i:Int):Option T7 :=
 some (⟨a,(⟨b,c,d,e⟩:ZL),f,(⟨g,h,i⟩:T6)⟩:T7)
def Dk (a:Int) (b:List ZL->ByteArray->(List ByteArray)->(List ZS)->(List ZJ)->(List ByteArray)->ByteArray->ByteArray->Int->Int->Option T7) (c:List ZL) (d:ByteArray) (e:List ByteArray) (f:List ZS) (g:List ZJ) (h:List ByteArray) (i:ByteArray) (j:ByteArray) (k:Int):Option T7 :=
 b c d e f g h i j k (ZM (a+1))
def PR (rc:T7->(List ZJ)->(List T8)->Option T7) (a:Int) (b:List ZL->ByteArray->(List ByteArray)->(List ZS)->(List ZJ)->(List ByteArray)->ByteArray->ByteArray->Int->Int->Option T7) (c:ZJ) (d:List T8):Nat->(List ZL)->ByteArray->(List ByteArray)->(List ZS)->(List ZJ)->(List ByteArray)->ByteArray->ByteArray->Int->Int->Option T7
 | 0,_,_,_,_,_,_,_,_,_,_=>none
 | e+1,f,g,h,i,j,k,l,m,o,p =>
 bif decide (p < (c.ZC.length:Int)) then (Z6 c.ZC p).bind fun q =>
 (rc (⟨f,(⟨g,h,i,j⟩:ZL),k,(⟨l,m,o⟩:T6)⟩:T7) q d).bind fun r =>
 (PR rc a b c d e) r.all' r.p'.Zt r.p'.ZD r.p'.ZE r.p'.ZF r.calls' r.out'.ZH r.out'.Zt r.out'.ZI (ZM (p+1))
 else Dk a b f g h i j k l m o
def Dm (N:Nat) (rc:T7->(List ZJ)->(List T8)->Option T7) (a:Int) (b:List ZL->ByteArray->(List ByteArray)->(List ZS)->(List ZJ)->(List ByteArray)->ByteArray->ByteArray->Int->Int->Option T7) (c:ZJ) (d:List ZL) (e:ByteArray) (f:List ByteArray) (g:List ZS) (h:List ZJ) (i:List ByteArray) (j:ByteArray) (k:ByteArray) (l:Int) (m:List T8):Option T7 :=
 PR rc a b c m N d e f g h i j k l 0
def Qp (N:Nat) (rc:T7->(List ZJ)->(List T8)->Option T7) (a:Int) (b:List ZL->ByteArray->(List ByteArray)->(List ZS)->(List ZJ)->(List ByteArray)->ByteArray->ByteArray->Int->Int->Option T7) (c:ZJ) (d:List ZL) (e:ByteArray) (f:List ByteArray) (g:List ZS) (h:List ZJ) (i:List ByteArray) (j:ByteArray) (k:ByteArray) (l:Int) (m:List T8):Nat->(List T8)->Int->Option T7
 | 0,_,_=>none
 | o+1,p,q =>
 bif decide (q < (m.length:Int)) then (Z6 p q).bind fun r =>
 bif r.hidden' then (Z6 p q).bind fun s =>
 (Qp N rc a b c d e f g h i j k l m o) (XK p q (⟨s.name',s.tail',true⟩:T8)) (ZM (q+1))
 else (Z6 p q).bind fun t =>
 (Qp N rc a b c d e f g h i j k l m o) (XK p q (⟨t.name',t.tail',(c.Zq==5)⟩:T8)) (ZM (q+1))
 else Dm N rc a b c d e f g h i j k l p
def V6 (N:Nat) (rc:T7->(List ZJ)->(List T8)->Option T7) (a:Int) (b:List ZL->ByteArray->(List ByteArray)->(List ZS)->(List ZJ)->(List ByteArray)->ByteArray->ByteArray->Int->Int->Option T7) (c:ZJ) (d:List ZL) (e:ByteArray) (f:List ByteArray) (g:List ZS) (h:List ZJ) (i:List ByteArray) (j:ByteArray) (k:ByteArray) (l:Int) (m:List T8):Option T7 :=
 Qp N rc a b c d e f g h i j k l m N m 0
def Hg (N:Nat) (rc:T7->(List ZJ)->(List T8)->Option T7) (a:List ZL) (b:ByteArray) (c:List ByteArray) (d:List ZS) (e:List ZJ) (f:List ByteArray) (g:ByteArray) (h:ByteArray) (i:Int) (j:Int) (k:List ZL->ByteArray->(List ByteArray)->(List ZS)->(List ZJ)->(List ByteArray)->ByteArray->ByteArray->Int->Int->Option T7) (l:ZJ) (m:List T8):Option T7 :=
 bif l.Zq==1 then (DT N (⟨a,(⟨b,c,d,e⟩:ZL),f,(⟨g,h,i⟩:T6)⟩:T7) l).bind fun o =>
 V6 N rc j k l o.all' o.p'.Zt o.p'.ZD o.p'.ZE o.p'.ZF o.calls' o.out'.ZH o.out'.Zt o.out'.ZI m
 else bif l.Zq==2 then (Mh N (⟨a,(⟨b,c,d,e⟩:ZL),f,(⟨g,h,i⟩:T6)⟩:T7) ([l.ZA]:List ByteArray) 0).bind fun p =>
 V6 N rc j k l p.all' p.p'.Zt p.p'.ZD p.p'.ZE p.p'.ZF p.calls' p.out'.ZH p.out'.Zt p.out'.ZI m
 else bif l.Zq==3 then (DU N m l).bind fun q =>
 bif q then (Y6 N (⟨a,(⟨b,c,d,e⟩:ZL),f,(⟨g,h,i⟩:T6)⟩:T7) l.Zt 9).bind fun r =>
 (YG m ([(⟨l.Zt,true,false⟩:T8)]:List T8)).bind fun s =>
 V6 N rc j k l r.all' r.p'.Zt r.p'.ZD r.p'.ZE r.p'.ZF r.calls' r.out'.ZH r.out'.Zt r.out'.ZI s
 else (YG m ([(⟨l.Zt,true,false⟩:T8)]:List T8)).bind fun t =>
 V6 N rc j k l a b c d e f g h i t
 else bif l.Zq==4 then (DW N m l).bind fun u =>
 bif decide (u < 0) then (Y6 N (⟨a,(⟨b,c,d,e⟩:ZL),f,(⟨g,h,i⟩:T6)⟩:T7) l.Zt 10).bind fun v =>
 V6 N rc j k l v.all' v.p'.Zt v.p'.ZD v.p'.ZE v.p'.ZF v.calls' v.out'.ZH v.out'.Zt v.out'.ZI m
 else (Z6 m u).bind fun w =>
 bif !w.tail' then (Y6 N (⟨a,(⟨b,c,d,e⟩:ZL),f,(⟨g,h,i⟩:T6)⟩:T7) l.Zt 7).bind fun x =>
 V6 N rc j k l x.all' x.p'.Zt x.p'.ZD x.p'.ZE x.p'.ZF x.calls' x.out'.ZH x.out'.Zt x.out'.ZI m
 else V6 N rc j k l a b c d e f g h i m
 else bif l.Zq==6 then (DX N (⟨a,(⟨b,c,d,e⟩:ZL),f,(⟨g,h,i⟩:T6)⟩:T7) l).bind fun y =>
 V6 N rc j k l y.all' y.p'.Zt y.p'.ZD y.p'.ZE y.p'.ZF y.calls' y.out'.ZH y.out'.Zt y.out'.ZI m
 else V6 N rc j k l a b c d e f g h i m
def Qq (N:Nat) (rc:T7->(List ZJ)->(List T8)->Option T7) (a:List ZJ) (b:List ZL) (c:ByteArray) (d:List ByteArray) (e:List ZS) (f:List ZJ) (g:List ByteArray) (h:ByteArray) (i:ByteArray) (j:Int) (k:Int) (l:List ZL->ByteArray->(List ByteArray)->(List ZS)->(List ZJ)->(List ByteArray)->ByteArray->ByteArray->Int->Int->Option T7) (m:ZJ) (o:List T8):Nat->(List T8)->Int->Option T7
 | 0,_,_=>none
 | p+1,q,r =>
 bif decide (r < (o.length:Int)) then (Z6 q r).bind fun s =>
 bif s.tail' then (Z6 q r).bind fun t =>
 (Qq N rc a b c d e f g h i j k l m o p) (XK q r (⟨t.name',(k==(ZM ((a.length:Int)-1))),t.hidden'⟩:T8)) (ZM (r+1))
 else (Z6 q r).bind fun u =>
 (Qq N rc a b c d e f g h i j k l m o p) (XK q r (⟨u.name',false,u.hidden'⟩:T8)) (ZM (r+1))
 else Hg N rc b c d e f g h i j k l m q
def W5 (N:Nat) (rc:T7->(List ZJ)->(List T8)->Option T7) (a:List ZJ) (b:List T8):Nat->(List ZL)->ByteArray->(List ByteArray)->(List ZS)->(List ZJ)->(List ByteArray)->ByteArray->ByteArray->Int->Int->Option T7
 | 0,_,_,_,_,_,_,_,_,_,_=>none
 | c+1,d,e,f,g,h,i,j,k,l,m =>
 bif decide (m < (a.length:Int)) then (Z6 a m).bind fun o =>
 (z60 N b).bind fun p =>
 Qq N rc a d e f g h i j k l m (W5 N rc a b c) o p N p 0
 else Dj d e f g h i j k l
def Di (N:Nat) (rc:T7->(List ZJ)->(List T8)->Option T7) (a:T7) (b:List ZJ) (c:List T8):Option T7 :=
 W5 N rc b c N a.all' a.p'.Zt a.p'.ZD a.p'.ZE a.p'.ZF a.calls' a.out'.ZH a.out'.Zt a.out'.ZI 0
def Zb8:Nat->T7->(List ZJ)->(List T8)->Option T7
 | 0,_,_,_=>none
 | N+1,a0,a1,a2=>Di N (Zb8 N) a0 a1 a2
def Vf (N:Nat) (a:T7) (b:List ZJ) (c:List T8):Option T7:=Zb8 N a b c
def Dc (a:List ZL) (b:ByteArray) (c:List ByteArray) (d:List ZS) (e:List ZJ) (f:List ByteArray) (g:ByteArray) (h:ByteArray) (i:Int):Option T7 :=
 some (⟨a,(⟨b,c,d,e⟩:ZL),f,(⟨g,h,i⟩:T6)⟩:T7)
def Dd (a:Int) (b:List ZL->ByteArray->(List ByteArray)->(List ZS)->(List ZJ)->(List ByteArray)->ByteArray->ByteArray->Int->Int->Option T7) (c:List ZL) (d:ByteArray) (e:List ByteArray) (f:List ZS) (g:List ZJ) (h:List ByteArray) (i:ByteArray) (j:ByteArray) (k:Int):Option T7 :=
 b c d e f g h i j k (ZM (a+1))
def L9 (N:Nat) (a:Int) (b:List ZL->ByteArray->(List ByteArray)->(List ZS)->(List ZJ)->(List ByteArray)->ByteArray->ByteArray->Int->Int->Option T7) (c:T0) (d:List ZL) (e:ByteArray) (f:List ByteArray) (g:List ZS) (h:List ZJ) (i:List ByteArray) (j:ByteArray) (k:ByteArray) (l:Int) (m:Int) (o:Int):Option T7 :=
 bif decide (c.Zu.Lo > c.Zu.Hi) then (Y6 N (⟨d,(⟨e,f,g,h⟩:ZL),i,(⟨j,k,l⟩:T6)⟩:T7) c.Zt 2).bind fun p =>
 b p.all' p.p'.Zt p.p'.ZD p.p'.ZE p.p'.ZF p.calls' p.out'.ZH p.out'.Zt p.out'.ZI (ZM (a+1))
 else bif decide (c.Zu.Lo < m) then (Y6 N (⟨d,(⟨e,f,g,h⟩:ZL),i,(⟨j,k,l⟩:T6)⟩:T7) c.Zt 2).bind fun q =>
 b q.all' q.p'.Zt q.p'.ZD q.p'.ZE q.p'.ZF q.calls' q.out'.ZH q.out'.Zt q.out'.ZI (ZM (a+1))
 else bif decide (c.Zu.Hi > o) then (Y6 N (⟨d,(⟨e,f,g,h⟩:ZL),i,(⟨j,k,l⟩:T6)⟩:T7) c.Zt 2).bind fun r =>
 b r.all' r.p'.Zt r.p'.ZD r.p'.ZE r.p'.ZF r.calls' r.out'.ZH r.out'.Zt r.out'.ZI (ZM (a+1))
 else b d e f g h i j k l (ZM (a+1))
def Ha (N:Nat) (a:Int) (b:List ZL->ByteArray->(List ByteArray)->(List ZS)->(List ZJ)->(List ByteArray)->ByteArray->ByteArray->Int->Int->Option T7) (c:T0) (d:List ZL) (e:ByteArray) (f:List ByteArray) (g:List ZS) (h:List ZJ) (i:List ByteArray) (j:ByteArray) (k:ByteArray) (l:Int):Option T7 :=
 bif c.Zu.Zq==2 then L9 N a b c d e f g h i j k l 0 40
 else L9 N a b c d e f g h i j k l (-1000) 1000
def Tx (N:Nat) (a:Int) (b:List ZL->ByteArray->(List ByteArray)->(List ZS)->(List ZJ)->(List ByteArray)->ByteArray->ByteArray->Int->Int->Option T7) (c:ZS):Nat->(List ZL)->ByteArray->(List ByteArray)->(List ZS)->(List ZJ)->(List ByteArray)->ByteArray->ByteArray->Int->Int->Option T7
 | 0,_,_,_,_,_,_,_,_,_,_=>none
 | d+1,e,f,g,h,i,j,k,l,m,o =>
 bif decide (o < (c.Zy.length:Int)) then (Z6 c.Zy o).bind fun p =>
 (lsl c.Zy none (some o)).bind fun q =>
 (DR N q p).bind fun r =>
 bif r then (Y6 N (⟨e,(⟨f,g,h,i⟩:ZL),j,(⟨k,l,m⟩:T6)⟩:T7) p.Zt 9).bind fun s =>
 Ha N o (Tx N a b c d) p s.all' s.p'.Zt s.p'.ZD s.p'.ZE s.p'.ZF s.calls' s.out'.ZH s.out'.Zt s.out'.ZI
 else Ha N o (Tx N a b c d) p e f g h i j k l m
 else Dd a b e f g h i j k l m
def Hb (N:Nat) (a:Int) (b:List ZL->ByteArray->(List ByteArray)->(List ZS)->(List ZJ)->(List ByteArray)->ByteArray->ByteArray->Int->Int->Option T7) (c:ZS) (d:List ZL) (e:ByteArray) (f:List ByteArray) (g:List ZS) (h:List ZJ) (i:List ByteArray) (j:ByteArray) (k:ByteArray) (l:Int):Option T7 :=
 Tx N a b c N d e f g h i j k l 0
def V5 (N:Nat) (a:T7):Nat->(List ZL)->ByteArray->(List ByteArray)->(List ZS)->(List ZJ)->(List ByteArray)->ByteArray->ByteArray->Int->Int->Option T7
 | 0,_,_,_,_,_,_,_,_,_,_=>none
 | b+1,c,d,e,f,g,h,i,j,k,l =>
 bif decide (l < (a.p'.ZE.length:Int)) then (Z6 a.p'.ZE l).bind fun m =>
 (lsl f none (some l)).bind fun o =>
 (DP N o m).bind fun p =>
 bif p then (Y6 N (⟨c,(⟨d,e,f,g⟩:ZL),h,(⟨i,j,k⟩:T6)⟩:T7) m.Zt 9).bind fun q =>
 Hb N l (V5 N a b) m q.all' q.p'.Zt q.p'.ZD q.p'.ZE q.p'.ZF q.calls' q.out'.ZH q.out'.Zt q.out'.ZI
 else Hb N l (V5 N a b) m c d e f g h i j k
 else Dc c d e f g h i j k
def Db (N:Nat) (a:T7):Option T7 :=
 V5 N a N a.all' a.p'.Zt a.p'.ZD a.p'.ZE a.p'.ZF a.calls' a.out'.ZH a.out'.Zt a.out'.ZI 0
def Df (a:List ZL) (b:ByteArray) (c:List ByteArray) (d:List ZS) (e:List ZJ) (f:List ByteArray) (g:ByteArray) (h:ByteArray) (i:Int):Option T7 :=
 some (⟨a,(⟨b,c,d,e⟩:ZL),f,(⟨g,h,i⟩:T6)⟩:T7)
def Dg (a:Int) (b:List ZL->ByteArray->(List ByteArray)->(List ZS)->(List ZJ)->(List ByteArray)->ByteArray->ByteArray->Int->Int->Option T7) (c:List ZL) (d:ByteArray) (e:List ByteArray) (f:List ZS) (g:List ZJ) (h:List ByteArray) (i:ByteArray) (j:ByteArray) (k:Int):Option T7 :=
 b c d e f g h i j k (ZM (a+1))
def Dh (N:Nat) (a:ZS) (b:Int) (c:List ZL->ByteArray->(List ByteArray)->(List ZS)->(List ZJ)->(List ByteArray)->ByteArray->ByteArray->Int->Int->Option T7) (d:YM) (e:List ZL) (f:ByteArray) (g:List ByteArray) (h:List ZS) (i:List ZJ) (j:List ByteArray) (k:ByteArray) (l:ByteArray) (m:Int) (o:Int):Option T7 :=
 bif o==1 then (Y6 N (⟨e,(⟨f,g,h,i⟩:ZL),j,(⟨k,l,m⟩:T6)⟩:T7) a.Zt 11).bind fun p =>
 c p.all' p.p'.Zt p.p'.ZD p.p'.ZE p.p'.ZF p.calls' p.out'.ZH p.out'.Zt p.out'.ZI (ZM (b+1))
 else bif o==2 then bif !(d.Op.toList==(str [61,61]).toList) then (Y6 N (⟨e,(⟨f,g,h,i⟩:ZL),j,(⟨k,l,m⟩:T6)⟩:T7) a.Zt 11).bind fun q =>
 c q.all' q.p'.Zt q.p'.ZD q.p'.ZE q.p'.ZF q.calls' q.out'.ZH q.out'.Zt q.out'.ZI (ZM (b+1))
 else bif d.Zw.N != 0 then (Y6 N (⟨e,(⟨f,g,h,i⟩:ZL),j,(⟨k,l,m⟩:T6)⟩:T7) a.Zt 11).bind fun r =>
 c r.all' r.p'.Zt r.p'.ZD r.p'.ZE r.p'.ZF r.calls' r.out'.ZH r.out'.Zt r.out'.ZI (ZM (b+1))
 else bif d.Zx.N != 0 then (Y6 N (⟨e,(⟨f,g,h,i⟩:ZL),j,(⟨k,l,m⟩:T6)⟩:T7) a.Zt 11).bind fun s =>
 c s.all' s.p'.Zt s.p'.ZD s.p'.ZE s.p'.ZF s.calls' s.out'.ZH s.out'.Zt s.out'.ZI (ZM (b+1))
 else c e f g h i j k l m (ZM (b+1))
 else c e f g h i j k l m (ZM (b+1))
def Hd (a:Int) (b:Int) (c:Int) (d:Int) (e:List ZL->ByteArray->(List ByteArray)->(List ZS)->(List ZJ)->(List ByteArray)->ByteArray->ByteArray->Int->Int->Int->Option T7) (f:Int) (g:List ZL) (h:ByteArray) (i:List ByteArray) (j:List ZS) (k:List ZJ) (l:List ByteArray) (m:ByteArray) (o:ByteArray) (p:Int):Option T7 :=
 bif f==2 then bif d==0 then bif a==2 then e g h i j k l m o p (ZM (c+1)) (ZM (d+1))
 else e g h i j k l m o p c (ZM (d+1))
 else bif d==1 then bif b==2 then e g h i j k l m o p (ZM (c+1)) (ZM (d+1))
 else e g h i j k l m o p c (ZM (d+1))
 else none
 else e g h i j k l m o p c (ZM (d+1))
def He (N:Nat) (a:ZS) (b:Int) (c:Int) (d:List ZL) (e:ByteArray) (f:List ByteArray) (g:List ZS) (h:List ZJ) (i:List ByteArray) (j:ByteArray) (k:ByteArray) (l:Int) (m:Int) (o:Int) (p:List ZL->ByteArray->(List ByteArray)->(List ZS)->(List ZJ)->(List ByteArray)->ByteArray->ByteArray->Int->Int->Int->Option T7) (q:Int) (r:Bool):Option T7 :=
 bif r then (Y6 N (⟨d,(⟨e,f,g,h⟩:ZL),i,(⟨j,k,l⟩:T6)⟩:T7) a.Zt 11).bind fun s =>
 Hd b c m o p q s.all' s.p'.Zt s.p'.ZD s.p'.ZE s.p'.ZF s.calls' s.out'.ZH s.out'.Zt s.out'.ZI
 else Hd b c m o p q d e f g h i j k l
def Hf (N:Nat) (a:ZS) (b:Int) (c:Int) (d:List ZL) (e:ByteArray) (f:List ByteArray) (g:List ZS) (h:List ZJ) (i:List ByteArray) (j:ByteArray) (k:ByteArray) (l:Int) (m:Int) (o:Int) (p:List ZL->ByteArray->(List ByteArray)->(List ZS)->(List ZJ)->(List ByteArray)->ByteArray->ByteArray->Int->Int->Int->Option T7) (q:Int) (r:ByteArray) (s:ByteArray) (t:Int):Option T7 :=
 bif q==3 then bif o==0 then He N a b c d e f g h i j k l m o p q (b != 2)
 else bif o==1 then He N a b c d e f g h i j k l m o p q (c != 2)
 else none
 else He N a b c d e f g h i j k l m o p q false
def Ty (N:Nat) (a:ZS) (b:Int) (c:List ZL->ByteArray->(List ByteArray)->(List ZS)->(List ZJ)->(List ByteArray)->ByteArray->ByteArray->Int->Int->Option T7) (d:YM) (e:Int) (f:Int):Nat->(List ZL)->ByteArray->(List ByteArray)->(List ZS)->(List ZJ)->(List ByteArray)->ByteArray->ByteArray->Int->Int->Int->Option T7
 | 0,_,_,_,_,_,_,_,_,_,_,_=>none
 | g+1,h,i,j,k,l,m,o,p,q,r,s =>
 bif decide (s < 2) then bif s==0 then Hf N a e f h i j k l m o p q r s (Ty N a b c d e f g) d.Zw.Zq d.Zw.Zv d.Zw.Field d.Zw.N
 else bif s==1 then Hf N a e f h i j k l m o p q r s (Ty N a b c d e f g) d.Zx.Zq d.Zx.Zv d.Zx.Field d.Zx.N
 else none
 else Dh N a b c d h i j k l m o p q r
def Zb7 (N:Nat) (a:ZS) (b:Int) (c:List ZL->ByteArray->(List ByteArray)->(List ZS)->(List ZJ)->(List ByteArray)->ByteArray->ByteArray->Int->Int->Option T7) (d:YM) (e:List ZL) (f:ByteArray) (g:List ByteArray) (h:List ZS) (i:List ZJ) (j:List ByteArray) (k:ByteArray) (l:ByteArray) (m:Int) (o:Int) (p:Int):Option T7 :=
 Ty N a b c d o p N e f g h i j k l m 0 0
def Hc (N:Nat) (a:ZS) (b:List ZL) (c:ByteArray) (d:List ByteArray) (e:List ZS) (f:List ZJ) (g:List ByteArray) (h:ByteArray) (i:ByteArray) (j:Int) (k:Int) (l:Int) (m:Int) (o:List ZL->ByteArray->(List ByteArray)->(List ZS)->(List ZJ)->(List ByteArray)->ByteArray->ByteArray->Int->Int->Int->Int->Option T7) (p:Int) (q:ByteArray) (r:ByteArray) (s:Int):Option T7 :=
 bif p==1 then o b c d e f g h i j k l (ZM (m+1))
 else (DS N (⟨b,(⟨c,d,e,f⟩:ZL),g,(⟨h,i,j⟩:T6)⟩:T7) a (⟨p,q,r,s⟩:Ys)).bind fun t =>
 bif m==0 then bif m==0 then bif t==0 then (Y6 N (⟨b,(⟨c,d,e,f⟩:ZL),g,(⟨h,i,j⟩:T6)⟩:T7) a.Zt 10).bind fun u =>
 o u.all' u.p'.Zt u.p'.ZD u.p'.ZE u.p'.ZF u.calls' u.out'.ZH u.out'.Zt u.out'.ZI t l (ZM (m+1))
 else o b c d e f g h i j t l (ZM (m+1))
 else bif m==1 then bif l==0 then (Y6 N (⟨b,(⟨c,d,e,f⟩:ZL),g,(⟨h,i,j⟩:T6)⟩:T7) a.Zt 10).bind fun v =>
 o v.all' v.p'.Zt v.p'.ZD v.p'.ZE v.p'.ZF v.calls' v.out'.ZH v.out'.Zt v.out'.ZI t l (ZM (m+1))
 else o b c d e f g h i j t l (ZM (m+1))
 else none
 else bif m==1 then bif m==0 then bif k==0 then (Y6 N (⟨b,(⟨c,d,e,f⟩:ZL),g,(⟨h,i,j⟩:T6)⟩:T7) a.Zt 10).bind fun w =>
 o w.all' w.p'.Zt w.p'.ZD w.p'.ZE w.p'.ZF w.calls' w.out'.ZH w.out'.Zt w.out'.ZI k t (ZM (m+1))
 else o b c d e f g h i j k t (ZM (m+1))
 else bif m==1 then bif t==0 then (Y6 N (⟨b,(⟨c,d,e,f⟩:ZL),g,(⟨h,i,j⟩:T6)⟩:T7) a.Zt 10).bind fun x =>
 o x.all' x.p'.Zt x.p'.ZD x.p'.ZE x.p'.ZF x.calls' x.out'.ZH x.out'.Zt x.out'.ZI k t (ZM (m+1))
 else o b c d e f g h i j k t (ZM (m+1))
 else none
 else none
def Si (N:Nat) (a:ZS) (b:Int) (c:List ZL->ByteArray->(List ByteArray)->(List ZS)->(List ZJ)->(List ByteArray)->ByteArray->ByteArray->Int->Int->Option T7) (d:YM):Nat->(List ZL)->ByteArray->(List ByteArray)->(List ZS)->(List ZJ)->(List ByteArray)->ByteArray->ByteArray->Int->Int->Int->Int->Option T7
 | 0,_,_,_,_,_,_,_,_,_,_,_,_=>none
 | e+1,f,g,h,i,j,k,l,m,o,p,q,r =>
 bif decide (r < 2) then bif r==0 then Hc N a f g h i j k l m o p q r (Si N a b c d e) d.Zw.Zq d.Zw.Zv d.Zw.Field d.Zw.N
 else bif r==1 then Hc N a f g h i j k l m o p q r (Si N a b c d e) d.Zx.Zq d.Zx.Zv d.Zx.Field d.Zx.N
 else none
 else Zb7 N a b c d f g h i j k l m o p q
def VA (N:Nat) (a:Int) (b:List ZL->ByteArray->(List ByteArray)->(List ZS)->(List ZJ)->(List ByteArray)->ByteArray->ByteArray->Int->Int->Option T7) (c:ZS):Nat->(List ZL)->ByteArray->(List ByteArray)->(List ZS)->(List ZJ)->(List ByteArray)->ByteArray->ByteArray->Int->Int->Option T7
 | 0,_,_,_,_,_,_,_,_,_,_=>none
 | d+1,e,f,g,h,i,j,k,l,m,o =>
 bif decide (o < (c.Zz.length:Int)) then (Z6 c.Zz o).bind fun p =>
 Si N c o (VA N a b c d) p N e f g h i j k l m 0 0 0
 else Dg a b e f g h i j k l m
def WG (N:Nat) (a:T7):Nat->(List ZL)->ByteArray->(List ByteArray)->(List ZS)->(List ZJ)->(List ByteArray)->ByteArray->ByteArray->Int->Int->Option T7
 | 0,_,_,_,_,_,_,_,_,_,_=>none
 | b+1,c,d,e,f,g,h,i,j,k,l =>
 bif decide (l < (a.p'.ZE.length:Int)) then (Z6 a.p'.ZE l).bind fun m =>
 VA N l (WG N a b) m N c d e f g h i j k 0
 else Df c d e f g h i j k
def De (N:Nat) (a:T7):Option T7 :=
 WG N a N a.all' a.p'.Zt a.p'.ZD a.p'.ZE a.p'.ZF a.calls' a.out'.ZH a.out'.Zt a.out'.ZI 0
def ZcH (N:Nat) (a:ZL) (b:ZL):Option Bool :=
 some (a.Zt.toList==b.Zt.toList)
def Zcy:Option Int :=
 some (-1)
def Me (N:Nat) (a:List ZL) (b:ZL):Nat->Int->Option Int
 | 0,_=>none
 | c+1,d =>
 bif decide (d < (a.length:Int)) then (Z6 a d).bind fun e =>
 (ZcH N e b).bind fun f =>
 bif f then some d
 else (Me N a b c) (ZM (d+1))
 else Zcy
def DN (N:Nat) (a:List ZL) (b:ZL):Option Int :=
 Me N a b N 0
def ZcI (a:List ByteArray):Option (List ByteArray) :=
 some a
def ZcJ (a:Int) (b:List ByteArray->Int->Option (List ByteArray)) (c:List ByteArray):Option (List ByteArray) :=
 b c (ZM (a+1))
def Mn (rc:List ZJ->Option (List ByteArray)) (a:Int) (b:List ByteArray->Int->Option (List ByteArray)) (c:ZJ):Nat->(List ByteArray)->Int->Option (List ByteArray)
 | 0,_,_=>none
 | d+1,e,f =>
 bif decide (f < (c.ZC.length:Int)) then (Z6 c.ZC f).bind fun g =>
 (rc g).bind fun h =>
 (YG e h).bind fun i =>
 (Mn rc a b c d) i (ZM (f+1))
 else ZcJ a b e
def Ht (N:Nat) (rc:List ZJ->Option (List ByteArray)) (a:Int) (b:List ByteArray->Int->Option (List ByteArray)) (c:ZJ) (d:List ByteArray):Option (List ByteArray) :=
 Mn rc a b c N d 0
def TC (N:Nat) (rc:List ZJ->Option (List ByteArray)) (a:List ZJ):Nat->(List ByteArray)->Int->Option (List ByteArray)
 | 0,_,_=>none
 | b+1,c,d =>
 bif decide (d < (a.length:Int)) then (Z6 a d).bind fun e =>
 bif e.Zq==6 then (YG c ([e.Zt]:List ByteArray)).bind fun f =>
 Ht N rc d (TC N rc a b) e f
 else Ht N rc d (TC N rc a b) e c
 else ZcI c
def DY (N:Nat) (rc:List ZJ->Option (List ByteArray)) (a:List ZJ):Option (List ByteArray) :=
 TC N rc a N ([]:List ByteArray) 0
def ZcK:Nat->(List ZJ)->Option (List ByteArray)
 | 0,_=>none
 | N+1,a0=>DY N (ZcK N) a0
def Mm (N:Nat) (a:List ZJ):Option (List ByteArray):=ZcK N a
def z70 (N:Nat) (a:List ByteArray):Option (List ByteArray):=bif decide ((a.length:Int)<=4611686018427387903) then some (TX a) else none
def z71 (N:Nat) (a:List ByteArray):Option (List ByteArray):=bif decide ((a.length:Int)<=4611686018427387903) then some (U5 a) else none
def ZcN (N:Nat) (a:ZL) (b:ByteArray):Option Bool :=
 some (a.Zt.toList==b.toList)
def Zcz:Option Int :=
 some (-1)
def Mf (N:Nat) (a:List ZL) (b:ByteArray):Nat->Int->Option Int
 | 0,_=>none
 | c+1,d =>
 bif decide (d < (a.length:Int)) then (Z6 a d).bind fun e =>
 (ZcN N e b).bind fun f =>
 bif f then some d
 else (Mf N a b c) (ZM (d+1))
 else Zcz
def DO (N:Nat) (a:List ZL) (b:ByteArray):Option Int :=
 Mf N a b N 0
def Da (N:Nat) (a:List ZL) (b:ByteArray):Option Bool :=
 (DO N a b).bind fun c =>
 some (decide (c>=0))
def Mo (N:Nat) (a:ByteArray) (b:T7):Option Bool :=
 (Da N b.all' a).bind fun c =>
 some (!c)
def Zbf:Option Int :=
 some (-1)
def Px (N:Nat) (a:List ByteArray) (b:T7):Nat->Int->Option Int
 | 0,_=>none
 | c+1,d =>
 bif decide (d < (a.length:Int)) then (Z6 a d).bind fun e =>
 (Mo N e b).bind fun f =>
 bif f then some d
 else (Px N a b c) (ZM (d+1))
 else Zbf
def GP (N:Nat) (a:List ByteArray) (b:T7):Option Int :=
 Px N a b N 0
def ZcM (a:List ByteArray) (b:Int):Option (List ByteArray) :=
 (lsl a (some b) none).bind fun c =>
 (MB (str []) a (some b) none).bind fun d =>
 (lsl d none (some b)).bind fun e =>
 some e
def Qx (N:Nat) (a:T7):Nat->(List ByteArray)->Int->Int->Option (List ByteArray)
 | 0,_,_,_=>none
 | b+1,c,d,e =>
 bif decide (e < (c.length:Int)) then (Z6 c e).bind fun f =>
 (Mo N f a).bind fun g =>
 bif !g then (Z6 c d).bind fun h =>
 (Qx N a b) (XK c d f) (ZM (d+1)) (ZM (e+1))
 else (Qx N a b) c d (ZM (e+1))
 else ZcM c d
def DZ (N:Nat) (a:List ByteArray) (b:T7):Option (List ByteArray) :=
 (GP N a b).bind fun c =>
 bif c==(-1) then some a
 else Qx N b N a c (ZM (c+1))
def Zb9 (N:Nat) (a:T7) (b:List ByteArray):Option T7 :=
 bif decide ((b.length:Int) > 0) then (Y6 N a a.p'.Zt 6).bind fun c =>
 some c
 else some a
def Hh (N:Nat) (a:T7) (b:Int) (c:List ByteArray->Int->Option T7) (d:List ByteArray):Option T7 :=
 (z70 N d).bind fun e =>
 (z71 N e).bind fun f =>
 (DZ N f a).bind fun g =>
 c g (ZM (b+1))
def Tz (N:Nat) (a:T7) (b:List ByteArray) (c:Int) (d:List ByteArray->Int->Option T7):Nat->(List ByteArray)->Int->Option T7
 | 0,_,_=>none
 | e+1,f,g =>
 bif decide (g < (a.all'.length:Int)) then (Z6 a.all' g).bind fun h =>
 (DN N a.all' h).bind fun i =>
 bif i==g then (W7 N b h.Zt).bind fun j =>
 bif j then (Mm N h.ZF).bind fun k =>
 (YG f k).bind fun l =>
 (Tz N a b c d e) l (ZM (g+1))
 else (Tz N a b c d e) f (ZM (g+1))
 else (Tz N a b c d e) f (ZM (g+1))
 else Hh N a c d f
def Sj (N:Nat) (a:T7):Nat->(List ByteArray)->Int->Option T7
 | 0,_,_=>none
 | b+1,c,d =>
 bif decide (d < 5) then Tz N a c d (Sj N a b) N ([]:List ByteArray) 0
 else Zb9 N a c
def Dn (N:Nat) (a:T7):Option T7 :=
 Sj N a N ([a.p'.Zt]:List ByteArray) 0
def Ze8:Option T6 :=
 some (⟨(str []),(str []),0⟩:T6)
def LF (N:Nat) (a:Int) (b:Int->Option T6) (c:ZL) (d:List ZL) (e:ByteArray) (f:List ByteArray) (g:List ZS) (h:List ZJ) (i:List ByteArray) (j:ByteArray) (k:ByteArray) (l:Int):Option T6 :=
 (Db N (⟨d,(⟨e,f,g,h⟩:ZL),i,(⟨j,k,l⟩:T6)⟩:T7)).bind fun m =>
 (De N m).bind fun o =>
 (Vf N o c.ZF ([]:List T8)).bind fun p =>
 (Dn N p).bind fun q =>
 bif q.out'.ZI != 0 then some q.out'
 else b (ZM (a+1))
def Qd (N:Nat) (a:Int) (b:Int->Option T6) (c:ZL):Nat->(List ZL)->ByteArray->(List ByteArray)->(List ZS)->(List ZJ)->(List ByteArray)->ByteArray->ByteArray->Int->Int->Option T6
 | 0,_,_,_,_,_,_,_,_,_,_=>none
 | d+1,e,f,g,h,i,j,k,l,m,o =>
 bif decide (o < (c.ZD.length:Int)) then (L8 N c.ZD o).bind fun p =>
 bif p then (Z6 c.ZD o).bind fun q =>
 (Y6 N (⟨e,(⟨f,g,h,i⟩:ZL),j,(⟨k,l,m⟩:T6)⟩:T7) q 9).bind fun r =>
 (Qd N a b c d) r.all' r.p'.Zt r.p'.ZD r.p'.ZE r.p'.ZF r.calls' r.out'.ZH r.out'.Zt r.out'.ZI (ZM (o+1))
 else (Qd N a b c d) e f g h i j k l m (ZM (o+1))
 else LF N a b c e f g h i j k l m
def Qc (N:Nat) (a:Int) (b:Int->Option T6) (c:ZL) (d:List ZL) (e:ByteArray) (f:List ByteArray) (g:List ZS) (h:List ZJ) (i:List ByteArray) (j:ByteArray) (k:ByteArray) (l:Int):Option T6 :=
 Qd N a b c N d e f g h i j k l 0
def V2 (N:Nat) (a:List ZL):Nat->Int->Option T6
 | 0,_=>none
 | b+1,c =>
 bif decide (c < (a.length:Int)) then (Z6 a c).bind fun d =>
 (lsl a none (some c)).bind fun e =>
 (L7 N e d).bind fun f =>
 bif f then (Y6 N (⟨a,d,([]:List ByteArray),(⟨(str []),(str []),0⟩:T6)⟩:T7) d.Zt 9).bind fun g =>
 Qc N c (V2 N a b) d g.all' g.p'.Zt g.p'.ZD g.p'.ZE g.p'.ZF g.calls' g.out'.ZH g.out'.Zt g.out'.ZI
 else Qc N c (V2 N a b) d a d.Zt d.ZD d.ZE d.ZF ([]:List ByteArray) (str []) (str []) 0
 else Ze8
def Qb (N:Nat) (a:List ZL):Option T6 :=
 (Ra N a).bind fun b =>
 bif !b then some (⟨(str []),(str []),1⟩:T6)
 else V2 N a N 0
def ZcW (a:List ByteArray):Option (List ByteArray) :=
 some a
def ZcX (a:Int) (b:List ByteArray->Int->Option (List ByteArray)) (c:List ByteArray):Option (List ByteArray) :=
 b c (ZM (a+1))
def Rs (rc:List ZJ->(List ByteArray)->Option (List ByteArray)) (a:Int) (b:List ByteArray->Int->Option (List ByteArray)) (c:ZJ):Nat->(List ByteArray)->Int->Option (List ByteArray)
 | 0,_,_=>none
 | d+1,e,f =>
 bif decide (f < (c.ZC.length:Int)) then (Z6 c.ZC f).bind fun g =>
 (rc g e).bind fun h =>
 (Rs rc a b c d) h (ZM (f+1))
 else ZcX a b e
def D9 (N:Nat) (rc:List ZJ->(List ByteArray)->Option (List ByteArray)) (a:Int) (b:List ByteArray->Int->Option (List ByteArray)) (c:ZJ) (d:List ByteArray):Option (List ByteArray) :=
 Rs rc a b c N d 0
def Ba (N:Nat) (rc:List ZJ->(List ByteArray)->Option (List ByteArray)) (a:Int) (b:List ByteArray->Int->Option (List ByteArray)) (c:ZJ) (d:List ByteArray) (e:Bool):Option (List ByteArray) :=
 bif e then (YG d c.To).bind fun f =>
 D9 N rc a b c f
 else D9 N rc a b c d
def Bb (N:Nat) (rc:List ZJ->(List ByteArray)->Option (List ByteArray)) (a:Int) (b:List ByteArray->Int->Option (List ByteArray)) (c:ZJ) (d:List ByteArray):Option (List ByteArray) :=
 bif c.Zq==1 then Ba N rc a b c d true
 else Ba N rc a b c d (c.Zq==6)
def Mt (N:Nat) (rc:List ZJ->(List ByteArray)->Option (List ByteArray)) (a:List ByteArray) (b:Int) (c:List ByteArray->Int->Option (List ByteArray)) (d:ZJ) (e:Bool):Option (List ByteArray) :=
 bif e then (YG a ([d.ZA]:List ByteArray)).bind fun f =>
 Bb N rc b c d f
 else Bb N rc b c d a
def V8 (N:Nat) (rc:List ZJ->(List ByteArray)->Option (List ByteArray)) (a:List ZJ):Nat->(List ByteArray)->Int->Option (List ByteArray)
 | 0,_,_=>none
 | b+1,c,d =>
 bif decide (d < (a.length:Int)) then (Z6 a d).bind fun e =>
 bif e.Zq==1 then Mt N rc c d (V8 N rc a b) e true
 else Mt N rc c d (V8 N rc a b) e (e.Zq==2)
 else ZcW c
def D8 (N:Nat) (rc:List ZJ->(List ByteArray)->Option (List ByteArray)) (a:List ZJ) (b:List ByteArray):Option (List ByteArray) :=
 V8 N rc a N b 0
def ZcY:Nat->(List ZJ)->(List ByteArray)->Option (List ByteArray)
 | 0,_,_=>none
 | N+1,a0,a1=>D8 N (ZcY N) a0 a1
def Ms (N:Nat) (a:List ZJ) (b:List ByteArray):Option (List ByteArray):=ZcY N a b
def Zcd (a:List ByteArray):Option (List ByteArray) :=
 some a
def Qr (N:Nat) (a:List ByteArray) (b:List ByteArray):Nat->(List ByteArray)->Int->Option (List ByteArray)
 | 0,_,_=>none
 | c+1,d,e =>
 bif decide (e < (a.length:Int)) then (Z6 a e).bind fun f =>
 (W7 N b f).bind fun g =>
 bif g then (YG d ([f]:List ByteArray)).bind fun h =>
 (Qr N a b c) h (ZM (e+1))
 else (Qr N a b c) d (ZM (e+1))
 else Zcd d
def Dr (N:Nat) (a:List ByteArray) (b:List ZJ):Option (List ByteArray) :=
 (Ms N b ([]:List ByteArray)).bind fun c =>
 Qr N a c N ([]:List ByteArray) 0
def Zcb (a:(List (ByteArray × Bool))):Option (Bool × (List (ByteArray × Bool))) :=
 some (true,a)
def Zcc (a:Int) (b:(List (ByteArray × Bool))->Int->Option (Bool × (List (ByteArray × Bool)))) (c:(List (ByteArray × Bool))):Option (Bool × (List (ByteArray × Bool))) :=
 b c (ZM (a+1))
def Dp (rd:List ZJ->T2->(List (ByteArray × Bool))->ZL->Option (Bool × (List (ByteArray × Bool)))) (a:T2) (b:ZL) (c:(List (ByteArray × Bool))) (d:Int) (e:(List (ByteArray × Bool))->(List (ByteArray × Bool))->Int->Option (Bool × (List (ByteArray × Bool)))) (f:List ZJ) (g:(List (ByteArray × Bool))):Option (Bool × (List (ByteArray × Bool))) :=
 (rd f a c b).bind fun h =>
 bif !h.1 then some (false,h.2)
 else e h.2 g (ZM (d+1))
def Rh (rd:List ZJ->T2->(List (ByteArray × Bool))->ZL->Option (Bool × (List (ByteArray × Bool)))) (a:T2) (b:ZL) (c:(List (ByteArray × Bool))) (d:Int) (e:(List (ByteArray × Bool))->(List (ByteArray × Bool))->Int->Option (Bool × (List (ByteArray × Bool)))) (f:List ZJ) (g:List ByteArray):Nat->(List (ByteArray × Bool))->Int->Option (Bool × (List (ByteArray × Bool)))
 | 0,_,_=>none
 | h+1,i,j =>
 bif decide (j < (g.length:Int)) then (Z6 g j).bind fun k =>
 (some ((YS i k).getD false)).bind fun l =>
 bif l then some (false,c)
 else (Rh rd a b c d e f g h) (Xo i k true) (ZM (j+1))
 else Dp rd a b c d e f i
def Ur (N:Nat) (rd:List ZJ->T2->(List (ByteArray × Bool))->ZL->Option (Bool × (List (ByteArray × Bool)))) (a:T2) (b:ZL) (c:Int) (d:(List (ByteArray × Bool))->Int->Option (Bool × (List (ByteArray × Bool)))) (e:ZJ):Nat->(List (ByteArray × Bool))->(List (ByteArray × Bool))->Int->Option (Bool × (List (ByteArray × Bool)))
 | 0,_,_,_=>none
 | f+1,g,h,i =>
 bif decide (i < (e.ZC.length:Int)) then (Z6 e.ZC i).bind fun j =>
 bif e.Zq==5 then (Dr N b.ZD j).bind fun k =>
 Rh rd a b g i (Ur N rd a b c d e f) j k N h 0
 else (rd j a g b).bind fun l =>
 bif !l.1 then some (false,l.2)
 else (Ur N rd a b c d e f) l.2 h (ZM (i+1))
 else Zcc c d g
def PT (N:Nat) (rd:List ZJ->T2->(List (ByteArray × Bool))->ZL->Option (Bool × (List (ByteArray × Bool)))) (a:T2) (b:ZL) (c:Int) (d:(List (ByteArray × Bool))->Int->Option (Bool × (List (ByteArray × Bool)))) (e:ZJ) (f:(List (ByteArray × Bool))) (g:Bool):Option (Bool × (List (ByteArray × Bool))) :=
 bif g then some (false,f)
 else Ur N rd a b c d e N f ([]:(List (ByteArray × Bool))) 0
def VB (N:Nat) (rc:T2->ByteArray->(List (ByteArray × Bool))->Option (Bool × (List (ByteArray × Bool)))) (rd:List ZJ->T2->(List (ByteArray × Bool))->ZL->Option (Bool × (List (ByteArray × Bool)))) (a:List ZJ) (b:T2) (c:ZL):Nat->(List (ByteArray × Bool))->Int->Option (Bool × (List (ByteArray × Bool)))
 | 0,_,_=>none
 | d+1,e,f =>
 bif decide (f < (a.length:Int)) then (Z6 a f).bind fun g =>
 bif g.Zq==6 then (rc b g.Zt e).bind fun h =>
 PT N rd b c f (VB N rc rd a b c d) g h.2 (!h.1)
 else PT N rd b c f (VB N rc rd a b c d) g e false
 else Zcb e
def Do (N:Nat) (rc:T2->ByteArray->(List (ByteArray × Bool))->Option (Bool × (List (ByteArray × Bool)))) (rd:List ZJ->T2->(List (ByteArray × Bool))->ZL->Option (Bool × (List (ByteArray × Bool)))) (a:List ZJ) (b:T2) (c:(List (ByteArray × Bool))) (d:ZL):Option (Bool × (List (ByteArray × Bool))) :=
 VB N rc rd a b d N c 0
def US (rc:T2->ByteArray->(List (ByteArray × Bool))->Option (Bool × (List (ByteArray × Bool)))):Nat->(List ZJ)->T2->(List (ByteArray × Bool))->ZL->Option (Bool × (List (ByteArray × Bool)))
 | 0,_,_,_,_=>none
 | N+1,a0,a1,a2,a3=>Do N rc (US rc N) a0 a1 a2 a3
def ZfI (N:Nat) (rc:T2->ByteArray->(List (ByteArray × Bool))->Option (Bool × (List (ByteArray × Bool)))) (a:List ZJ) (b:T2) (c:(List (ByteArray × Bool))) (d:ZL):Option (Bool × (List (ByteArray × Bool))):=US rc N a b c d
def LR (N:Nat) (rc:T2->ByteArray->(List (ByteArray × Bool))->Option (Bool × (List (ByteArray × Bool)))) (a:T2) (b:ByteArray) (c:(List (ByteArray × Bool))):Option (Bool × (List (ByteArray × Bool))) :=
 (some ((YS c b).getD false)).bind fun d =>
 bif d then some (true,c)
 else (some ((YS a.all' b).getD (⟨(str []),([]:List ByteArray),([]:List ZS),([]:List ZJ)⟩:ZL))).bind fun e =>
 (ZfI N rc e.ZF a (Xo c b true) e).bind fun f =>
 some (f.1,f.2)
def PI:Nat->T2->ByteArray->(List (ByteArray × Bool))->Option (Bool × (List (ByteArray × Bool)))
 | 0,_,_,_=>none
 | N+1,a0,a1,a2=>LR N (PI N) a0 a1 a2
def z16 (N:Nat) (a:T2) (b:ByteArray) (c:(List (ByteArray × Bool))):Option (Bool × (List (ByteArray × Bool))):=PI N a b c
def Hj (N:Nat) (a:List ByteArray):Option (List ByteArray) :=
 (YG ([]:List ByteArray) a).bind fun b =>
 some b
def Bc (N:Nat) (a:List T0):Option (List T0) :=
 (YG ([]:List T0) a).bind fun b =>
 some b
def Qz (N:Nat) (a:Ys) (b:T3):Option Ys :=
 bif !(a.Zv.toList==(str []).toList) then (Yg b.head' a.Zv).bind fun c =>
 some (⟨a.Zq,c,a.Field,a.N⟩:Ys)
 else some a
def Ds (a:List ZS):Option (List ZS) :=
 some a
def PU (a:List ZS) (b:Int) (c:List ZS->Int->Option (List ZS)) (d:ByteArray) (e:List T0) (f:List YM):Option (List ZS) :=
 (YG a ([(⟨d,e,f⟩:ZS)]:List ZS)).bind fun g =>
 c g (ZM (b+1))
def Sk (N:Nat) (a:T3) (b:List ZS) (c:Int) (d:List ZS->Int->Option (List ZS)) (e:ZS) (f:ByteArray) (g:List T0):Nat->(List YM)->Int->Option (List ZS)
 | 0,_,_=>none
 | h+1,i,j =>
 bif decide (j < (e.Zz.length:Int)) then (Z6 e.Zz j).bind fun k =>
 (Qz N k.Zw a).bind fun l =>
 (Qz N k.Zx a).bind fun m =>
 (YG i ([(⟨l,k.Op,m⟩:YM)]:List YM)).bind fun o =>
 (Sk N a b c d e f g h) o (ZM (j+1))
 else PU b c d f g i
def Vg (N:Nat) (a:T3) (b:List ZS):Nat->(List ZS)->Int->Option (List ZS)
 | 0,_,_=>none
 | c+1,d,e =>
 bif decide (e < (b.length:Int)) then (Z6 b e).bind fun f =>
 (Yg a.head' f.Zt).bind fun g =>
 (Bc N f.Zy).bind fun h =>
 Sk N a d e (Vg N a b c) f g h N ([]:List YM) 0
 else Ds d
def z37 (N:Nat) (a:T3) (b:List ZS):Option (List ZS) :=
 Vg N a b N ([]:List ZS) 0
def Hw (N:Nat) (a:T3) (b:ByteArray):Option ByteArray :=
 (some ((YS a.roles' b).getD (str []))).bind fun c =>
 bif (YS a.roles' b).isSome then some c
 else some b
def Zch (a:List ZJ):Option (List ZJ) :=
 some a
def Dv (a:List ZJ) (b:Int) (c:List ZJ->Int->Option (List ZJ)) (d:ZJ) (e:ByteArray) (f:List ByteArray) (g:ByteArray) (h:(List (List ZJ))):Option (List ZJ) :=
 (YG a ([(⟨d.Zq,e,f,g,d.As,d.ZB,h⟩:ZJ)]:List ZJ)).bind fun i =>
 c i (ZM (b+1))
def P0 (rc:T3->(List ZJ)->Option (List ZJ)) (a:T3) (b:List ZJ) (c:Int) (d:List ZJ->Int->Option (List ZJ)) (e:ZJ) (f:ByteArray) (g:List ByteArray) (h:ByteArray):Nat->(List (List ZJ))->Int->Option (List ZJ)
 | 0,_,_=>none
 | i+1,j,k =>
 bif decide (k < (e.ZC.length:Int)) then (Z6 e.ZC k).bind fun l =>
 (rc a l).bind fun m =>
 (YG j ([m]:List (List ZJ))).bind fun o =>
 (P0 rc a b c d e f g h i) o (ZM (k+1))
 else Dv b c d e f g h j
def Hk (N:Nat) (rc:T3->(List ZJ)->Option (List ZJ)) (a:T3) (b:List ZJ) (c:Int) (d:List ZJ->Int->Option (List ZJ)) (e:ZJ) (f:ByteArray) (g:List ByteArray) (h:ByteArray):Option (List ZJ) :=
 P0 rc a b c d e f g h N ([]:List (List ZJ)) 0
def PZ (N:Nat) (rc:T3->(List ZJ)->Option (List ZJ)) (a:T3) (b:List ZJ) (c:Int) (d:List ZJ->Int->Option (List ZJ)) (e:ZJ) (f:ByteArray) (g:List ByteArray) (h:Bool):Option (List ZJ) :=
 bif h then (Yg a.head' e.Zt).bind fun i =>
 Hk N rc a b c d e f g i
 else Hk N rc a b c d e f g e.Zt
def Dw (N:Nat) (rc:T3->(List ZJ)->Option (List ZJ)) (a:T3) (b:List ZJ) (c:Int) (d:List ZJ->Int->Option (List ZJ)) (e:ZJ) (f:ByteArray) (g:List ByteArray):Option (List ZJ) :=
 bif e.Zq==1 then PZ N rc a b c d e f g true
 else bif e.Zq==3 then PZ N rc a b c d e f g true
 else PZ N rc a b c d e f g (e.Zq==4)
def P1 (N:Nat) (rc:T3->(List ZJ)->Option (List ZJ)) (a:T3) (b:List ZJ) (c:Int) (d:List ZJ->Int->Option (List ZJ)) (e:ZJ) (f:ByteArray):Nat->(List ByteArray)->Int->Option (List ZJ)
 | 0,_,_=>none
 | g+1,h,i =>
 bif decide (i < (e.To.length:Int)) then (Z6 e.To i).bind fun j =>
 (Hw N a j).bind fun k =>
 (YG h ([k]:List ByteArray)).bind fun l =>
 (P1 N rc a b c d e f g) l (ZM (i+1))
 else Dw N rc a b c d e f h
def Hl (N:Nat) (rc:T3->(List ZJ)->Option (List ZJ)) (a:T3) (b:List ZJ) (c:Int) (d:List ZJ->Int->Option (List ZJ)) (e:ZJ) (f:ByteArray):Option (List ZJ) :=
 P1 N rc a b c d e f N ([]:List ByteArray) 0
def XX (N:Nat) (rc:T3->(List ZJ)->Option (List ZJ)) (a:T3) (b:List ZJ):Nat->(List ZJ)->Int->Option (List ZJ)
 | 0,_,_=>none
 | c+1,d,e =>
 bif decide (e < (b.length:Int)) then (Z6 b e).bind fun f =>
 bif !(f.ZA.toList==(str []).toList) then (Hw N a f.ZA).bind fun g =>
 Hl N rc a d e (XX N rc a b c) f g
 else Hl N rc a d e (XX N rc a b c) f f.ZA
 else Zch d
def Du (N:Nat) (rc:T3->(List ZJ)->Option (List ZJ)) (a:T3) (b:List ZJ):Option (List ZJ) :=
 XX N rc a b N ([]:List ZJ) 0
def Wb:Nat->T3->(List ZJ)->Option (List ZJ)
 | 0,_,_=>none
 | N+1,a0,a1=>Du N (Wb N) a0 a1
def z39 (N:Nat) (a:T3) (b:List ZJ):Option (List ZJ):=Wb N a b
def Zci (a:Int):Option Int :=
 some a
def Zcj (a:Int) (b:Int->Int->Option Int) (c:Int):Option Int :=
 b c (ZM (a+1))
def Qs (rc:List ZJ->Option Int) (a:Int) (b:Int->Int->Option Int) (c:ZJ):Nat->Int->Int->Option Int
 | 0,_,_=>none
 | d+1,e,f =>
 bif decide (f < (c.ZC.length:Int)) then (Z6 c.ZC f).bind fun g =>
 (rc g).bind fun h =>
 (Qs rc a b c d) (ZM (e+h)) (ZM (f+1))
 else Zcj a b e
def Ri (N:Nat) (rc:List ZJ->Option Int) (a:List ZJ):Nat->Int->Int->Option Int
 | 0,_,_=>none
 | b+1,c,d =>
 bif decide (d < (a.length:Int)) then (Z6 a d).bind fun e =>
 Qs rc d (Ri N rc a b) e N c 0
 else Zci c
def Dx (N:Nat) (rc:List ZJ->Option Int) (a:List ZJ):Option Int :=
 Ri N rc a N (a.length:Int) 0
def Rj:Nat->(List ZJ)->Option Int
 | 0,_=>none
 | N+1,a0=>Dx N (Rj N) a0
def z40 (N:Nat) (a:List ZJ):Option Int:=Rj N a
def Zce (a:(List (ByteArray × ZL))) (b:(List (ByteArray × ZL))) (c:Bool) (d:ByteArray) (e:List ByteArray) (f:List ZS) (g:List ZJ) (h:List ZJ):Option ((List ZJ) × T2 × Bool × ZL) :=
 some (h,(⟨a,b⟩:T2),c,(⟨d,e,f,g⟩:ZL))
def Sl (N:Nat) (a:Int) (b:(List (ByteArray × ZL))->(List (ByteArray × ZL))->Bool->ByteArray->(List ByteArray)->(List ZS)->(List ZJ)->(List ZJ)->Int->Option ((List ZJ) × T2 × Bool × ZL)) (c:(List (ByteArray × ZL))) (d:(List (ByteArray × ZL))) (e:Bool) (f:ByteArray) (g:List ByteArray) (h:List ZS) (i:List ZJ) (j:List ZJ):Option ((List ZJ) × T2 × Bool × ZL) :=
 (z40 N j).bind fun k =>
 bif decide (k > 300) then some (([]:List ZJ),(⟨c,d⟩:T2),false,(⟨f,g,h,i⟩:ZL))
 else bif decide ((h.length:Int) > 40) then some (([]:List ZJ),(⟨c,d⟩:T2),false,(⟨f,g,h,i⟩:ZL))
 else bif !e then some (([]:List ZJ),(⟨c,d⟩:T2),e,(⟨f,g,h,i⟩:ZL))
 else b c d e f g h i j (ZM (a+1))
def Dt (N:Nat) (a:ByteArray) (b:List ByteArray) (c:List ZS) (d:List ZJ) (e:List ZJ) (f:Int) (g:(List (ByteArray × ZL))->(List (ByteArray × ZL))->Bool->ByteArray->(List ByteArray)->(List ZS)->(List ZJ)->(List ZJ)->Int->Option ((List ZJ) × T2 × Bool × ZL)) (h:ZL × Bool × T2) (i:Bool) (j:ByteArray) (k:(List (ByteArray × ByteArray))):Option ((List ZJ) × T2 × Bool × ZL) :=
 (z37 N (⟨k,j⟩:T3) h.1.ZE).bind fun l =>
 (YG c l).bind fun m =>
 (z39 N (⟨k,j⟩:T3) h.1.ZF).bind fun o =>
 (YG e o).bind fun p =>
 Sl N f g h.2.2.all' h.2.2.done' i a b m d p
def PX (N:Nat) (a:ByteArray) (b:List ByteArray) (c:List ZS) (d:List ZJ) (e:List ZJ) (f:Int) (g:(List (ByteArray × ZL))->(List (ByteArray × ZL))->Bool->ByteArray->(List ByteArray)->(List ZS)->(List ZJ)->(List ZJ)->Int->Option ((List ZJ) × T2 × Bool × ZL)) (h:ZJ) (i:ZL × Bool × T2) (j:Bool) (k:ByteArray):Nat->(List (ByteArray × ByteArray))->Int->Option ((List ZJ) × T2 × Bool × ZL)
 | 0,_,_=>none
 | l+1,m,o =>
 bif decide (o < (i.1.ZD.length:Int)) then (Z6 i.1.ZD o).bind fun p =>
 (Z6 h.To o).bind fun q =>
 (PX N a b c d e f g h i j k l) (Xo m p q) (ZM (o+1))
 else Dt N a b c d e f g i j k m
def PV (N:Nat) (a:ByteArray) (b:List ByteArray) (c:List ZS) (d:List ZJ) (e:List ZJ) (f:Int) (g:(List (ByteArray × ZL))->(List (ByteArray × ZL))->Bool->ByteArray->(List ByteArray)->(List ZS)->(List ZJ)->(List ZJ)->Int->Option ((List ZJ) × T2 × Bool × ZL)) (h:ZJ) (i:ZL × Bool × T2) (j:Bool):Option ((List ZJ) × T2 × Bool × ZL) :=
 bif !j then some (([]:List ZJ),i.2.2,j,(⟨a,b,c,d⟩:ZL))
 else (Yg h.As (str [46])).bind fun k =>
 PX N a b c d e f g h i j k N ([]:(List (ByteArray × ByteArray))) 0
def Zcf (N:Nat) (a:Int) (b:(List (ByteArray × ZL))->(List (ByteArray × ZL))->Bool->ByteArray->(List ByteArray)->(List ZS)->(List ZJ)->(List ZJ)->Int->Option ((List ZJ) × T2 × Bool × ZL)) (c:(List (ByteArray × ZL))) (d:(List (ByteArray × ZL))) (e:Bool) (f:ByteArray) (g:List ByteArray) (h:List ZS) (i:List ZJ) (j:List ZJ):Option ((List ZJ) × T2 × Bool × ZL) :=
 Sl N a b c d e f g h i j
def PY (N:Nat) (rd:List ZJ->T2->Bool->ZL->Option ((List ZJ) × T2 × Bool × ZL)) (a:Int) (b:(List (ByteArray × ZL))->(List (ByteArray × ZL))->Bool->ByteArray->(List ByteArray)->(List ZS)->(List ZJ)->(List ZJ)->Int->Option ((List ZJ) × T2 × Bool × ZL)) (c:ZJ):Nat->(List (ByteArray × ZL))->(List (ByteArray × ZL))->Bool->ByteArray->(List ByteArray)->(List ZS)->(List ZJ)->(List ZJ)->Int->Option ((List ZJ) × T2 × Bool × ZL)
 | 0,_,_,_,_,_,_,_,_,_=>none
 | d+1,e,f,g,h,i,j,k,l,m =>
 bif decide (m < (c.ZC.length:Int)) then (Z6 c.ZC m).bind fun o =>
 (rd o (⟨e,f⟩:T2) g (⟨h,i,j,k⟩:ZL)).bind fun p =>
 (YG l p.1).bind fun q =>
 (PY N rd a b c d) p.2.1.all' p.2.1.done' p.2.2.1 p.2.2.2.Zt p.2.2.2.ZD p.2.2.2.ZE p.2.2.2.ZF q (ZM (m+1))
 else Zcf N a b e f g h i j k l
def Zcg (N:Nat) (a:List ZJ) (b:Int) (c:(List (ByteArray × ZL))->(List (ByteArray × ZL))->Bool->ByteArray->(List ByteArray)->(List ZS)->(List ZJ)->(List ZJ)->Int->Option ((List ZJ) × T2 × Bool × ZL)) (d:ZJ) (e:List ByteArray) (f:(List (ByteArray × ZL))) (g:(List (ByteArray × ZL))) (h:Bool) (i:ByteArray) (j:List ByteArray) (k:List ZS) (l:List ZJ) (m:(List (List ZJ))):Option ((List ZJ) × T2 × Bool × ZL) :=
 (YG a ([(⟨d.Zq,d.ZA,e,d.Zt,d.As,d.ZB,m⟩:ZJ)]:List ZJ)).bind fun o =>
 Sl N b c f g h i j k l o
def PW (N:Nat) (rd:List ZJ->T2->Bool->ZL->Option ((List ZJ) × T2 × Bool × ZL)) (a:List ZJ) (b:Int) (c:(List (ByteArray × ZL))->(List (ByteArray × ZL))->Bool->ByteArray->(List ByteArray)->(List ZS)->(List ZJ)->(List ZJ)->Int->Option ((List ZJ) × T2 × Bool × ZL)) (d:ZJ) (e:List ByteArray):Nat->(List (ByteArray × ZL))->(List (ByteArray × ZL))->Bool->ByteArray->(List ByteArray)->(List ZS)->(List ZJ)->(List (List ZJ))->Int->Option ((List ZJ) × T2 × Bool × ZL)
 | 0,_,_,_,_,_,_,_,_,_=>none
 | f+1,g,h,i,j,k,l,m,o,p =>
 bif decide (p < (d.ZC.length:Int)) then (Z6 d.ZC p).bind fun q =>
 (rd q (⟨g,h⟩:T2) i (⟨j,k,l,m⟩:ZL)).bind fun r =>
 (YG o ([r.1]:List (List ZJ))).bind fun s =>
 (PW N rd a b c d e f) r.2.1.all' r.2.1.done' r.2.2.1 r.2.2.2.Zt r.2.2.2.ZD r.2.2.2.ZE r.2.2.2.ZF s (ZM (p+1))
 else Zcg N a b c d e g h i j k l m o
def XW (N:Nat) (rc:T2->ByteArray->Option (ZL × Bool × T2)) (rd:List ZJ->T2->Bool->ZL->Option ((List ZJ) × T2 × Bool × ZL)) (a:List ZJ):Nat->(List (ByteArray × ZL))->(List (ByteArray × ZL))->Bool->ByteArray->(List ByteArray)->(List ZS)->(List ZJ)->(List ZJ)->Int->Option ((List ZJ) × T2 × Bool × ZL)
 | 0,_,_,_,_,_,_,_,_,_=>none
 | b+1,c,d,e,f,g,h,i,j,k =>
 bif decide (k < (a.length:Int)) then (Z6 a k).bind fun l =>
 bif l.Zq==6 then (rc (⟨c,d⟩:T2) l.Zt).bind fun m =>
 bif e then PV N f g h i j k (XW N rc rd a b) l m m.2.1
 else PV N f g h i j k (XW N rc rd a b) l m false
 else bif l.Zq==5 then PY N rd k (XW N rc rd a b) l N c d e f g h i j 0
 else (Hj N l.To).bind fun o =>
 PW N rd j k (XW N rc rd a b) l o N c d e f g h i ([]:List (List ZJ)) 0
 else Zce c d e f g h i j
def ZfK (N:Nat) (rc:T2->ByteArray->Option (ZL × Bool × T2)) (rd:List ZJ->T2->Bool->ZL->Option ((List ZJ) × T2 × Bool × ZL)) (a:List ZJ) (b:T2) (c:Bool) (d:ZL):Option ((List ZJ) × T2 × Bool × ZL) :=
 XW N rc rd a N b.all' b.done' c d.Zt d.ZD d.ZE d.ZF ([]:List ZJ) 0
def VC (rc:T2->ByteArray->Option (ZL × Bool × T2)):Nat->(List ZJ)->T2->Bool->ZL->Option ((List ZJ) × T2 × Bool × ZL)
 | 0,_,_,_,_=>none
 | N+1,a0,a1,a2,a3=>ZfK N rc (VC rc N) a0 a1 a2 a3
def ZfJ (N:Nat) (rc:T2->ByteArray->Option (ZL × Bool × T2)) (a:List ZJ) (b:T2) (c:Bool) (d:ZL):Option ((List ZJ) × T2 × Bool × ZL):=VC rc N a b c d
def PJ (N:Nat) (rc:T2->ByteArray->Option (ZL × Bool × T2)) (a:T2) (b:ByteArray):Option (ZL × Bool × T2) :=
 (some ((YS a.done' b).getD (⟨(str []),([]:List ByteArray),([]:List ZS),([]:List ZJ)⟩:ZL))).bind fun c =>
 bif (YS a.done' b).isSome then some (c,true,a)
 else (some ((YS a.all' b).getD (⟨(str []),([]:List ByteArray),([]:List ZS),([]:List ZJ)⟩:ZL))).bind fun d =>
 (Hj N d.ZD).bind fun e =>
 (z37 N (⟨([]:(List (ByteArray × ByteArray))),(str [])⟩:T3) d.ZE).bind fun f =>
 (ZfJ N rc d.ZF a true (⟨d.Zt,e,f,([]:List ZJ)⟩:ZL)).bind fun g =>
 bif !g.2.2.1 then some ((⟨(str []),([]:List ByteArray),([]:List ZS),([]:List ZJ)⟩:ZL),false,g.2.1)
 else some ((⟨g.2.2.2.Zt,g.2.2.2.ZD,g.2.2.2.ZE,g.1⟩:ZL),true,(⟨g.2.1.all',(Xo g.2.1.done' b (⟨g.2.2.2.Zt,g.2.2.2.ZD,g.2.2.2.ZE,g.1⟩:ZL))⟩:T2))
def S9:Nat->T2->ByteArray->Option (ZL × Bool × T2)
 | 0,_,_=>none
 | N+1,a0,a1=>PJ N (S9 N) a0 a1
def z17 (N:Nat) (a:T2) (b:ByteArray):Option (ZL × Bool × T2):=S9 N a b
def TE (N:Nat) (a:ByteArray) (b:(List (ByteArray × ZL))):Option (ZL × Int) :=
 (some ((YS b a).getD (⟨(str []),([]:List ByteArray),([]:List ZS),([]:List ZJ)⟩:ZL))).bind fun c =>
 bif !((YS b a).isSome) then some ((⟨(str []),([]:List ByteArray),([]:List ZS),([]:List ZJ)⟩:ZL),8)
 else (z16 N (⟨b,([]:(List (ByteArray × ZL)))⟩:T2) a ([]:(List (ByteArray × Bool)))).bind fun d =>
 bif !d.1 then some ((⟨(str []),([]:List ByteArray),([]:List ZS),([]:List ZJ)⟩:ZL),14)
 else (z17 N (⟨b,([]:(List (ByteArray × ZL)))⟩:T2) a).bind fun e =>
 bif !e.2.1 then some ((⟨(str []),([]:List ByteArray),([]:List ZS),([]:List ZJ)⟩:ZL),6)
 else (Ra N ([e.1]:List ZL)).bind fun f =>
 bif !f then some ((⟨(str []),([]:List ByteArray),([]:List ZS),([]:List ZJ)⟩:ZL),6)
 else (Qb N ([e.1]:List ZL)).bind fun g =>
 bif g.ZI != 0 then some ((⟨(str []),([]:List ByteArray),([]:List ZS),([]:List ZJ)⟩:ZL),9)
 else some (e.1,0)
def Qy (N:Nat) (a:List ZL) (b:ByteArray):Nat->(List (ByteArray × ZL))->Int->Option (ZL × Int)
 | 0,_,_=>none
 | c+1,d,e =>
 bif decide (e < (a.length:Int)) then (Z6 a e).bind fun f =>
 (Qy N a b c) (Xo d f.Zt f) (ZM (e+1))
 else TE N b d
def z8 (N:Nat) (a:List ZL) (b:ByteArray):Option (ZL × Int) :=
 (Qb N a).bind fun c =>
 bif c.ZI != 0 then some ((⟨(str []),([]:List ByteArray),([]:List ZS),([]:List ZJ)⟩:ZL),1)
 else Qy N a b N ([]:(List (ByteArray × ZL))) 0
def z7 (N:Nat):Option Bool :=
 (z15 N (str [112,114,111,116,111,99,111,108,32,80,40,65,44,32,66,41,32,123,32,109,101,115,115,97,103,101,32,97,40,41,59,32,65,32,45,62,32,66,58,32,97,59,32,99,97,108,108,32,81,40,66,44,32,65,41,32,97,115,32,113,59,32,125,32,112,114,111,116,111,99,111,108,32,81,40,88,44,32,89,41,32,123,32,109,101,115,115,97,103,101,32,109,40,41,59,32,88,32,45,62,32,89,58,32,109,59,32,125])).bind fun a =>
 (z8 N a.1 (str [80])).bind fun b =>
 bif a.2.2==0 then bif b.2==0 then bif (b.1.ZE.length:Int)==2 then (Z6 b.1.ZE 1).bind fun c =>
 bif c.Zt.toList==(str [113,46,109]).toList then bif (b.1.ZF.length:Int)==2 then (Z6 b.1.ZF 1).bind fun d =>
 bif d.ZA.toList==(str [66]).toList then (Z6 b.1.ZF 1).bind fun e =>
 some (e.Zt.toList==(str [113,46,109]).toList)
 else some false
 else some false
 else some false
 else some false
 else some false
 else some false
def Zba (a:Int) (b:Int):Option (Int × Int) :=
 some (a,b)
def Zbb (a:Int) (b:Int->Int->Int->Option (Int × Int)) (c:Int) (d:Int):Option (Int × Int) :=
 b c d (ZM (a+1))
def Pu (rc:List ZT->Option (Int × Int)) (a:Int) (b:Int->Int->Int->Option (Int × Int)) (c:ZT):Nat->Int->Int->Int->Option (Int × Int)
 | 0,_,_,_=>none
 | d+1,e,f,g =>
 bif decide (g < (c.ZC.length:Int)) then (Z6 c.ZC g).bind fun h =>
 (rc h).bind fun i =>
 (Pu rc a b c d) (ZM (e+i.1)) (ZM (f+i.2)) (ZM (g+1))
 else Zbb a b e f
def LD (N:Nat) (rc:List ZT->Option (Int × Int)) (a:Int) (b:Int->Int->Int->Option (Int × Int)) (c:ZT) (d:Int) (e:Int):Option (Int × Int) :=
 Pu rc a b c N d e 0
def GO (N:Nat) (rc:List ZT->Option (Int × Int)) (a:Int) (b:Int) (c:Int->Int->Int->Option (Int × Int)) (d:ZT) (e:Int):Option (Int × Int) :=
 bif d.Zq==5 then LD N rc b c d e (ZM (a+1))
 else LD N rc b c d e a
def VZ (N:Nat) (rc:List ZT->Option (Int × Int)) (a:List ZT):Nat->Int->Int->Int->Option (Int × Int)
 | 0,_,_,_=>none
 | b+1,c,d,e =>
 bif decide (e < (a.length:Int)) then (Z6 a e).bind fun f =>
 bif f.Zq==6 then GO N rc d e (VZ N rc a b) f (ZM (c+1))
 else GO N rc d e (VZ N rc a b) f c
 else Zba c d
def GN (N:Nat) (rc:List ZT->Option (Int × Int)) (a:List ZT):Option (Int × Int) :=
 VZ N rc a N 0 0 0
def Ts:Nat->(List ZT)->Option (Int × Int)
 | 0,_=>none
 | N+1,a0=>GN N (Ts N) a0
def z12 (N:Nat) (a:List ZT):Option (Int × Int):=Ts N a
def Zcp (a:Int):Option Int :=
 some a
def Zcq (a:Int) (b:Int->Int->Option Int) (c:Int):Option Int :=
 b c (ZM (a+1))
def Qt (rc:List ZT->Option Int) (a:List ZT) (b:Int) (c:Int->Int->Option Int):Nat->Int->Int->Option Int
 | 0,_,_=>none
 | d+1,e,f =>
 (Z6 a b).bind fun g =>
 bif decide (f < (g.ZC.length:Int)) then (Z6 a b).bind fun h =>
 (Z6 h.ZC f).bind fun i =>
 (rc i).bind fun j =>
 (Qt rc a b c d) (ZM (e+j)) (ZM (f+1))
 else Zcq b c e
def Rm (N:Nat) (rc:List ZT->Option Int) (a:List ZT):Nat->Int->Int->Option Int
 | 0,_,_=>none
 | b+1,c,d =>
 bif decide (d < (a.length:Int)) then Qt rc a d (Rm N rc a b) N (ZM (c+1)) 0
 else Zcp c
def DD (N:Nat) (rc:List ZT->Option Int) (a:List ZT):Option Int :=
 Rm N rc a N 0 0
def Zcr:Nat->(List ZT)->Option Int
 | 0,_=>none
 | N+1,a0=>DD N (Zcr N) a0
def z46 (N:Nat) (a:List ZT):Option Int:=Zcr N a
def ZbU (a:List ZU) (b:Int) (c:Int):Option Bool :=
 bif decide ((a.length:Int)<=12) then bif decide (b<=320) then some (decide (c<=60))
 else some false
 else some false
def ZbV (a:Int) (b:Int) (c:Int) (d:Int->Int->Int->Option Bool) (e:Int) (f:ZU):Option Bool :=
 d (ZM (a+e)) (ZM (b+(f.ZE.length:Int))) (ZM (c+1))
def PQ (a:List ZU) (b:Int) (c:Int) (d:Int) (e:Int->Int->Int->Option Bool) (f:Int) (g:ZU):Nat->Int->Option Bool
 | 0,_=>none
 | h+1,i =>
 (Z6 a d).bind fun j =>
 bif decide (i < (j.ZE.length:Int)) then (Z6 a d).bind fun k =>
 (Z6 k.ZE i).bind fun l =>
 bif decide ((l.Zy.length:Int) > 8) then some false
 else (Z6 a d).bind fun m =>
 (Z6 m.ZE i).bind fun o =>
 bif decide ((o.Zz.length:Int) > 10) then some false
 else (PQ a b c d e f g h) (ZM (i+1))
 else ZbV b c d e f g
def Sh (N:Nat) (a:List ZU):Nat->Int->Int->Int->Option Bool
 | 0,_,_,_=>none
 | b+1,c,d,e =>
 bif decide (e < (a.length:Int)) then (Z6 a e).bind fun f =>
 (z46 N f.ZF).bind fun g =>
 (Z6 a e).bind fun h =>
 PQ a c d e (Sh N a b) g h N 0
 else ZbU a c d
def G4 (N:Nat) (a:List ZU):Option Bool :=
 Sh N a N 0 0 0
def Zc3 (N:Nat) (a:List ZU):Option Bool :=
 (G4 N a).bind fun b =>
 some b
def Mu (N:Nat) (a:List ZU):Nat->Int->Option Bool
 | 0,_=>none
 | b+1,c =>
 bif decide (c < (a.length:Int)) then (Z6 a c).bind fun d =>
 (z12 N d.ZF).bind fun e =>
 bif decide (e.1 > 3) then some false
 else (Mu N a b) (ZM (c+1))
 else Zc3 N a
def z9 (N:Nat) (a:List ZU):Option Bool :=
 Mu N a N 0
def ZbX (a:List ZJ):Option (List ZJ) :=
 some a
def G8 (a:List ZJ) (b:Int) (c:List ZJ->Int->Option (List ZJ)) (d:ZT) (e:(List (List ZJ))):Option (List ZJ) :=
 (YG a ([(⟨d.Zq,d.ZA,d.To,d.Zt,d.As,d.ZB,e⟩:ZJ)]:List ZJ)).bind fun f =>
 c f (ZM (b+1))
def Qn (rc:List ZT->Option (List ZJ)) (a:List ZJ) (b:Int) (c:List ZJ->Int->Option (List ZJ)) (d:ZT):Nat->(List (List ZJ))->Int->Option (List ZJ)
 | 0,_,_=>none
 | e+1,f,g =>
 bif decide (g < (d.ZC.length:Int)) then (Z6 d.ZC g).bind fun h =>
 (rc h).bind fun i =>
 (YG f ([i]:List (List ZJ))).bind fun j =>
 (Qn rc a b c d e) j (ZM (g+1))
 else G8 a b c d f
def Rf (N:Nat) (rc:List ZT->Option (List ZJ)) (a:List ZT):Nat->(List ZJ)->Int->Option (List ZJ)
 | 0,_,_=>none
 | b+1,c,d =>
 bif decide (d < (a.length:Int)) then (Z6 a d).bind fun e =>
 Qn rc c d (Rf N rc a b) e N ([]:List (List ZJ)) 0
 else ZbX c
def G7 (N:Nat) (rc:List ZT->Option (List ZJ)) (a:List ZT):Option (List ZJ) :=
 Rf N rc a N ([]:List ZJ) 0
def ZbY:Nat->(List ZT)->Option (List ZJ)
 | 0,_=>none
 | N+1,a0=>G7 N (ZbY N) a0
def z20 (N:Nat) (a:List ZT):Option (List ZJ):=ZbY N a
def ZaL (a:List ZL):Option (List ZL) :=
 some a
def Gl (a:List ZL) (b:Int) (c:List ZL->Int->Option (List ZL)) (d:ZU) (e:List ZJ) (f:List ZS):Option (List ZL) :=
 (YG a ([(⟨d.Zt,d.ZD,f,e⟩:ZL)]:List ZL)).bind fun g =>
 c g (ZM (b+1))
def Gm (a:List ZS) (b:Int) (c:List ZS->Int->Option (List ZL)) (d:Yi) (e:List YM):Option (List ZL) :=
 (YG a ([(⟨d.Zt,d.Zy,e⟩:ZS)]:List ZS)).bind fun f =>
 c f (ZM (b+1))
def R7 (a:List ZS) (b:Int) (c:List ZS->Int->Option (List ZL)) (d:Yi):Nat->(List YM)->Int->Option (List ZL)
 | 0,_,_=>none
 | e+1,f,g =>
 bif decide (g < (d.Zz.length:Int)) then (Z6 d.Zz g).bind fun h =>
 (YG f ([(⟨h.Zw,h.Op,h.Zx⟩:YM)]:List YM)).bind fun i =>
 (R7 a b c d e) i (ZM (g+1))
 else Gm a b c d f
def Sb (N:Nat) (a:List ZL) (b:Int) (c:List ZL->Int->Option (List ZL)) (d:ZU) (e:List ZJ):Nat->(List ZS)->Int->Option (List ZL)
 | 0,_,_=>none
 | f+1,g,h =>
 bif decide (h < (d.ZE.length:Int)) then (Z6 d.ZE h).bind fun i =>
 R7 g h (Sb N a b c d e f) i N ([]:List YM) 0
 else Gl a b c d e g
def Tn (N:Nat) (a:List ZU):Nat->(List ZL)->Int->Option (List ZL)
 | 0,_,_=>none
 | b+1,c,d =>
 bif decide (d < (a.length:Int)) then (Z6 a d).bind fun e =>
 (z20 N e.ZF).bind fun f =>
 Sb N c d (Tn N a b) e f N ([]:List ZS) 0
 else ZaL c
def Gf (N:Nat) (a:List ZU):Option (List ZL) :=
 Tn N a N ([]:List ZL) 0
def z218 (N:Nat) (a:Int):Option Bool :=
 bif decide (a>=97) then bif decide (a<=122) then some true
 else bif decide (a>=65) then some (decide (a<=90))
 else some false
 else bif decide (a>=65) then some (decide (a<=90))
 else some false
def ZfD (N:Nat) (a:Int):Option Bool :=
 bif decide (a>=48) then some (decide (a<=57))
 else some false
def Zfy (N:Nat) (a:Int):Option Bool :=
 (z218 N a).bind fun b =>
 bif b then some true
 else (ZfD N a).bind fun c =>
 bif c then some true
 else some (a==95)
def Zfs:Option Bool :=
 some true
def LX (N:Nat) (a:ByteArray):Nat->Int->Option Bool
 | 0,_=>none
 | b+1,c =>
 bif decide (c < (a.size:Int)) then (YX a c).bind fun d =>
 (Zfy N d).bind fun e =>
 bif !e then some false
 else (LX N a b) (ZM (c+1))
 else Zfs
def LW (N:Nat) (a:ByteArray):Option Bool :=
 bif a.toList==(str []).toList then some false
 else (YX a 0).bind fun b =>
 (z218 N b).bind fun c =>
 bif !c then some false
 else bif decide ((a.size:Int) > 16) then some false
 else LX N a N 0
def ZbS (N:Nat):Option (List ByteArray) :=
 some ([(str [97,103,97,105,110]),(str [97,110,100]),(str [97,115]),(str [97,116]),(str [99,97,108,108]),(str [99,104,111,105,99,101]),(str [101,108,115,101]),(str [102,114,111,109]),(str [105,102]),(str [105,110,116]),(str [108,101,110]),(str [108,111,111,112]),(str [109,101,115,115,97,103,101]),(str [111,102]),(str [111,102,102,101,114]),(str [111,110]),(str [111,114]),(str [112,97,114]),(str [112,108,97,121,115]),(str [112,114,111,116,111,99,111,108]),(str [115,101,114,118,105,99,101]),(str [116,101,120,116]),(str [116,105,109,101,115]),(str [116,111]),(str [118,97,114]),(str [119,104,101,114,101]),(str [119,104,105,108,101]),(str [119,105,116,104,105,110])]:List ByteArray)
def ZbR:Option Bool :=
 some false
def PO (a:List ByteArray) (b:ByteArray):Nat->Int->Option Bool
 | 0,_=>none
 | c+1,d =>
 bif decide (d < (a.length:Int)) then (Z6 a d).bind fun e =>
 bif e.toList==b.toList then some true
 else (PO a b c) (ZM (d+1))
 else ZbR
def G5 (N:Nat) (a:List ByteArray) (b:ByteArray):Option Bool :=
 PO a b N 0
def PD (N:Nat) (a:ByteArray):Option Bool :=
 (LW N a).bind fun b =>
 bif b then (ZbS N).bind fun c =>
 (G5 N c a).bind fun d =>
 some (!d)
 else some false
def z109 (N:Nat) (a:ByteArray):Option Bool :=
 (PD N a).bind fun b =>
 some b
def ZaM (a:List ByteArray) (b:Int):Option Bool :=
 bif decide ((a.length:Int)>=1) then some (decide ((a.length:Int)<=b))
 else some false
def Lr (N:Nat) (a:List ByteArray) (b:Int):Nat->Int->Option Bool
 | 0,_=>none
 | c+1,d =>
 bif decide (d < (a.length:Int)) then (Z6 a d).bind fun e =>
 (z109 N e).bind fun f =>
 bif !f then some false
 else (Lr N a b c) (ZM (d+1))
 else ZaM a b
def Pf (N:Nat) (a:List ByteArray) (b:Int):Option Bool :=
 Lr N a b N 0
def ZaN (a:Int):Option Int :=
 some a
def ZaO (a:Int) (b:Int) (c:Int->Int->Option Int) (d:Int):Option Int :=
 c (Uk a (ZM (d+1))) (ZM (b+1))
def R8 (rc:List ZT->Option Int) (a:List ZT) (b:Int) (c:Int) (d:Int->Int->Option Int):Nat->Int->Int->Option Int
 | 0,_,_=>none
 | e+1,f,g =>
 (Z6 a c).bind fun h =>
 bif decide (g < (h.ZC.length:Int)) then (Z6 a c).bind fun i =>
 (Z6 i.ZC g).bind fun j =>
 (rc j).bind fun k =>
 (R8 rc a b c d e) (Uk f k) (ZM (g+1))
 else ZaO b c d f
def S3 (N:Nat) (rc:List ZT->Option Int) (a:List ZT):Nat->Int->Int->Option Int
 | 0,_,_=>none
 | b+1,c,d =>
 bif decide (d < (a.length:Int)) then R8 rc a c d (S3 N rc a b) N 0 0
 else ZaN c
def Gq (N:Nat) (rc:List ZT->Option Int) (a:List ZT):Option Int :=
 S3 N rc a N 0 0
def ZaP:Nat->(List ZT)->Option Int
 | 0,_=>none
 | N+1,a0=>Gq N (ZaP N) a0
def Pg (N:Nat) (a:List ZT):Option Int:=ZaP N a
def GU (a:ByteArray):Option Bool :=
 some (decide ((a.size:Int)<=50))
def PF (N:Nat) (a:ByteArray) (b:Int) (c:Int) (d:Int->Int->Option Bool) (e:Bool):Option Bool :=
 bif e then (ssl a (some b) (some c)).bind fun f =>
 (z109 N f).bind fun g =>
 bif !g then some false
 else d (ZM (c+1)) (ZM (c+1))
 else d b (ZM (c+1))
def Se (N:Nat) (a:ByteArray):Nat->Int->Int->Option Bool
 | 0,_,_=>none
 | b+1,c,d =>
 bif decide (d<=(a.size:Int)) then bif d==(a.size:Int) then PF N a c d (Se N a b) true
 else (YX a d).bind fun e =>
 PF N a c d (Se N a b) (e==46)
 else GU a
def Tu (N:Nat) (a:ByteArray):Option Bool :=
 Se N a N 0 0
def LI (a:Bool):Option Bool :=
 some a
def PE (rc:List ZT->Option Bool) (a:ZT):Nat->Bool->Int->Option Bool
 | 0,_,_=>none
 | b+1,c,d =>
 bif decide (d < (a.ZC.length:Int)) then bif c then (Z6 a.ZC d).bind fun e =>
 (rc e).bind fun f =>
 (PE rc a b) f (ZM (d+1))
 else LI c
 else LI c
def YY (N:Nat) (rc:List ZT->Option Bool) (a:ZT) (b:Bool):Option Bool :=
 PE rc a N b 0
def LJ (N:Nat) (rc:List ZT->Option Bool) (a:ZT) (b:Int):Option Bool :=
 (z109 N a.ZA).bind fun c =>
 bif c then bif (a.To.length:Int)==0 then bif a.Zt.toList==(str []).toList then bif a.As.toList==(str []).toList then bif decide (a.ZB>=0) then bif decide (a.ZB<=1000) then bif decide ((a.ZC.length:Int)>=b) then YY N rc a (decide ((a.ZC.length:Int)<=8))
 else YY N rc a false
 else YY N rc a false
 else YY N rc a false
 else YY N rc a false
 else YY N rc a false
 else YY N rc a false
 else YY N rc a false
def GS (N:Nat) (rc:List ZT->Option Bool) (a:ZT):Option Bool :=
 bif a.Zq==1 then (z109 N a.ZA).bind fun b =>
 bif b then (Pf N a.To 5).bind fun c =>
 bif c then (Tu N a.Zt).bind fun d =>
 bif d then bif a.As.toList==(str []).toList then bif a.ZB==0 then YY N rc a ((a.ZC.length:Int)==0)
 else YY N rc a false
 else YY N rc a false
 else YY N rc a false
 else YY N rc a false
 else YY N rc a false
 else bif a.Zq==2 then bif decide (a.ZB > 0) then LJ N rc a 2
 else LJ N rc a 1
 else bif a.Zq==3 then bif a.ZA.toList==(str []).toList then bif (a.To.length:Int)==0 then (Tu N a.Zt).bind fun e =>
 bif e then bif a.As.toList==(str []).toList then bif a.ZB==0 then YY N rc a ((a.ZC.length:Int)==1)
 else YY N rc a false
 else YY N rc a false
 else YY N rc a false
 else YY N rc a false
 else YY N rc a false
 else bif a.Zq==4 then bif a.ZA.toList==(str []).toList then bif (a.To.length:Int)==0 then (Tu N a.Zt).bind fun f =>
 bif f then bif a.As.toList==(str []).toList then bif a.ZB==0 then YY N rc a ((a.ZC.length:Int)==0)
 else YY N rc a false
 else YY N rc a false
 else YY N rc a false
 else YY N rc a false
 else YY N rc a false
 else bif a.Zq==5 then bif a.ZA.toList==(str []).toList then bif (a.To.length:Int)==0 then bif a.Zt.toList==(str []).toList then bif a.As.toList==(str []).toList then bif a.ZB==0 then bif decide ((a.ZC.length:Int)>=2) then YY N rc a (decide ((a.ZC.length:Int)<=8))
 else YY N rc a false
 else YY N rc a false
 else YY N rc a false
 else YY N rc a false
 else YY N rc a false
 else YY N rc a false
 else bif a.Zq==6 then bif a.ZA.toList==(str []).toList then (Pf N a.To 6).bind fun g =>
 bif g then (z109 N a.Zt).bind fun h =>
 bif h then (z109 N a.As).bind fun i =>
 bif i then bif a.ZB==0 then YY N rc a ((a.ZC.length:Int)==0)
 else YY N rc a false
 else YY N rc a false
 else YY N rc a false
 else YY N rc a false
 else YY N rc a false
 else YY N rc a false
def ZaR:Option Bool :=
 some true
def Ls (N:Nat) (rc:List ZT->Option Bool) (a:List ZT):Nat->Int->Option Bool
 | 0,_=>none
 | b+1,c =>
 bif decide (c < (a.length:Int)) then (Z6 a c).bind fun d =>
 (GS N rc d).bind fun e =>
 bif !e then some false
 else (Ls N rc a b) (ZM (c+1))
 else ZaR
def Gr (N:Nat) (rc:List ZT->Option Bool) (a:List ZT):Option Bool :=
 Ls N rc a N 0
def ZaS:Nat->(List ZT)->Option Bool
 | 0,_=>none
 | N+1,a0=>Gr N (ZaS N) a0
def ZaQ (N:Nat) (a:List ZT):Option Bool:=ZaS N a
def LK (N:Nat) (a:Int):Option Bool :=
 bif decide (a>=(-999999)) then some (decide (a<=999999))
 else some false
def LL (N:Nat) (a:Ys):Option Bool :=
 (LK N a.N).bind fun b =>
 bif !b then some false
 else bif a.Zq==1 then bif a.Zv.toList==(str []).toList then some (a.Field.toList==(str []).toList)
 else some false
 else bif a.Zq==2 then (z109 N a.Field).bind fun c =>
 bif c then bif a.Zv.toList==(str []).toList then some true
 else (Tu N a.Zv).bind fun d =>
 some d
 else some false
 else bif a.Zq==3 then (z109 N a.Field).bind fun e =>
 bif e then bif a.Zv.toList==(str []).toList then some true
 else (Tu N a.Zv).bind fun f =>
 some f
 else some false
 else some false
def ZaT (N:Nat) (a:Yi):Option Bool :=
 (Tu N a.Zt).bind fun b =>
 bif b then bif decide ((a.Zy.length:Int)<=4) then some (decide ((a.Zz.length:Int)<=6))
 else some false
 else some false
def Tp (N:Nat) (a:Yi):Nat->Int->Option Bool
 | 0,_=>none
 | b+1,c =>
 bif decide (c < (a.Zz.length:Int)) then (Z6 a.Zz c).bind fun d =>
 (LL N d.Zw).bind fun e =>
 bif !e then some false
 else (LL N d.Zx).bind fun f =>
 bif !f then some false
 else bif !(d.Op.toList==(str [60]).toList) then bif !(d.Op.toList==(str [60,61]).toList) then bif !(d.Op.toList==(str [61,61]).toList) then bif !(d.Op.toList==(str [62,61]).toList) then bif !(d.Op.toList==(str [62]).toList) then some false
 else (Tp N a b) (ZM (c+1))
 else (Tp N a b) (ZM (c+1))
 else (Tp N a b) (ZM (c+1))
 else (Tp N a b) (ZM (c+1))
 else (Tp N a b) (ZM (c+1))
 else ZaT N a
def ZaU (N:Nat) (a:Yi):Option Bool :=
 Tp N a N 0
def Tq (N:Nat) (a:Yi):Nat->Int->Option Bool
 | 0,_=>none
 | b+1,c =>
 bif decide (c < (a.Zy.length:Int)) then (Z6 a.Zy c).bind fun d =>
 (Z6 a.Zy c).bind fun e =>
 (z109 N e.Zt).bind fun f =>
 bif !f then some false
 else (LK N d.Zu.Lo).bind fun g =>
 bif !g then some false
 else (LK N d.Zu.Hi).bind fun h =>
 bif !h then some false
 else bif d.Zu.Zq != 1 then bif d.Zu.Zq != 2 then some false
 else bif d.Zu.Zq==2 then bif decide (d.Zu.Lo < 0) then some false
 else bif decide (d.Zu.Hi < 0) then some false
 else (Tq N a b) (ZM (c+1))
 else (Tq N a b) (ZM (c+1))
 else bif d.Zu.Zq==2 then bif decide (d.Zu.Lo < 0) then some false
 else bif decide (d.Zu.Hi < 0) then some false
 else (Tq N a b) (ZM (c+1))
 else (Tq N a b) (ZM (c+1))
 else ZaU N a
def Gs (N:Nat) (a:Yi):Option Bool :=
 Tq N a N 0
def Zbz (a:ByteArray):Option ByteArray :=
 some a
def Qj (a:List ByteArray):Nat->ByteArray->Int->Option ByteArray
 | 0,_,_=>none
 | b+1,c,d =>
 bif decide (d < (a.length:Int)) then bif decide (d > 0) then (Yg c (str [44,32])).bind fun e =>
 (Z6 a d).bind fun f =>
 (Yg e f).bind fun g =>
 (Qj a b) g (ZM (d+1))
 else (Z6 a d).bind fun h =>
 (Yg c h).bind fun i =>
 (Qj a b) i (ZM (d+1))
 else Zbz c
def PG (N:Nat) (a:List ByteArray):Option ByteArray :=
 Qj a N (str []) 0
def G6 (N:Nat) (rc:Int->Option ByteArray) (a:Int):Option ByteArray :=
 bif decide (a < (-9)) then (rc (ZM (a.tdiv 10))).bind fun b =>
 (Yg b (Utf8.encode (wk .i32 ((ZM (48-(a.tmod 10))))))).bind fun c =>
 some c
 else bif decide (a < 0) then (Yg (str [45]) (Utf8.encode (wk .i32 ((ZM (48-a)))))).bind fun d =>
 some d
 else bif decide (a < 10) then some (Utf8.encode (wk .i32 ((ZM (48+a)))))
 else (rc (ZM (a.tdiv 10))).bind fun e =>
 (Yg e (Utf8.encode (wk .i32 ((ZM (48+(a.tmod 10))))))).bind fun f =>
 some f
def Qm:Nat->Int->Option ByteArray
 | 0,_=>none
 | N+1,a0=>G6 N (Qm N) a0
def Sg (N:Nat) (a:Int):Option ByteArray:=Qm N a
def L2 (N:Nat) (a:Ys) (b:ByteArray):Option ByteArray :=
 bif decide (a.N > 0) then (Sg N a.N).bind fun c =>
 (Yg (str [32,43,32]) c).bind fun d =>
 (Yg b d).bind fun e =>
 some e
 else bif decide (a.N < 0) then (Sg N (ZM (0-a.N))).bind fun f =>
 (Yg (str [32,45,32]) f).bind fun g =>
 (Yg b g).bind fun h =>
 some h
 else some b
def L3 (N:Nat) (a:Ys) (b:ByteArray):Option ByteArray :=
 bif a.Zq==3 then (Yg (str [108,101,110,40]) b).bind fun c =>
 (Yg c (str [41])).bind fun d =>
 L2 N a d
 else L2 N a b
def LZ (N:Nat) (a:Ys):Option ByteArray :=
 bif a.Zq==1 then (Sg N a.N).bind fun b =>
 some b
 else bif !(a.Zv.toList==(str []).toList) then (Yg a.Zv (str [46])).bind fun c =>
 (Yg c a.Field).bind fun d =>
 L3 N a d
 else L3 N a a.Field
def GV (a:ByteArray):Option ByteArray :=
 (Yg a (str [59])).bind fun b =>
 some b
def LN (N:Nat) (a:Yi) (b:Int) (c:ByteArray->Int->Option ByteArray) (d:ByteArray):Option ByteArray :=
 (Z6 a.Zz b).bind fun e =>
 (LZ N e.Zw).bind fun f =>
 (Yg f (str [32])).bind fun g =>
 (Z6 a.Zz b).bind fun h =>
 (Yg g h.Op).bind fun i =>
 (Yg i (str [32])).bind fun j =>
 (Z6 a.Zz b).bind fun k =>
 (LZ N k.Zx).bind fun l =>
 (Yg j l).bind fun m =>
 (Yg d m).bind fun o =>
 c o (ZM (b+1))
def Tv (N:Nat) (a:Yi):Nat->ByteArray->Int->Option ByteArray
 | 0,_,_=>none
 | b+1,c,d =>
 bif decide (d < (a.Zz.length:Int)) then bif d==0 then (Yg c (str [32,119,104,101,114,101,32])).bind fun e =>
 LN N a d (Tv N a b) e
 else (Yg c (str [32,97,110,100,32])).bind fun f =>
 LN N a d (Tv N a b) f
 else GV c
def GW (N:Nat) (a:Yi) (b:ByteArray):Option ByteArray :=
 (Yg b (str [41])).bind fun c =>
 Tv N a N c 0
def LO (N:Nat) (a:Int) (b:ByteArray->Int->Option ByteArray) (c:T0) (d:ByteArray) (e:ByteArray):Option ByteArray :=
 (Yg c.Zt (str [58,32])).bind fun f =>
 (Yg f d).bind fun g =>
 (Yg g (str [32])).bind fun h =>
 (Sg N c.Zu.Lo).bind fun i =>
 (Yg h i).bind fun j =>
 (Yg j (str [46,46])).bind fun k =>
 (Sg N c.Zu.Hi).bind fun l =>
 (Yg k l).bind fun m =>
 (Yg e m).bind fun o =>
 b o (ZM (a+1))
def LP (N:Nat) (a:ByteArray) (b:Int) (c:ByteArray->Int->Option ByteArray) (d:T0) (e:ByteArray):Option ByteArray :=
 bif decide (b > 0) then (Yg a (str [44,32])).bind fun f =>
 LO N b c d e f
 else LO N b c d e a
def V3 (N:Nat) (a:Yi):Nat->ByteArray->Int->Option ByteArray
 | 0,_,_=>none
 | b+1,c,d =>
 bif decide (d < (a.Zy.length:Int)) then (Z6 a.Zy d).bind fun e =>
 bif e.Zu.Zq==2 then LP N c d (V3 N a b) e (str [116,101,120,116])
 else LP N c d (V3 N a b) e (str [105,110,116])
 else GW N a c
def z164 (N:Nat) (a:Yi):Option ByteArray :=
 (Yg (str [109,101,115,115,97,103,101,32]) a.Zt).bind fun b =>
 (Yg b (str [40])).bind fun c =>
 V3 N a N c 0
def ZbT (a:ByteArray) (b:ByteArray):Option ByteArray :=
 (Yg b a).bind fun c =>
 (Yg c (str [125])).bind fun d =>
 some d
def PP (rc:ZT->ByteArray->Option ByteArray) (a:List ZT) (b:ByteArray):Nat->ByteArray->Int->Option ByteArray
 | 0,_,_=>none
 | c+1,d,e =>
 bif decide (e < (a.length:Int)) then (Yg b (str [9])).bind fun f =>
 (Z6 a e).bind fun g =>
 (Yg b (str [9])).bind fun h =>
 (rc g h).bind fun i =>
 (Yg f i).bind fun j =>
 (Yg j (str [10])).bind fun k =>
 (Yg d k).bind fun l =>
 (PP rc a b c) l (ZM (e+1))
 else ZbT b d
def Re (N:Nat) (rc:ZT->ByteArray->Option ByteArray) (a:List ZT) (b:ByteArray):Option ByteArray :=
 PP rc a b N (str [123,10]) 0
def ZbA (a:ByteArray):Option ByteArray :=
 some a
def S8 (N:Nat) (rc:ZT->ByteArray->Option ByteArray) (a:ZT) (b:ByteArray) (c:ByteArray) (d:ByteArray) (e:Int) (f:ByteArray->Int->Option ByteArray) (g:Bool):Option ByteArray :=
 bif g then (Yg d (str [32,101,108,115,101,32])).bind fun h =>
 (Z6 a.ZC e).bind fun i =>
 (Re N rc i b).bind fun j =>
 (Yg h j).bind fun k =>
 f k (ZM (e+1))
 else bif decide (e > 0) then (Yg d c).bind fun l =>
 (Z6 a.ZC e).bind fun m =>
 (Re N rc m b).bind fun o =>
 (Yg l o).bind fun p =>
 f p (ZM (e+1))
 else (Z6 a.ZC e).bind fun q =>
 (Re N rc q b).bind fun r =>
 (Yg d r).bind fun s =>
 f s (ZM (e+1))
def V4 (N:Nat) (rc:ZT->ByteArray->Option ByteArray) (a:ZT) (b:ByteArray) (c:ByteArray):Nat->ByteArray->Int->Option ByteArray
 | 0,_,_=>none
 | d+1,e,f =>
 bif decide (f < (a.ZC.length:Int)) then bif decide (f > 0) then bif decide (a.ZB > 0) then S8 N rc a b c e f (V4 N rc a b c d) (f==(ZM ((a.ZC.length:Int)-1)))
 else S8 N rc a b c e f (V4 N rc a b c d) false
 else S8 N rc a b c e f (V4 N rc a b c d) false
 else ZbA e
def Qk (N:Nat) (rc:ZT->ByteArray->Option ByteArray) (a:ZT) (b:ByteArray) (c:ByteArray) (d:ByteArray):Option ByteArray :=
 V4 N rc a b d N c 0
def GY (N:Nat) (rc:ZT->ByteArray->Option ByteArray) (a:ZT) (b:ByteArray):Option ByteArray :=
 bif a.Zq==1 then (Yg a.ZA (str [32,45,62,32])).bind fun c =>
 (PG N a.To).bind fun d =>
 (Yg c d).bind fun e =>
 (Yg e (str [58,32])).bind fun f =>
 (Yg f a.Zt).bind fun g =>
 (Yg g (str [59])).bind fun h =>
 some h
 else bif a.Zq==4 then (Yg (str [97,103,97,105,110,32]) a.Zt).bind fun i =>
 (Yg i (str [59])).bind fun j =>
 some j
 else bif a.Zq==6 then (Yg (str [99,97,108,108,32]) a.Zt).bind fun k =>
 (Yg k (str [40])).bind fun l =>
 (PG N a.To).bind fun m =>
 (Yg l m).bind fun o =>
 (Yg o (str [41,32,97,115,32])).bind fun p =>
 (Yg p a.As).bind fun q =>
 (Yg q (str [59])).bind fun r =>
 some r
 else bif a.Zq==3 then (Yg (str [108,111,111,112,32]) a.Zt).bind fun s =>
 (Yg s (str [32])).bind fun t =>
 Qk N rc a b t (str [])
 else bif a.Zq==5 then Qk N rc a b (str [112,97,114,32]) (str [32,97,110,100,32])
 else (Yg (str [99,104,111,105,99,101,32,97,116,32]) a.ZA).bind fun u =>
 (Yg u (str [32])).bind fun v =>
 bif decide (a.ZB > 0) then (Sg N a.ZB).bind fun w =>
 (Yg (str [119,105,116,104,105,110,32]) w).bind fun x =>
 (Yg x (str [32])).bind fun y =>
 (Yg v y).bind fun z =>
 Qk N rc a b z (str [32,111,114,32])
 else Qk N rc a b v (str [32,111,114,32])
def ZbB:Nat->ZT->ByteArray->Option ByteArray
 | 0,_,_=>none
 | N+1,a0,a1=>GY N (ZbB N) a0 a1
def GX (N:Nat) (a:ZT) (b:ByteArray):Option ByteArray:=ZbB N a b
def ZaV (a:ByteArray):Option ByteArray :=
 some a
def Gu (a:Int) (b:ByteArray->Int->Option ByteArray) (c:ByteArray):Option ByteArray :=
 (Yg c (str [125,10])).bind fun d =>
 b d (ZM (a+1))
def Ph (N:Nat) (a:List ZU) (b:Int) (c:ByteArray->Int->Option ByteArray):Nat->ByteArray->Int->Option ByteArray
 | 0,_,_=>none
 | d+1,e,f =>
 (Z6 a b).bind fun g =>
 bif decide (f < (g.ZF.length:Int)) then (Z6 a b).bind fun h =>
 (Z6 h.ZF f).bind fun i =>
 (GX N i (str [9])).bind fun j =>
 (Yg (str [9]) j).bind fun k =>
 (Yg k (str [10])).bind fun l =>
 (Yg e l).bind fun m =>
 (Ph N a b c d) m (ZM (f+1))
 else Gu b c e
def Gv (N:Nat) (a:List ZU) (b:Int) (c:ByteArray->Int->Option ByteArray) (d:ByteArray):Option ByteArray :=
 Ph N a b c N d 0
def Pi (N:Nat) (a:List ZU) (b:Int) (c:ByteArray->Int->Option ByteArray):Nat->ByteArray->Int->Option ByteArray
 | 0,_,_=>none
 | d+1,e,f =>
 (Z6 a b).bind fun g =>
 bif decide (f < (g.ZE.length:Int)) then (Z6 a b).bind fun h =>
 (Z6 h.ZE f).bind fun i =>
 (z164 N i).bind fun j =>
 (Yg (str [9]) j).bind fun k =>
 (Yg k (str [10])).bind fun l =>
 (Yg e l).bind fun m =>
 (Pi N a b c d) m (ZM (f+1))
 else Gv N a b c e
def Vy (N:Nat) (a:List ZU):Nat->ByteArray->Int->Option ByteArray
 | 0,_,_=>none
 | b+1,c,d =>
 bif decide (d < (a.length:Int)) then (Z6 a d).bind fun e =>
 (Yg (str [112,114,111,116,111,99,111,108,32]) e.Zt).bind fun f =>
 (Yg f (str [40])).bind fun g =>
 (Z6 a d).bind fun h =>
 (PG N h.ZD).bind fun i =>
 (Yg g i).bind fun j =>
 (Yg j (str [41,32,123,10])).bind fun k =>
 (Yg c k).bind fun l =>
 Pi N a d (Vy N a b) N l 0
 else ZaV c
def Gt (N:Nat) (a:List ZU):Option ByteArray :=
 Vy N a N (str []) 0
def Zcs (N:Nat) (a:List ZU):Option Bool :=
 (Gt N a).bind fun b =>
 some (decide ((b.size:Int)<=8000))
def Zct (a:Int) (b:Int->Option Bool):Option Bool :=
 b (ZM (a+1))
def P6 (N:Nat) (a:Int) (b:Int->Option Bool) (c:ZU):Nat->Int->Option Bool
 | 0,_=>none
 | d+1,e =>
 bif decide (e < (c.ZE.length:Int)) then (Z6 c.ZE e).bind fun f =>
 (Gs N f).bind fun g =>
 bif !g then some false
 else (P6 N a b c d) (ZM (e+1))
 else Zct a b
def Ro (N:Nat) (a:List ZU):Nat->Int->Option Bool
 | 0,_=>none
 | b+1,c =>
 bif decide (c < (a.length:Int)) then (Z6 a c).bind fun d =>
 (z109 N d.Zt).bind fun e =>
 bif !e then some false
 else (Pf N d.ZD 6).bind fun f =>
 bif !f then some false
 else bif decide ((d.ZE.length:Int) > 40) then some false
 else (Pg N d.ZF).bind fun g =>
 bif decide (g > 10) then some false
 else (z46 N d.ZF).bind fun h =>
 bif decide (h > 300) then some false
 else (ZaQ N d.ZF).bind fun i =>
 bif !i then some false
 else P6 N c (Ro N a b) d N 0
 else Zcs N a
def DE (N:Nat) (a:List ZU):Option Bool :=
 bif decide ((a.length:Int) > 10) then some false
 else Ro N a N 0
def Zcu:Option Int :=
 some (-1)
def P7 (a:List ByteArray) (b:ByteArray):Nat->Int->Option Int
 | 0,_=>none
 | c+1,d =>
 bif decide (d < (a.length:Int)) then (Z6 a d).bind fun e =>
 bif e.toList==b.toList then some d
 else (P7 a b c) (ZM (d+1))
 else Zcu
def V7 (N:Nat) (a:List ByteArray) (b:ByteArray):Option Int :=
 P7 a b N 0
def ZaW:Option (Yi × Bool) :=
 some ((⟨(str []),([]:List T0),([]:List T9)⟩:Yi),false)
def Pl (a:ZU) (b:ByteArray):Nat->Int->Option (Yi × Bool)
 | 0,_=>none
 | c+1,d =>
 bif decide (d < (a.ZE.length:Int)) then (Z6 a.ZE d).bind fun e =>
 bif e.Zt.toList==b.toList then (Z6 a.ZE d).bind fun f =>
 some (f,true)
 else (Pl a b c) (ZM (d+1))
 else ZaW
def Lz (N:Nat) (a:ZU) (b:ByteArray):Option (Yi × Bool) :=
 Pl a b N 0
def ZbC:Option (T0 × Bool) :=
 some ((⟨(str []),(⟨0,0,0⟩:T1)⟩:T0),false)
def PH (a:Ys) (b:List T0):Nat->Int->Option (T0 × Bool)
 | 0,_=>none
 | c+1,d =>
 bif decide (d < (b.length:Int)) then (Z6 b d).bind fun e =>
 bif e.Zt.toList==a.Field.toList then (Z6 b d).bind fun f =>
 some (f,true)
 else (PH a b c) (ZM (d+1))
 else ZbC
def LQ (N:Nat) (a:Ys) (b:ByteArray) (c:List T0) (d:List T9):Option (T0 × Bool) :=
 PH a c N 0
def GZ (N:Nat) (a:ZU) (b:Yi) (c:Ys):Option (T0 × Bool) :=
 bif !(c.Zv.toList==(str []).toList) then (Lz N a c.Zv).bind fun d =>
 bif !d.2 then some ((⟨(str []),(⟨0,0,0⟩:T1)⟩:T0),false)
 else LQ N c d.1.Zt d.1.Zy d.1.Zz
 else LQ N c b.Zt b.Zy b.Zz
def ZaX:Option (ZU × Bool) :=
 some ((⟨(str []),([]:List ByteArray),([]:List Yi),([]:List ZT)⟩:ZU),false)
def Pn (a:List ZU) (b:ByteArray):Nat->Int->Option (ZU × Bool)
 | 0,_=>none
 | c+1,d =>
 bif decide (d < (a.length:Int)) then (Z6 a d).bind fun e =>
 bif e.Zt.toList==b.toList then (Z6 a d).bind fun f =>
 some (f,true)
 else (Pn a b c) (ZM (d+1))
 else ZaX
def LA (N:Nat) (a:List ZU) (b:ByteArray):Option (ZU × Bool) :=
 Pn a b N 0
def Y3 (N:Nat) (a:ZZ) (b:ByteArray) (c:Int):Option ZZ :=
 bif a.first'.ZI==0 then some (⟨a.l',a.p',a.calls',(⟨a.p'.Zt,b,c⟩:T6)⟩:ZZ)
 else some a
def GB (a:List ZU) (b:ByteArray) (c:List ByteArray) (d:List Yi) (e:List ZT) (f:List ByteArray) (g:ByteArray) (h:ByteArray) (i:Int):Option ZZ :=
 some (⟨a,(⟨b,c,d,e⟩:ZU),f,(⟨g,h,i⟩:T6)⟩:ZZ)
def S4 (N:Nat) (a:List ByteArray):Nat->(List ZU)->ByteArray->(List ByteArray)->(List Yi)->(List ZT)->(List ByteArray)->ByteArray->ByteArray->Int->Int->Option ZZ
 | 0,_,_,_,_,_,_,_,_,_,_=>none
 | b+1,c,d,e,f,g,h,i,j,k,l =>
 bif decide (l < (a.length:Int)) then (Z6 a l).bind fun m =>
 (V7 N e m).bind fun o =>
 bif decide (o < 0) then (Z6 a l).bind fun p =>
 (Y3 N (⟨c,(⟨d,e,f,g⟩:ZU),h,(⟨i,j,k⟩:T6)⟩:ZZ) p 12).bind fun q =>
 (S4 N a b) q.l' q.p'.Zt q.p'.ZD q.p'.ZE q.p'.ZF q.calls' q.first'.ZH q.first'.Zt q.first'.ZI (ZM (l+1))
 else (lsl a none (some l)).bind fun r =>
 (Z6 a l).bind fun s =>
 (V7 N r s).bind fun t =>
 bif decide (t>=0) then (Z6 a l).bind fun u =>
 (Y3 N (⟨c,(⟨d,e,f,g⟩:ZU),h,(⟨i,j,k⟩:T6)⟩:ZZ) u 12).bind fun v =>
 (S4 N a b) v.l' v.p'.Zt v.p'.ZD v.p'.ZE v.p'.ZF v.calls' v.first'.ZH v.first'.Zt v.first'.ZI (ZM (l+1))
 else (S4 N a b) c d e f g h i j k (ZM (l+1))
 else GB c d e f g h i j k
def Qa (N:Nat) (a:ZZ) (b:List ByteArray):Option ZZ :=
 S4 N b N a.l' a.p'.Zt a.p'.ZD a.p'.ZE a.p'.ZF a.calls' a.first'.ZH a.first'.Zt a.first'.ZI 0
def Pm (N:Nat) (a:ZT) (b:List ZU) (c:ByteArray) (d:List ByteArray) (e:List Yi) (f:List ZT) (g:List ByteArray) (h:ByteArray) (i:ByteArray) (j:Int):Option ZZ :=
 (Qa N (⟨b,(⟨c,d,e,f⟩:ZU),g,(⟨h,i,j⟩:T6)⟩:ZZ) a.To).bind fun k =>
 (V7 N k.calls' a.As).bind fun l =>
 bif decide (l>=0) then (Y3 N k a.As 9).bind fun m =>
 (YG m.calls' ([a.As]:List ByteArray)).bind fun o =>
 some (⟨m.l',m.p',o,m.first'⟩:ZZ)
 else (YG k.calls' ([a.As]:List ByteArray)).bind fun p =>
 some (⟨k.l',k.p',p,k.first'⟩:ZZ)
def GC (N:Nat) (a:ZZ) (b:ZT):Option ZZ :=
 (LA N a.l' b.Zt).bind fun c =>
 bif !c.2 then (Y3 N a b.Zt 10).bind fun d =>
 Pm N b d.l' d.p'.Zt d.p'.ZD d.p'.ZE d.p'.ZF d.calls' d.first'.ZH d.first'.Zt d.first'.ZI
 else bif (c.1.ZD.length:Int) != (b.To.length:Int) then (Y3 N a b.Zt 1).bind fun e =>
 Pm N b e.l' e.p'.Zt e.p'.ZD e.p'.ZE e.p'.ZF e.calls' e.first'.ZH e.first'.Zt e.first'.ZI
 else Pm N b a.l' a.p'.Zt a.p'.ZD a.p'.ZE a.p'.ZF a.calls' a.first'.ZH a.first'.Zt a.first'.ZI
def DJ (a:List ZU) (b:ByteArray) (c:List ByteArray) (d:List Yi) (e:List ZT) (f:List ByteArray) (g:ByteArray) (h:ByteArray) (i:Int):Option ZZ :=
 some (⟨a,(⟨b,c,d,e⟩:ZU),f,(⟨g,h,i⟩:T6)⟩:ZZ)
def DK (a:Int) (b:List ZU->ByteArray->(List ByteArray)->(List Yi)->(List ZT)->(List ByteArray)->ByteArray->ByteArray->Int->Int->Option ZZ) (c:List ZU) (d:ByteArray) (e:List ByteArray) (f:List Yi) (g:List ZT) (h:List ByteArray) (i:ByteArray) (j:ByteArray) (k:Int):Option ZZ :=
 b c d e f g h i j k (ZM (a+1))
def Ma (rc:ZZ->(List ZT)->(List ByteArray)->Int->Int->Option ZZ) (a:Int) (b:List ZU->ByteArray->(List ByteArray)->(List Yi)->(List ZT)->(List ByteArray)->ByteArray->ByteArray->Int->Int->Option ZZ) (c:ZT) (d:Int) (e:List ByteArray) (f:Int):Nat->(List ZU)->ByteArray->(List ByteArray)->(List Yi)->(List ZT)->(List ByteArray)->ByteArray->ByteArray->Int->Int->Option ZZ
 | 0,_,_,_,_,_,_,_,_,_,_=>none
 | g+1,h,i,j,k,l,m,o,p,q,r =>
 bif decide (r < (c.ZC.length:Int)) then (Z6 c.ZC r).bind fun s =>
 (rc (⟨h,(⟨i,j,k,l⟩:ZU),m,(⟨o,p,q⟩:T6)⟩:ZZ) s e f d).bind fun t =>
 (Ma rc a b c d e f g) t.l' t.p'.Zt t.p'.ZD t.p'.ZE t.p'.ZF t.calls' t.first'.ZH t.first'.Zt t.first'.ZI (ZM (r+1))
 else DK a b h i j k l m o p q
def W6 (N:Nat) (rc:ZZ->(List ZT)->(List ByteArray)->Int->Int->Option ZZ) (a:Int) (b:List ZU->ByteArray->(List ByteArray)->(List Yi)->(List ZT)->(List ByteArray)->ByteArray->ByteArray->Int->Int->Option ZZ) (c:ZT) (d:Int) (e:List ZU) (f:ByteArray) (g:List ByteArray) (h:List Yi) (i:List ZT) (j:List ByteArray) (k:ByteArray) (l:ByteArray) (m:Int) (o:List ByteArray) (p:Int):Option ZZ :=
 Ma rc a b c d o p N e f g h i j k l m 0
def Hp (N:Nat) (rc:ZZ->(List ZT)->(List ByteArray)->Int->Int->Option ZZ) (a:List ByteArray) (b:Int) (c:List ZU) (d:ByteArray) (e:List ByteArray) (f:List Yi) (g:List ZT) (h:List ByteArray) (i:ByteArray) (j:ByteArray) (k:Int) (l:Int) (m:List ZU->ByteArray->(List ByteArray)->(List Yi)->(List ZT)->(List ByteArray)->ByteArray->ByteArray->Int->Int->Option ZZ) (o:ZT) (p:Int):Option ZZ :=
 bif o.Zq==1 then (YG ([o.ZA]:List ByteArray) o.To).bind fun q =>
 (Qa N (⟨c,(⟨d,e,f,g⟩:ZU),h,(⟨i,j,k⟩:T6)⟩:ZZ) q).bind fun r =>
 (Lz N r.p' o.Zt).bind fun s =>
 bif !s.2 then (Y3 N r o.Zt 10).bind fun t =>
 W6 N rc l m o p t.l' t.p'.Zt t.p'.ZD t.p'.ZE t.p'.ZF t.calls' t.first'.ZH t.first'.Zt t.first'.ZI a b
 else W6 N rc l m o p r.l' r.p'.Zt r.p'.ZD r.p'.ZE r.p'.ZF r.calls' r.first'.ZH r.first'.Zt r.first'.ZI a b
 else bif o.Zq==2 then (Qa N (⟨c,(⟨d,e,f,g⟩:ZU),h,(⟨i,j,k⟩:T6)⟩:ZZ) ([o.ZA]:List ByteArray)).bind fun u =>
 W6 N rc l m o p u.l' u.p'.Zt u.p'.ZD u.p'.ZE u.p'.ZF u.calls' u.first'.ZH u.first'.Zt u.first'.ZI a b
 else bif o.Zq==3 then (V7 N a o.Zt).bind fun v =>
 bif decide (v>=0) then (Y3 N (⟨c,(⟨d,e,f,g⟩:ZU),h,(⟨i,j,k⟩:T6)⟩:ZZ) o.Zt 9).bind fun w =>
 (YG ([]:List ByteArray) a).bind fun x =>
 (YG x ([o.Zt]:List ByteArray)).bind fun y =>
 W6 N rc l m o p w.l' w.p'.Zt w.p'.ZD w.p'.ZE w.p'.ZF w.calls' w.first'.ZH w.first'.Zt w.first'.ZI y b
 else (YG ([]:List ByteArray) a).bind fun z =>
 (YG z ([o.Zt]:List ByteArray)).bind fun A =>
 W6 N rc l m o p c d e f g h i j k A b
 else bif o.Zq==4 then (lsl a (some b) none).bind fun B =>
 (V7 N B o.Zt).bind fun C =>
 bif decide (C < 0) then (Y3 N (⟨c,(⟨d,e,f,g⟩:ZU),h,(⟨i,j,k⟩:T6)⟩:ZZ) o.Zt 10).bind fun D =>
 (V7 N a o.Zt).bind fun E =>
 bif decide (E < p) then (Y3 N D o.Zt 7).bind fun F =>
 W6 N rc l m o p F.l' F.p'.Zt F.p'.ZD F.p'.ZE F.p'.ZF F.calls' F.first'.ZH F.first'.Zt F.first'.ZI a b
 else W6 N rc l m o p D.l' D.p'.Zt D.p'.ZD D.p'.ZE D.p'.ZF D.calls' D.first'.ZH D.first'.Zt D.first'.ZI a b
 else (V7 N a o.Zt).bind fun G =>
 bif decide (G < p) then (Y3 N (⟨c,(⟨d,e,f,g⟩:ZU),h,(⟨i,j,k⟩:T6)⟩:ZZ) o.Zt 7).bind fun H =>
 W6 N rc l m o p H.l' H.p'.Zt H.p'.ZD H.p'.ZE H.p'.ZF H.calls' H.first'.ZH H.first'.Zt H.first'.ZI a b
 else W6 N rc l m o p c d e f g h i j k a b
 else bif o.Zq==5 then W6 N rc l m o p c d e f g h i j k a (a.length:Int)
 else bif o.Zq==6 then (GC N (⟨c,(⟨d,e,f,g⟩:ZU),h,(⟨i,j,k⟩:T6)⟩:ZZ) o).bind fun I =>
 W6 N rc l m o p I.l' I.p'.Zt I.p'.ZD I.p'.ZE I.p'.ZF I.calls' I.first'.ZH I.first'.Zt I.first'.ZI a b
 else W6 N rc l m o p c d e f g h i j k a b
def Us (N:Nat) (rc:ZZ->(List ZT)->(List ByteArray)->Int->Int->Option ZZ) (a:List ZT) (b:List ByteArray) (c:Int) (d:Int):Nat->(List ZU)->ByteArray->(List ByteArray)->(List Yi)->(List ZT)->(List ByteArray)->ByteArray->ByteArray->Int->Int->Option ZZ
 | 0,_,_,_,_,_,_,_,_,_,_=>none
 | e+1,f,g,h,i,j,k,l,m,o,p =>
 bif decide (p < (a.length:Int)) then (Z6 a p).bind fun q =>
 bif decide (p < (ZM ((a.length:Int)-1))) then Hp N rc b c f g h i j k l m o p (Us N rc a b c d e) q (b.length:Int)
 else Hp N rc b c f g h i j k l m o p (Us N rc a b c d e) q d
 else DJ f g h i j k l m o
def DI (N:Nat) (rc:ZZ->(List ZT)->(List ByteArray)->Int->Int->Option ZZ) (a:ZZ) (b:List ZT) (c:List ByteArray) (d:Int) (e:Int):Option ZZ :=
 Us N rc b c d e N a.l' a.p'.Zt a.p'.ZD a.p'.ZE a.p'.ZF a.calls' a.first'.ZH a.first'.Zt a.first'.ZI 0
def UU:Nat->ZZ->(List ZT)->(List ByteArray)->Int->Int->Option ZZ
 | 0,_,_,_,_,_=>none
 | N+1,a0,a1,a2,a3,a4=>DI N (UU N) a0 a1 a2 a3 a4
def z51 (N:Nat) (a:ZZ) (b:List ZT) (c:List ByteArray) (d:Int) (e:Int):Option ZZ:=UU N a b c d e
def Gw (a:List ZU) (b:ByteArray) (c:List ByteArray) (d:List Yi) (e:List ZT) (f:List ByteArray) (g:ByteArray) (h:ByteArray) (i:Int):Option ZZ :=
 some (⟨a,(⟨b,c,d,e⟩:ZU),f,(⟨g,h,i⟩:T6)⟩:ZZ)
def Lv (N:Nat) (a:Int) (b:List ZU->ByteArray->(List ByteArray)->(List Yi)->(List ZT)->(List ByteArray)->ByteArray->ByteArray->Int->Int->Option ZZ) (c:T0) (d:List ZU) (e:ByteArray) (f:List ByteArray) (g:List Yi) (h:List ZT) (i:List ByteArray) (j:ByteArray) (k:ByteArray) (l:Int) (m:Int) (o:Int):Option ZZ :=
 bif decide (c.Zu.Lo < m) then (Y3 N (⟨d,(⟨e,f,g,h⟩:ZU),i,(⟨j,k,l⟩:T6)⟩:ZZ) c.Zt 2).bind fun p =>
 b p.l' p.p'.Zt p.p'.ZD p.p'.ZE p.p'.ZF p.calls' p.first'.ZH p.first'.Zt p.first'.ZI (ZM (a+1))
 else bif decide (c.Zu.Hi > o) then (Y3 N (⟨d,(⟨e,f,g,h⟩:ZU),i,(⟨j,k,l⟩:T6)⟩:ZZ) c.Zt 2).bind fun q =>
 b q.l' q.p'.Zt q.p'.ZD q.p'.ZE q.p'.ZF q.calls' q.first'.ZH q.first'.Zt q.first'.ZI (ZM (a+1))
 else bif decide (c.Zu.Lo > c.Zu.Hi) then (Y3 N (⟨d,(⟨e,f,g,h⟩:ZU),i,(⟨j,k,l⟩:T6)⟩:ZZ) c.Zt 2).bind fun r =>
 b r.l' r.p'.Zt r.p'.ZD r.p'.ZE r.p'.ZF r.calls' r.first'.ZH r.first'.Zt r.first'.ZI (ZM (a+1))
 else b d e f g h i j k l (ZM (a+1))
def Lw (N:Nat) (a:Int) (b:List ZU->ByteArray->(List ByteArray)->(List Yi)->(List ZT)->(List ByteArray)->ByteArray->ByteArray->Int->Int->Option ZZ) (c:T0) (d:List ZU) (e:ByteArray) (f:List ByteArray) (g:List Yi) (h:List ZT) (i:List ByteArray) (j:ByteArray) (k:ByteArray) (l:Int):Option ZZ :=
 bif c.Zu.Zq==2 then Lv N a b c d e f g h i j k l 0 40
 else Lv N a b c d e f g h i j k l (-1000) 1000
def R9 (N:Nat) (a:Yi) (b:Int) (c:List ZU->ByteArray->(List ByteArray)->(List Yi)->(List ZT)->(List ByteArray)->ByteArray->ByteArray->Int->Int->Option ZZ) (d:T0):Nat->(List ZU)->ByteArray->(List ByteArray)->(List Yi)->(List ZT)->(List ByteArray)->ByteArray->ByteArray->Int->Int->Option ZZ
 | 0,_,_,_,_,_,_,_,_,_,_=>none
 | e+1,f,g,h,i,j,k,l,m,o,p =>
 bif decide (p < b) then (Z6 a.Zy p).bind fun q =>
 bif q.Zt.toList==d.Zt.toList then (Y3 N (⟨f,(⟨g,h,i,j⟩:ZU),k,(⟨l,m,o⟩:T6)⟩:ZZ) d.Zt 9).bind fun r =>
 (R9 N a b c d e) r.l' r.p'.Zt r.p'.ZD r.p'.ZE r.p'.ZF r.calls' r.first'.ZH r.first'.Zt r.first'.ZI (ZM (p+1))
 else (R9 N a b c d e) f g h i j k l m o (ZM (p+1))
 else Lw N b c d f g h i j k l m o
def Uq (N:Nat) (a:Yi):Nat->(List ZU)->ByteArray->(List ByteArray)->(List Yi)->(List ZT)->(List ByteArray)->ByteArray->ByteArray->Int->Int->Option ZZ
 | 0,_,_,_,_,_,_,_,_,_,_=>none
 | b+1,c,d,e,f,g,h,i,j,k,l =>
 bif decide (l < (a.Zy.length:Int)) then (Z6 a.Zy l).bind fun m =>
 R9 N a l (Uq N a b) m N c d e f g h i j k 0
 else Gw c d e f g h i j k
def Lu (N:Nat) (a:ZZ) (b:Yi):Option ZZ :=
 Uq N b N a.l' a.p'.Zt a.p'.ZD a.p'.ZE a.p'.ZF a.calls' a.first'.ZH a.first'.Zt a.first'.ZI 0
def Pj (N:Nat) (a:Yi) (b:T9) (c:Int) (d:List ZU) (e:ByteArray) (f:List ByteArray) (g:List Yi) (h:List ZT) (i:List ByteArray) (j:ByteArray) (k:ByteArray) (l:Int):Option ZZ :=
 bif decide (c > 0) then bif decide (c < 2) then (Y3 N (⟨d,(⟨e,f,g,h⟩:ZU),i,(⟨j,k,l⟩:T6)⟩:ZZ) a.Zt 11).bind fun m =>
 some m
 else bif !(b.Op.toList==(str [61,61]).toList) then (Y3 N (⟨d,(⟨e,f,g,h⟩:ZU),i,(⟨j,k,l⟩:T6)⟩:ZZ) a.Zt 11).bind fun o =>
 some o
 else bif b.Zw.N != 0 then (Y3 N (⟨d,(⟨e,f,g,h⟩:ZU),i,(⟨j,k,l⟩:T6)⟩:ZZ) a.Zt 11).bind fun p =>
 some p
 else bif b.Zx.N != 0 then (Y3 N (⟨d,(⟨e,f,g,h⟩:ZU),i,(⟨j,k,l⟩:T6)⟩:ZZ) a.Zt 11).bind fun q =>
 some q
 else some (⟨d,(⟨e,f,g,h⟩:ZU),i,(⟨j,k,l⟩:T6)⟩:ZZ)
 else some (⟨d,(⟨e,f,g,h⟩:ZU),i,(⟨j,k,l⟩:T6)⟩:ZZ)
def Gz (N:Nat) (a:Yi) (b:T9) (c:List ZU) (d:ByteArray) (e:List ByteArray) (f:List Yi) (g:List ZT) (h:List ByteArray) (i:ByteArray) (j:ByteArray) (k:Int) (l:Int) (m:Bool):Option ZZ :=
 bif m then (Y3 N (⟨c,(⟨d,e,f,g⟩:ZU),h,(⟨i,j,k⟩:T6)⟩:ZZ) a.Zt 11).bind fun o =>
 Pj N a b l o.l' o.p'.Zt o.p'.ZD o.p'.ZE o.p'.ZF o.calls' o.first'.ZH o.first'.Zt o.first'.ZI
 else Pj N a b l c d e f g h i j k
def GA (a:List ZU) (b:ByteArray) (c:List ByteArray) (d:List Yi) (e:List ZT) (f:List ByteArray) (g:ByteArray) (h:ByteArray) (i:Int) (j:Int) (k:Bool) (l:Int) (m:List ZU->ByteArray->(List ByteArray)->(List Yi)->(List ZT)->(List ByteArray)->ByteArray->ByteArray->Int->Int->Bool->Int->Option ZZ) (o:Int) (p:T0 × Bool) (q:Bool):Option ZZ :=
 bif q then m a b c d e f g h i j true (ZM (l+1))
 else bif o==2 then bif p.1.Zu.Zq==2 then m a b c d e f g h i (ZM (j+1)) k (ZM (l+1))
 else m a b c d e f g h i j k (ZM (l+1))
 else m a b c d e f g h i j k (ZM (l+1))
def Ly (N:Nat) (a:Yi) (b:List ZU) (c:ByteArray) (d:List ByteArray) (e:List Yi) (f:List ZT) (g:List ByteArray) (h:ByteArray) (i:ByteArray) (j:Int) (k:Int) (l:Bool) (m:Int) (o:List ZU->ByteArray->(List ByteArray)->(List Yi)->(List ZT)->(List ByteArray)->ByteArray->ByteArray->Int->Int->Bool->Int->Option ZZ) (p:Int) (q:ByteArray) (r:ByteArray) (s:Int):Option ZZ :=
 bif p==1 then o b c d e f g h i j k l (ZM (m+1))
 else (GZ N (⟨c,d,e,f⟩:ZU) a (⟨p,q,r,s⟩:Ys)).bind fun t =>
 bif !t.2 then (Y3 N (⟨b,(⟨c,d,e,f⟩:ZU),g,(⟨h,i,j⟩:T6)⟩:ZZ) a.Zt 10).bind fun u =>
 o u.l' u.p'.Zt u.p'.ZD u.p'.ZE u.p'.ZF u.calls' u.first'.ZH u.first'.Zt u.first'.ZI k l (ZM (m+1))
 else bif p==3 then GA b c d e f g h i j k l m o p t (t.1.Zu.Zq != 2)
 else GA b c d e f g h i j k l m o p t false
def UQ (N:Nat) (a:Yi) (b:T9):Nat->(List ZU)->ByteArray->(List ByteArray)->(List Yi)->(List ZT)->(List ByteArray)->ByteArray->ByteArray->Int->Int->Bool->Int->Option ZZ
 | 0,_,_,_,_,_,_,_,_,_,_,_,_=>none
 | c+1,d,e,f,g,h,i,j,k,l,m,o,p =>
 bif decide (p < 2) then bif p==0 then Ly N a d e f g h i j k l m o p (UQ N a b c) b.Zw.Zq b.Zw.Zv b.Zw.Field b.Zw.N
 else bif p==1 then Ly N a d e f g h i j k l m o p (UQ N a b c) b.Zx.Zq b.Zx.Zv b.Zx.Field b.Zx.N
 else none
 else Gz N a b d e f g h i j k l m o
def Gy (N:Nat) (a:ZZ) (b:Yi) (c:T9):Option ZZ :=
 UQ N b c N a.l' a.p'.Zt a.p'.ZD a.p'.ZE a.p'.ZF a.calls' a.first'.ZH a.first'.Zt a.first'.ZI 0 false 0
def DG (a:List ZU) (b:ByteArray) (c:List ByteArray) (d:List Yi) (e:List ZT) (f:List ByteArray) (g:ByteArray) (h:ByteArray) (i:Int):Option ZZ :=
 some (⟨a,(⟨b,c,d,e⟩:ZU),f,(⟨g,h,i⟩:T6)⟩:ZZ)
def DH (a:Int) (b:List ZU->ByteArray->(List ByteArray)->(List Yi)->(List ZT)->(List ByteArray)->ByteArray->ByteArray->Int->Int->Option ZZ) (c:List ZU) (d:ByteArray) (e:List ByteArray) (f:List Yi) (g:List ZT) (h:List ByteArray) (i:ByteArray) (j:ByteArray) (k:Int):Option ZZ :=
 b c d e f g h i j k (ZM (a+1))
def P9 (N:Nat) (a:Int) (b:List ZU->ByteArray->(List ByteArray)->(List Yi)->(List ZT)->(List ByteArray)->ByteArray->ByteArray->Int->Int->Option ZZ) (c:Yi):Nat->(List ZU)->ByteArray->(List ByteArray)->(List Yi)->(List ZT)->(List ByteArray)->ByteArray->ByteArray->Int->Int->Option ZZ
 | 0,_,_,_,_,_,_,_,_,_,_=>none
 | d+1,e,f,g,h,i,j,k,l,m,o =>
 bif decide (o < (c.Zz.length:Int)) then (Z6 c.Zz o).bind fun p =>
 (Gy N (⟨e,(⟨f,g,h,i⟩:ZU),j,(⟨k,l,m⟩:T6)⟩:ZZ) c p).bind fun q =>
 (P9 N a b c d) q.l' q.p'.Zt q.p'.ZD q.p'.ZE q.p'.ZF q.calls' q.first'.ZH q.first'.Zt q.first'.ZI (ZM (o+1))
 else DH a b e f g h i j k l m
def TB (N:Nat):Nat->(List ZU)->ByteArray->(List ByteArray)->(List Yi)->(List ZT)->(List ByteArray)->ByteArray->ByteArray->Int->Int->Option ZZ
 | 0,_,_,_,_,_,_,_,_,_,_=>none
 | a+1,b,c,d,e,f,g,h,i,j,k =>
 bif decide (k < (e.length:Int)) then (Z6 e k).bind fun l =>
 P9 N k (TB N a) l N b c d e f g h i j 0
 else DG b c d e f g h i j
def P8 (N:Nat) (a:List ZU) (b:ByteArray) (c:List ByteArray) (d:List Yi) (e:List ZT) (f:List ByteArray) (g:ByteArray) (h:ByteArray) (i:Int):Option ZZ :=
 TB N N a b c d e f g h i 0
def Qu (N:Nat):Nat->(List ZU)->ByteArray->(List ByteArray)->(List Yi)->(List ZT)->(List ByteArray)->ByteArray->ByteArray->Int->(List ByteArray)->Int->Option ZZ
 | 0,_,_,_,_,_,_,_,_,_,_,_=>none
 | a+1,b,c,d,e,f,g,h,i,j,k,l =>
 bif decide (l < (e.length:Int)) then (Z6 e l).bind fun m =>
 (V7 N k m.Zt).bind fun o =>
 bif decide (o>=0) then (Y3 N (⟨b,(⟨c,d,e,f⟩:ZU),g,(⟨h,i,j⟩:T6)⟩:ZZ) m.Zt 9).bind fun p =>
 (YG k ([m.Zt]:List ByteArray)).bind fun q =>
 (Lu N p m).bind fun r =>
 (Qu N a) r.l' r.p'.Zt r.p'.ZD r.p'.ZE r.p'.ZF r.calls' r.first'.ZH r.first'.Zt r.first'.ZI q (ZM (l+1))
 else (YG k ([m.Zt]:List ByteArray)).bind fun s =>
 (Lu N (⟨b,(⟨c,d,e,f⟩:ZU),g,(⟨h,i,j⟩:T6)⟩:ZZ) m).bind fun t =>
 (Qu N a) t.l' t.p'.Zt t.p'.ZD t.p'.ZE t.p'.ZF t.calls' t.first'.ZH t.first'.Zt t.first'.ZI s (ZM (l+1))
 else P8 N b c d e f g h i j
def DF (N:Nat) (a:ZZ):Option ZZ :=
 Qu N N a.l' a.p'.Zt a.p'.ZD a.p'.ZE a.p'.ZF a.calls' a.first'.ZH a.first'.Zt a.first'.ZI ([]:List ByteArray) 0
def ZaZ (a:List ByteArray):Option (List ByteArray) :=
 some a
def Za0 (a:Int) (b:List ByteArray->Int->Option (List ByteArray)) (c:List ByteArray):Option (List ByteArray) :=
 b c (ZM (a+1))
def Po (rc:List ZT->Option (List ByteArray)) (a:List ZT) (b:Int) (c:List ByteArray->Int->Option (List ByteArray)):Nat->(List ByteArray)->Int->Option (List ByteArray)
 | 0,_,_=>none
 | d+1,e,f =>
 (Z6 a b).bind fun g =>
 bif decide (f < (g.ZC.length:Int)) then (Z6 a b).bind fun h =>
 (Z6 h.ZC f).bind fun i =>
 (rc i).bind fun j =>
 (YG e j).bind fun k =>
 (Po rc a b c d) k (ZM (f+1))
 else Za0 b c e
def LB (N:Nat) (rc:List ZT->Option (List ByteArray)) (a:List ZT) (b:Int) (c:List ByteArray->Int->Option (List ByteArray)) (d:List ByteArray):Option (List ByteArray) :=
 Po rc a b c N d 0
def Tr (N:Nat) (rc:List ZT->Option (List ByteArray)) (a:List ZT):Nat->(List ByteArray)->Int->Option (List ByteArray)
 | 0,_,_=>none
 | b+1,c,d =>
 bif decide (d < (a.length:Int)) then (Z6 a d).bind fun e =>
 bif e.Zq==6 then (Z6 a d).bind fun f =>
 (YG c ([f.Zt]:List ByteArray)).bind fun g =>
 LB N rc a d (Tr N rc a b) g
 else LB N rc a d (Tr N rc a b) c
 else ZaZ c
def GD (N:Nat) (rc:List ZT->Option (List ByteArray)) (a:List ZT):Option (List ByteArray) :=
 Tr N rc a N ([]:List ByteArray) 0
def S5:Nat->(List ZT)->Option (List ByteArray)
 | 0,_=>none
 | N+1,a0=>GD N (S5 N) a0
def ZaY (N:Nat) (a:List ZT):Option (List ByteArray):=S5 N a
def Zcv:Option Bool :=
 some false
def Qv (rc:List ZU->ByteArray->Int->Option Bool) (a:List ZU) (b:Int) (c:List ByteArray):Nat->Int->Option Bool
 | 0,_=>none
 | d+1,e =>
 bif decide (e < (c.length:Int)) then bif b==0 then some true
 else (Z6 c e).bind fun f =>
 (rc a f (ZM (b-1))).bind fun g =>
 bif g then some true
 else (Qv rc a b c d) (ZM (e+1))
 else Zcv
def Mb (N:Nat) (rc:List ZU->ByteArray->Int->Option Bool) (a:List ZU) (b:ByteArray) (c:Int):Option Bool :=
 (LA N a b).bind fun d =>
 bif !d.2 then some false
 else (ZaY N d.1.ZF).bind fun e =>
 Qv rc a c e N 0
def Qw:Nat->(List ZU)->ByteArray->Int->Option Bool
 | 0,_,_,_=>none
 | N+1,a0,a1,a2=>Mb N (Qw N) a0 a1 a2
def z52 (N:Nat) (a:List ZU) (b:ByteArray) (c:Int):Option Bool:=Qw N a b c
def Zfz:Option T6 :=
 some (⟨(str []),(str []),0⟩:T6)
def G9 (a:Int) (b:Int->Option T6) (c:List ZU) (d:ByteArray) (e:List ByteArray) (f:List Yi) (g:List ZT) (h:List ByteArray) (i:ByteArray) (j:ByteArray) (k:Int):Option T6 :=
 bif k != 0 then some (⟨i,j,k⟩:T6)
 else b (ZM (a+1))
def L5 (N:Nat) (a:List ZU) (b:Int) (c:Int->Option T6) (d:List ZU) (e:ByteArray) (f:List ByteArray) (g:List Yi) (h:List ZT) (i:List ByteArray) (j:ByteArray) (k:ByteArray) (l:Int):Option T6 :=
 (DF N (⟨d,(⟨e,f,g,h⟩:ZU),i,(⟨j,k,l⟩:T6)⟩:ZZ)).bind fun m =>
 (z51 N m m.p'.ZF ([]:List ByteArray) 0 0).bind fun o =>
 (z52 N a o.p'.Zt 4).bind fun p =>
 bif p then (Y3 N o o.p'.Zt 6).bind fun q =>
 G9 b c q.l' q.p'.Zt q.p'.ZD q.p'.ZE q.p'.ZF q.calls' q.first'.ZH q.first'.Zt q.first'.ZI
 else G9 b c o.l' o.p'.Zt o.p'.ZD o.p'.ZE o.p'.ZF o.calls' o.first'.ZH o.first'.Zt o.first'.ZI
def Qo (N:Nat) (a:List ZU) (b:Int) (c:Int->Option T6):Nat->(List ZU)->ByteArray->(List ByteArray)->(List Yi)->(List ZT)->(List ByteArray)->ByteArray->ByteArray->Int->Int->Option T6
 | 0,_,_,_,_,_,_,_,_,_,_=>none
 | d+1,e,f,g,h,i,j,k,l,m,o =>
 bif decide (o < (g.length:Int)) then (lsl g none (some o)).bind fun p =>
 (Z6 g o).bind fun q =>
 (V7 N p q).bind fun r =>
 bif decide (r>=0) then (Z6 g o).bind fun s =>
 (Y3 N (⟨e,(⟨f,g,h,i⟩:ZU),j,(⟨k,l,m⟩:T6)⟩:ZZ) s 9).bind fun t =>
 (Qo N a b c d) t.l' t.p'.Zt t.p'.ZD t.p'.ZE t.p'.ZF t.calls' t.first'.ZH t.first'.Zt t.first'.ZI (ZM (o+1))
 else (Qo N a b c d) e f g h i j k l m (ZM (o+1))
 else L5 N a b c e f g h i j k l m
def L6 (N:Nat) (a:List ZU) (b:Int) (c:Int->Option T6) (d:List ZU) (e:ByteArray) (f:List ByteArray) (g:List Yi) (h:List ZT) (i:List ByteArray) (j:ByteArray) (k:ByteArray) (l:Int):Option T6 :=
 Qo N a b c N d e f g h i j k l 0
def Rg (N:Nat) (a:List ZU) (b:Int) (c:Int->Option T6):Nat->(List ZU)->ByteArray->(List ByteArray)->(List Yi)->(List ZT)->(List ByteArray)->ByteArray->ByteArray->Int->Int->Option T6
 | 0,_,_,_,_,_,_,_,_,_,_=>none
 | d+1,e,f,g,h,i,j,k,l,m,o =>
 bif decide (o < b) then (Z6 a o).bind fun p =>
 bif p.Zt.toList==f.toList then (Y3 N (⟨e,(⟨f,g,h,i⟩:ZU),j,(⟨k,l,m⟩:T6)⟩:ZZ) f 9).bind fun q =>
 (Rg N a b c d) q.l' q.p'.Zt q.p'.ZD q.p'.ZE q.p'.ZF q.calls' q.first'.ZH q.first'.Zt q.first'.ZI (ZM (o+1))
 else (Rg N a b c d) e f g h i j k l m (ZM (o+1))
 else L6 N a b c e f g h i j k l m
def Vz (N:Nat) (a:List ZU):Nat->Int->Option T6
 | 0,_=>none
 | b+1,c =>
 bif decide (c < (a.length:Int)) then (Z6 a c).bind fun d =>
 Rg N a c (Vz N a b) N a d.Zt d.ZD d.ZE d.ZF ([]:List ByteArray) (str []) (str []) 0 0
 else Zfz
def L4 (N:Nat) (a:List ZU):Option T6 :=
 (DE N a).bind fun b =>
 bif !b then some (⟨(str []),(str []),1⟩:T6)
 else Vz N a N 0
def Gn (N:Nat) (a:List ZU):Option Bool :=
 (L4 N a).bind fun b =>
 some (b.ZI==0)
def HR (N:Nat) (a:List ZU) (b:ZL × Int) (c:Bool):Option Bool :=
 (Gn N a).bind fun d =>
 bif (b.2==1)==(!d) then bif d then some ((b.2==8)==(!c))
 else some ((b.2==8)==false)
 else some false
def RK (N:Nat) (a:List ZU) (b:ByteArray) (c:ZL × Int):Nat->Bool->Int->Option Bool
 | 0,_,_=>none
 | d+1,e,f =>
 bif decide (f < (a.length:Int)) then (Z6 a f).bind fun g =>
 bif e then (RK N a b c d) true (ZM (f+1))
 else (RK N a b c d) (g.Zt.toList==b.toList) (ZM (f+1))
 else HR N a c e
def SI (N:Nat) (a:List ZU) (b:ByteArray):Option Bool :=
 (z7 N).bind fun c =>
 bif !c then (z7 N).bind fun d =>
 some d
 else (z9 N a).bind fun e =>
 bif !e then (z7 N).bind fun f =>
 some f
 else (Gf N a).bind fun g =>
 (z8 N g b).bind fun h =>
 RK N a b h N false 0
end Gx
end
