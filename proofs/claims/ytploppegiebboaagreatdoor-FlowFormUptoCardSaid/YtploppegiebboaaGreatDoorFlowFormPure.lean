/- What each function of the statement computes, as plain definitions. -/
import Derived.Test.YtploppegiebboaaGreatDoorFlowFormCore5
set_option linter.all false
open Nat renaming beq→aF,ble→aY
open ByteArray renaming empty→ao
open Go.Utf8 renaming encode→bV,decode→cv
section
open Go Go.Kx
namespace Gx
def SM:Nat->Nat->List UInt8
 | 0,_=>[]
 | f+1,u=>bif Nat.blt u 10 then [UInt8.ofNat (48+u)] else SM f (u / 10)++[UInt8.ofNat (48+u % 10)]
def RL (n:Int):be:=⟨(bif decide (n < 0) then 45::SM 25 n.natAbs else SM 25 n.toNat).toArray⟩
def Vp (sep:List UInt8):List (List UInt8)->List UInt8
 | []=>[]
 | x::r=>x++(r.map (sep++·)).flatten
structure T7 where
  Zt:Int
  Lo:Int
  Hi:Int
structure T3 where
  Zu:be
  Zv:T7
structure Y5 where
  Zt:Int
  Zw:be
  Field:be
  N:Int
structure Ls where
  Zx:Y5
  Op:be
  Zy:Y5
structure Ve where
  Zu:be
  Zz:List T3
  ZA:List Ls
structure Xq where
  Zt:Int
  ZB:be
  To:List be
  Zu:be
  As:be
  ZC:Int
  ZD:(List (List Xq))
structure Xp where
  Zu:be
  ZE:List be
  ZF:List Ve
  ZG:List Xq
structure Xw where
  Zx:Y5
  Op:be
  Zy:Y5
structure Ys where
  Zu:be
  Zz:List T3
  ZA:List Xw
structure Yj where
  Zt:Int
  ZB:be
  To:List be
  Zu:be
  As:be
  ZC:Int
  ZD:(List (List Yj))
structure Ym where
  Zu:be
  ZE:List be
  ZF:List Ys
  ZG:List Yj
structure YN where
  Zt:Int
  ZH:be
  Value:Int
  ZB:Int
structure Y4 where
  s':be
  ZI:Int
structure Yw where
  l':List YN
  n':Int
  end':Int
  ZI:Int
  ZJ:Int
structure YG where
  Builder:be
  ZK:Int
structure T1 where
  X:Int
  Y:Int
  C:Int
structure T5 where
  ZL:List T1
  ZM:(List (Int × Int))
structure T0 where
  Zu:be
  Zz:List T3
  ZN:Int
  ZO:T5
structure T6 where
  ZB:Int
  To:Int
  ZP:Int
structure T2 where
  ZB:Int
  Act:T6
  To:Int
  Again:Bool
structure T8 where
  ZQ:Int
  ZC:Int
  ZR:Int
structure T4 where
  Zu:be
  ZE:List be
  ZS:List T0
  ZT:Int
  ZU:Int
  ZV:Int
  ZW:List T2
  ZX:List T8
structure Y6 where
  ZY:be
  Zu:be
  ZZ:Int
structure Yp where
  Z2:List Ym
  p':Ym
  Z3:List be
  Z4:Y6
structure YS where
  Z5:be
  Z6:Bool
  Z7:Bool
structure Vl where
  x':Int
  n':Int
structure T9 where
  Z8:T6
  to':Int
  again':Bool
structure VY where
  Z9:Int
  ticks':Int
  Ya:Int
structure YU where
  Yb:List Int
  Yc:List T9
  Yd:List VY
structure X5 where
  p':Ym
  Ye:List YU
structure YR where
  set':List Int
  end':Bool
  again':Bool
  ticks':Int
  other':T6
  acts':List T6
  to':List Int
structure YW where
  set':List Int
  end':Bool
  again':Bool
  ticks':Int
  other':T6
  acts':List T6
  to':(Option (List Int))
def Ba (N:Nat) (a:be) (b:Int):Option Int :=
 some (Ze4 a b)
def BU (N:Nat) (a:be) (b:Int):Option Int :=
 (Ba N a b).bind fun c =>
 some c
def ZgB (N:Nat) (a:Int):Option Bool :=
 bif decide (0<=a) then bif decide (a < 55296) then some true
 else bif decide (57343 < a) then bif decide (a<=1114111) then some true
 else some false
 else some false
 else bif decide (57343 < a) then bif decide (a<=1114111) then some true
 else some false
 else some false
def Zgp (a:Nat):Option Int :=
 some (-1)
def Zch (a:be):Nat->Nat->Option Int
 | 0,_=>none
 | b+1,c =>
 bif decide (c < a.size) then bif ((cv a c).1:Int)==65533 then some ((c:Nat):Int)
 else (Zch a b) (c+(cv a c).2)
 else Zgp c
def Zgq:Option Int :=
 some (-1)
def Zgr (a:Int) (b:Int):Option Int :=
 some (Yh (b-(Yh (((bV a).size:Int)-1))))
def Zci (a:be) (b:Int) (c:Int):Nat->Int->Option Int
 | 0,_=>none
 | d+1,e =>
 bif decide (e < ((bV b).size:Int)) then (XL a (Yh (c-e))).bind fun f =>
 (XL (bV b) (Yh ((Yh (((bV b).size:Int)-1))-e))).bind fun g =>
 bif f != g then ZaA 0
 else (Zci a b c d) (Yh (e+1))
 else Zgr b c
def Zcf (N:Nat) (a:be) (b:Int) (c:Int):Option Int :=
 Zci a b c N 1
def Zgs (N:Nat) (a:be) (b:Int):Nat->Option Int
 | 0=>none
 | c+1 =>
 bif decide ((Yh (((bV b).size:Int)-1)) < (a.size:Int)) then (XL a (Yh (((bV b).size:Int)-1))).bind fun d =>
 (XL (bV b) (Yh (((bV b).size:Int)-1))).bind fun e =>
 bif d != e then (ssl a (some (Yh ((Yh (((bV b).size:Int)-1))+1))) none).bind fun f =>
 (XL (bV b) (Yh (((bV b).size:Int)-1))).bind fun g =>
 (BU N f g).bind fun h =>
 bif decide (h < 0) then some (-1)
 else Zcf N a b (Yh ((Yh (((bV b).size:Int)-1))+(Yh (h+1))))
 else Zcf N a b (Yh (((bV b).size:Int)-1))
 else Zgq
def Zcg (N:Nat) (a:be) (b:Int) (c:Bool):Option Int :=
 bif c then (BU N a (wk .u8 (b))).bind fun d =>
 some d
 else bif b==65533 then Zch a N (0:Nat)
 else (ZgB N b).bind fun e =>
 bif !e then some (-1)
 else Zgs N a b N
def Zgo (N:Nat) (a:be) (b:Int):Option Int :=
 bif decide (0<=b) then Zcg N a b (decide (b < 128))
 else Zcg N a b false
def z71 (N:Nat) (a:be) (b:Int):Option Bool :=
 (Zgo N a b).bind fun c =>
 some (decide (c>=0))
def Zgt (N:Nat) (a:be) (b:be):Option Bool :=
 bif decide ((a.size:Int)>=(b.size:Int)) then (ssl a none (some (b.size:Int))).bind fun c =>
 some (c.toList==b.toList)
 else some false
def z72 (N:Nat) (a:be) (b:be):Option Bool :=
 (Zgt N a b).bind fun c =>
 some c
def ZgN (a:Y4) (b:Int):Option Y4 :=
 some (⟨a.s',b⟩:Y4)
def H8 (N:Nat) (a:Y4):Nat->Int->Option Y4
 | 0,_=>none
 | b+1,c =>
 bif decide (c < (a.s'.size:Int)) then (ssl a.s' (some c) none).bind fun d =>
 (XL d 0).bind fun e =>
 (z71 N (str [32,9,10,13]) (wk .i32 (e))).bind fun f =>
 bif f then (H8 N a b) (Yh (c+1))
 else (z72 N d (str [47,47])).bind fun g =>
 bif g then (BU N d 10).bind fun h =>
 bif decide (h < 0) then (H8 N a b) (Yh (c+(Yh ((Yh ((d.size:Int)-1))+1))))
 else (H8 N a b) (Yh (c+(Yh (h+1))))
 else some (⟨a.s',c⟩:Y4)
 else ZgN a c
def MN (N:Nat) (a:Y4):Option Y4 :=
 H8 N a N a.ZI
def z28 (N:Nat) (a:Int):Option Bool :=
 bif decide (97<=a) then bif decide (a<=122) then some true
 else bif decide (65<=a) then some (decide (a<=90))
 else some false
 else bif decide (65<=a) then some (decide (a<=90))
 else some false
def H9 (N:Nat) (a:Int):Option Bool :=
 bif decide (48<=a) then some (decide (a<=57))
 else some false
def z76 (N:Nat) (a:Int):Option Bool :=
 (z28 N a).bind fun b =>
 bif b then some true
 else (H9 N a).bind fun c =>
 bif c then some true
 else some (a==95)
def Zdt (a:Y4) (b:Int):Option (be × Y4) :=
 (ssl a.s' (some a.ZI) (some b)).bind fun c =>
 some (c,(⟨a.s',b⟩:Y4))
def Zdu (N:Nat) (a:Y4):Nat->Int->Option (be × Y4)
 | 0,_=>none
 | b+1,c =>
 bif decide (c < (a.s'.size:Int)) then (XL a.s' c).bind fun d =>
 (z76 N d).bind fun e =>
 bif e then (Zdu N a b) (Yh (c+1))
 else Zdt a c
 else Zdt a c
def Zg8 (N:Nat) (a:Y4):Option (be × Y4) :=
 Zdu N a N a.ZI
def z29 (N:Nat) (a:Y4):Option (YN × Int × Y4) :=
 (Zg8 N a).bind fun b =>
 bif decide ((b.1.size:Int) > 16) then some ((⟨0,(str []),0,0⟩:YN),6,b.2)
 else some ((⟨1,b.1,0,0⟩:YN),0,b.2)
def Zdv (a:Y4) (b:Int):Option (be × Y4) :=
 (ssl a.s' (some a.ZI) (some b)).bind fun c =>
 some (c,(⟨a.s',b⟩:Y4))
def Zdw (N:Nat) (a:Y4):Nat->Int->Option (be × Y4)
 | 0,_=>none
 | b+1,c =>
 bif decide (c < (a.s'.size:Int)) then (XL a.s' c).bind fun d =>
 (H9 N d).bind fun e =>
 bif e then (Zdw N a b) (Yh (c+1))
 else Zdv a c
 else Zdv a c
def Zg9 (N:Nat) (a:Y4):Option (be × Y4) :=
 Zdw N a N a.ZI
def ZgT (a:be × Y4) (b:Int):Option (YN × Int × Y4) :=
 some ((⟨2,(str []),b,0⟩:YN),0,a.2)
def Zc3 (a:be × Y4):Nat->Int->Int->Option (YN × Int × Y4)
 | 0,_,_=>none
 | b+1,c,d =>
 bif decide (d < (a.1.size:Int)) then (XL a.1 d).bind fun e =>
 (Zc3 a b) (Yh ((Yh (10 * c))+(Yh ((wk .u8 (e-48)))))) (Yh (d+1))
 else ZgT a c
def Bs (N:Nat) (a:be × Y4) (b:Bool):Option (YN × Int × Y4) :=
 bif b then some ((⟨0,(str []),0,0⟩:YN),2,a.2)
 else Zc3 a N 0 0
def Zc2 (N:Nat) (a:be × Y4) (b:Bool):Option (YN × Int × Y4) :=
 bif b then some ((⟨0,(str []),0,0⟩:YN),3,a.2)
 else bif decide ((a.1.size:Int) > 6) then Bs N a true
 else bif decide ((a.1.size:Int) > 1) then (XL a.1 0).bind fun c =>
 Bs N a (c==48)
 else Bs N a false
def z31 (N:Nat) (a:Y4):Option (YN × Int × Y4) :=
 (Zg9 N a).bind fun b =>
 bif decide (b.2.ZI < (b.2.s'.size:Int)) then (XL b.2.s' b.2.ZI).bind fun c =>
 (z76 N c).bind fun d =>
 Zc2 N b d
 else Zc2 N b false
def ZgV (a:Y4) (b:Int):Option (YN × Int × Y4) :=
 some ((⟨0,(str []),0,0⟩:YN),3,(⟨a.s',b⟩:Y4))
def Bt (a:Y4) (b:List Int) (c:Int->(List Int)->Option (YN × Int × Y4)) (d:Int) (e:Int):Option (YN × Int × Y4) :=
 bif decide (e < 32) then some ((⟨0,(str []),0,0⟩:YN),3,(⟨a.s',d⟩:Y4))
 else bif decide (e > 126) then some ((⟨0,(str []),0,0⟩:YN),3,(⟨a.s',d⟩:Y4))
 else (Y7 b ([e]:List Int)).bind fun f =>
 c (Yh (d+1)) f
def MP (a:Y4):Nat->Int->(List Int)->Option (YN × Int × Y4)
 | 0,_,_=>none
 | b+1,c,d =>
 bif decide (c < (a.s'.size:Int)) then (XL a.s' c).bind fun e =>
 bif e==34 then bif decide ((d.length:Int) > 40) then some ((⟨0,(str []),0,0⟩:YN),6,(⟨a.s',(Yh (c+1))⟩:Y4))
 else some ((⟨3,(Zby d),0,0⟩:YN),0,(⟨a.s',(Yh (c+1))⟩:Y4))
 else bif e==92 then bif (Yh (c+1))==(a.s'.size:Int) then some ((⟨0,(str []),0,0⟩:YN),3,(⟨a.s',(Yh (c+1))⟩:Y4))
 else (XL a.s' (Yh (c+1))).bind fun f =>
 bif f != 34 then (XL a.s' (Yh (c+1))).bind fun g =>
 bif g != 92 then some ((⟨0,(str []),0,0⟩:YN),3,(⟨a.s',(Yh (c+1))⟩:Y4))
 else (XL a.s' (Yh (c+1))).bind fun h =>
 Bt a d (MP a b) (Yh (c+1)) h
 else (XL a.s' (Yh (c+1))).bind fun i =>
 Bt a d (MP a b) (Yh (c+1)) i
 else Bt a d (MP a b) c e
 else ZgV a c
def z32 (N:Nat) (a:Y4):Option (YN × Int × Y4) :=
 MP a N (Yh (a.ZI+1)) ([]:List Int)
def z173 (N:Nat) (a:be) (b:be):Option Int :=
 bif (b.size:Int)==0 then some 0
 else bif b.toList==a.toList then some 0
 else bif (b.size:Int)==1 then (XL b 0).bind fun c =>
 (Ba N a c).bind fun d =>
 some d
 else bif decide ((b.size:Int)>=(a.size:Int)) then some (-1)
 else ZaA 0
def Mx (N:Nat) (a:be) (b:be):Option Int :=
 (z173 N a b).bind fun c =>
 some c
def z74 (N:Nat) (a:be) (b:be):Option Bool :=
 (Mx N a b).bind fun c =>
 some (decide (c>=0))
def ZgP (N:Nat) (a:Y4):Option (YN × Int × Y4) :=
 (ssl a.s' (some a.ZI) (some (Yh (a.ZI+1)))).bind fun b =>
 (z74 N (str [40,41,123,125,44,59,58,46,43,45,42,47,37,60,62,61,33]) b).bind fun c =>
 bif !c then some ((⟨0,(str []),0,0⟩:YN),3,a)
 else some ((⟨4,b,0,0⟩:YN),0,(⟨a.s',(Yh (a.ZI+1))⟩:Y4))
def Zc1 (N:Nat) (a:Y4):Nat->Int->Option (YN × Int × Y4)
 | 0,_=>none
 | b+1,c =>
 bif decide (c < 8) then (idx ([(str [45,62]),(str [46,46]),(str [60,61]),(str [62,61]),(str [61,61]),(str [33,61]),(str [38,38]),(str [124,124])]:List be) c).bind fun d =>
 (ssl a.s' (some a.ZI) none).bind fun e =>
 (z72 N e d).bind fun f =>
 bif f then some ((⟨4,d,0,0⟩:YN),0,(⟨a.s',(Yh (a.ZI+2))⟩:Y4))
 else (Zc1 N a b) (Yh (c+1))
 else ZgP N a
def z27 (N:Nat) (a:Y4):Option (YN × Int × Y4) :=
 Zc1 N a N 0
def Zgy (a:List YN):Option ((List YN) × Int × Int) :=
 some (a,0,0)
def ME (N:Nat) (a:be):Nat->(List YN)->be->Int->Option ((List YN) × Int × Int)
 | 0,_,_,_=>none
 | b+1,c,d,e =>
 bif decide (e < (a.size:Int)) then (XL a e).bind fun f =>
 (z28 N f).bind fun g =>
 bif g then (z29 N (⟨d,e⟩:Y4)).bind fun h =>
 bif h.2.1 != 0 then some (([]:List YN),e,h.2.1)
 else (Y7 c ([(⟨h.1.Zt,h.1.ZH,h.1.Value,e⟩:YN)]:List YN)).bind fun i =>
 (MN N h.2.2).bind fun j =>
 (ME N a b) i j.s' j.ZI
 else (H9 N f).bind fun k =>
 bif k then (z31 N (⟨d,e⟩:Y4)).bind fun l =>
 bif l.2.1 != 0 then some (([]:List YN),e,l.2.1)
 else (Y7 c ([(⟨l.1.Zt,l.1.ZH,l.1.Value,e⟩:YN)]:List YN)).bind fun m =>
 (MN N l.2.2).bind fun o =>
 (ME N a b) m o.s' o.ZI
 else bif f==34 then (z32 N (⟨d,e⟩:Y4)).bind fun p =>
 bif p.2.1 != 0 then some (([]:List YN),e,p.2.1)
 else (Y7 c ([(⟨p.1.Zt,p.1.ZH,p.1.Value,e⟩:YN)]:List YN)).bind fun q =>
 (MN N p.2.2).bind fun r =>
 (ME N a b) q r.s' r.ZI
 else (z27 N (⟨d,e⟩:Y4)).bind fun s =>
 bif s.2.1 != 0 then some (([]:List YN),e,s.2.1)
 else (Y7 c ([(⟨s.1.Zt,s.1.ZH,s.1.Value,e⟩:YN)]:List YN)).bind fun t =>
 (MN N s.2.2).bind fun u =>
 (ME N a b) t u.s' u.ZI
 else Zgy c
def z14 (N:Nat) (a:be):Option ((List YN) × Int × Int) :=
 bif decide ((a.size:Int) > 8000) then some (([]:List YN),8000,6)
 else (MN N (⟨a,0⟩:Y4)).bind fun b =>
 ME N a N ([]:List YN) b.s' b.ZI
def Ql (N:Nat) (a:Yw):Option YN :=
 bif a.ZJ != 0 then some (⟨0,(str []),0,0⟩:YN)
 else bif decide (a.n'>=(a.l'.length:Int)) then some (⟨0,(str []),0,0⟩:YN)
 else (idx a.l' a.n').bind fun b =>
 some b
def z79 (N:Nat) (a:Yw) (b:be):Option Bool :=
 (Ql N a).bind fun c =>
 bif c.Zt==4 then some (c.ZH.toList==b.toList)
 else bif c.Zt==1 then some (c.ZH.toList==b.toList)
 else some false
def WO (N:Nat) (a:Yw) (b:be):Option (Bool × Yw) :=
 (z79 N a b).bind fun c =>
 bif !c then some (false,a)
 else some (true,(⟨a.l',(Yh (a.n'+1)),a.end',a.ZI,a.ZJ⟩:Yw))
def Rn (N:Nat) (a:Yw) (b:Int):Option Yw :=
 bif a.ZJ != 0 then some a
 else bif decide (a.n' < (a.l'.length:Int)) then (idx a.l' a.n').bind fun c =>
 some (⟨a.l',a.n',a.end',c.ZB,b⟩:Yw)
 else some (⟨a.l',a.n',a.end',a.end',b⟩:Yw)
def Wg (N:Nat) (a:Yw) (b:be):Option Yw :=
 (WO N a b).bind fun c =>
 bif !c.1 then (Rn N c.2 3).bind fun d =>
 some d
 else some c.2
def ZdD:Option Bool :=
 some true
def Pp (N:Nat) (a:be):Nat->Int->Option Bool
 | 0,_=>none
 | b+1,c =>
 bif decide (c < (a.size:Int)) then (XL a c).bind fun d =>
 (z76 N d).bind fun e =>
 bif !e then some false
 else (Pp N a b) (Yh (c+1))
 else ZdD
def Gt (N:Nat) (a:be):Option Bool :=
 bif a.toList==(str []).toList then some false
 else bif decide ((a.size:Int) > 16) then some false
 else (XL a 0).bind fun b =>
 (z28 N b).bind fun c =>
 bif !c then some false
 else Pp N a N 0
def HS:Option Int :=
 some (-1)
def Ta (a:List be) (b:be):Nat->Int->Option Int
 | 0,_=>none
 | c+1,d =>
 bif decide (d < (a.length:Int)) then (idx a d).bind fun e =>
 bif b.toList==e.toList then some d
 else (Ta a b c) (Yh (d+1))
 else HS
def TK (N:Nat) (a:List be) (b:be):Option Int :=
 Ta a b N 0
def VW (N:Nat) (a:List be) (b:be):Option Bool :=
 (TK N a b).bind fun c =>
 some (decide (c>=0))
def Vs (N:Nat) (a:be):Option Bool :=
 (Gt N a).bind fun b =>
 bif b then (VW N ([(str [97,103,97,105,110]),(str [97,110,100]),(str [97,115]),(str [97,116]),(str [99,97,108,108]),(str [99,104,111,105,99,101]),(str [101,108,115,101]),(str [102,114,111,109]),(str [105,102]),(str [105,110,116]),(str [108,101,110]),(str [108,111,111,112]),(str [109,101,115,115,97,103,101]),(str [111,102]),(str [111,102,102,101,114]),(str [111,110]),(str [111,114]),(str [112,97,114]),(str [112,108,97,121,115]),(str [112,114,111,116,111,99,111,108]),(str [115,101,114,118,105,99,101]),(str [116,101,120,116]),(str [116,105,109,101,115]),(str [116,111]),(str [118,97,114]),(str [119,104,101,114,101]),(str [119,104,105,108,101]),(str [119,105,116,104,105,110])]:List be) a).bind fun c =>
 some (!c)
 else some false
def TO (N:Nat) (a:Yw):Option (be × Yw) :=
 (Ql N a).bind fun b =>
 bif b.Zt != 1 then (Rn N a 3).bind fun c =>
 some ((str []),c)
 else (Vs N b.ZH).bind fun d =>
 bif !d then (Rn N a 3).bind fun e =>
 some ((str []),e)
 else some (b.ZH,(⟨a.l',(Yh (a.n'+1)),a.end',a.ZI,a.ZJ⟩:Yw))
def ZgX (a:List YN) (b:Int) (c:Int) (d:Int) (e:Int) (f:List be):Option ((List be) × Yw) :=
 some (f,(⟨a,b,c,d,e⟩:Yw))
def Zc4 (N:Nat):Nat->(List YN)->Int->Int->Int->Int->(List be)->Option ((List be) × Yw)
 | 0,_,_,_,_,_,_=>none
 | a+1,b,c,d,e,f,g =>
 (WO N (⟨b,c,d,e,f⟩:Yw) (str [44])).bind fun h =>
 bif h.1 then (TO N h.2).bind fun i =>
 (Y7 g ([i.1]:List be)).bind fun j =>
 (Zc4 N a) i.2.l' i.2.n' i.2.end' i.2.ZI i.2.ZJ j
 else ZgX h.2.l' h.2.n' h.2.end' h.2.ZI h.2.ZJ g
def Bu (N:Nat) (a:Yw):Option ((List be) × Yw) :=
 (TO N a).bind fun b =>
 Zc4 N N b.2.l' b.2.n' b.2.end' b.2.ZI b.2.ZJ ([b.1]:List be)
def Zhb (a:List YN) (b:Int) (c:Int) (d:Int) (e:Int) (f:be):Option (be × Yw) :=
 some (f,(⟨a,b,c,d,e⟩:Yw))
def Zdy (N:Nat):Nat->(List YN)->Int->Int->Int->Int->be->Option (be × Yw)
 | 0,_,_,_,_,_,_=>none
 | a+1,b,c,d,e,f,g =>
 (WO N (⟨b,c,d,e,f⟩:Yw) (str [46])).bind fun h =>
 bif h.1 then (TO N h.2).bind fun i =>
 (XR (str [46]) i.1).bind fun j =>
 (XR g j).bind fun k =>
 (Zdy N a) i.2.l' i.2.n' i.2.end' i.2.ZI i.2.ZJ k
 else Zhb h.2.l' h.2.n' h.2.end' h.2.ZI h.2.ZJ g
def Pn (N:Nat) (a:Yw):Option (be × Yw) :=
 (TO N a).bind fun b =>
 Zdy N N b.2.l' b.2.n' b.2.end' b.2.ZI b.2.ZJ b.1
def TJ (N:Nat) (a:Yw):Option (Int × Yw) :=
 (Ql N a).bind fun b =>
 bif b.Zt != 2 then (Rn N a 3).bind fun c =>
 some (0,c)
 else some (b.Value,(⟨a.l',(Yh (a.n'+1)),a.end',a.ZI,a.ZJ⟩:Yw))
def HQ (N:Nat) (a:Yw):Option (Int × Yw) :=
 (WO N a (str [45])).bind fun b =>
 bif b.1 then (TJ N b.2).bind fun c =>
 some ((Yh (0-c.1)),c.2)
 else (TJ N b.2).bind fun d =>
 some (d.1,d.2)
def z81 (N:Nat) (a:Yw):Option (T3 × Yw) :=
 (TO N a).bind fun b =>
 (Wg N b.2 (str [58])).bind fun c =>
 (WO N c (str [105,110,116])).bind fun d =>
 bif !d.1 then (Wg N d.2 (str [116,101,120,116])).bind fun e =>
 (TJ N e).bind fun f =>
 (Wg N f.2 (str [46,46])).bind fun g =>
 (TJ N g).bind fun h =>
 some ((⟨b.1,(⟨2,f.1,h.1⟩:T7)⟩:T3),h.2)
 else (HQ N d.2).bind fun i =>
 (Wg N i.2 (str [46,46])).bind fun j =>
 (HQ N j).bind fun k =>
 some ((⟨b.1,(⟨1,i.1,k.1⟩:T7)⟩:T3),k.2)
def ZgI:Option Int :=
 some (-1)
def ZcR (a:be) (b:Int):Nat->Int->Option Int
 | 0,_=>none
 | c+1,d =>
 bif decide (d>=0) then (XL a d).bind fun e =>
 bif e==b then some d
 else (ZcR a b c) (Yh (d-1))
 else ZgI
def ZgH (N:Nat) (a:be) (b:Int):Option Int :=
 ZcR a b N (Yh ((a.size:Int)-1))
def ZgC (N:Nat) (a:be) (b:Int):Option Int :=
 (ZgH N a b).bind fun c =>
 some c
def Zcm (N:Nat) (a:List YN) (b:Int) (c:Int) (d:Int) (e:Int) (f:Int) (g:be) (h:be):Option (Y5 × Yw) :=
 (WO N (⟨a,b,c,d,e⟩:Yw) (str [43])).bind fun i =>
 bif i.1 then (TJ N i.2).bind fun j =>
 some ((⟨f,g,h,j.1⟩:Y5),j.2)
 else (WO N i.2 (str [45])).bind fun k =>
 bif k.1 then (TJ N k.2).bind fun l =>
 some ((⟨f,g,h,(Yh (0-l.1))⟩:Y5),l.2)
 else some ((⟨f,g,h,0⟩:Y5),k.2)
def Zcn (N:Nat) (a:List YN) (b:Int) (c:Int) (d:Int) (e:Int) (f:Int) (g:be):Option (Y5 × Yw) :=
 (ZgC N g 46).bind fun h =>
 bif decide (h>=0) then (ssl g none (some h)).bind fun i =>
 (ssl g (some (Yh (h+1))) none).bind fun j =>
 Zcm N a b c d e f i j
 else Zcm N a b c d e f (str []) g
def HR (N:Nat) (a:Yw):Option (Y5 × Yw) :=
 (z79 N a (str [45])).bind fun b =>
 bif b then (HQ N a).bind fun c =>
 some ((⟨1,(str []),(str []),c.1⟩:Y5),c.2)
 else (Ql N a).bind fun d =>
 bif d.Zt==2 then (HQ N a).bind fun e =>
 some ((⟨1,(str []),(str []),e.1⟩:Y5),e.2)
 else (WO N a (str [108,101,110])).bind fun f =>
 bif f.1 then (Wg N f.2 (str [40])).bind fun g =>
 (Pn N g).bind fun h =>
 (Wg N h.2 (str [41])).bind fun i =>
 Zcn N i.l' i.n' i.end' i.ZI i.ZJ 3 h.1
 else (Pn N f.2).bind fun j =>
 Zcn N j.2.l' j.2.n' j.2.end' j.2.ZI j.2.ZJ 2 j.1
def Gv (N:Nat):Option (List be) :=
 some ([(str [60]),(str [60,61]),(str [61,61]),(str [62,61]),(str [62])]:List be)
def z82 (N:Nat) (a:Yw):Option (Xw × Yw) :=
 (HR N a).bind fun b =>
 (Ql N b.2).bind fun c =>
 bif c.Zt==4 then (Gv N).bind fun d =>
 (VW N d c.ZH).bind fun e =>
 bif e then (HR N (⟨b.2.l',(Yh (b.2.n'+1)),b.2.end',b.2.ZI,b.2.ZJ⟩:Yw)).bind fun f =>
 some ((⟨b.1,c.ZH,f.1⟩:Xw),f.2)
 else (Rn N b.2 3).bind fun g =>
 (HR N g).bind fun h =>
 some ((⟨b.1,(str []),h.1⟩:Xw),h.2)
 else (Rn N b.2 3).bind fun i =>
 (HR N i).bind fun j =>
 some ((⟨b.1,(str []),j.1⟩:Xw),j.2)
def ZgY (N:Nat) (a:be × Yw) (b:List T3) (c:List YN) (d:Int) (e:Int) (f:Int) (g:Int) (h:List Xw):Option (Ys × Yw) :=
 (Wg N (⟨c,d,e,f,g⟩:Yw) (str [59])).bind fun i =>
 some ((⟨a.1,b,h⟩:Ys),i)
def Zc6 (N:Nat) (a:be × Yw) (b:List T3):Nat->(List YN)->Int->Int->Int->Int->(List Xw)->Option (Ys × Yw)
 | 0,_,_,_,_,_,_=>none
 | c+1,d,e,f,g,h,i =>
 (WO N (⟨d,e,f,g,h⟩:Yw) (str [97,110,100])).bind fun j =>
 bif j.1 then (z82 N j.2).bind fun k =>
 (Y7 i ([k.1]:List Xw)).bind fun l =>
 (Zc6 N a b c) k.2.l' k.2.n' k.2.end' k.2.ZI k.2.ZJ l
 else ZgY N a b j.2.l' j.2.n' j.2.end' j.2.ZI j.2.ZJ i
def Zc5 (N:Nat) (a:be × Yw) (b:List YN) (c:Int) (d:Int) (e:Int) (f:Int) (g:List T3):Option (Ys × Yw) :=
 (WO N (⟨b,c,d,e,f⟩:Yw) (str [119,104,101,114,101])).bind fun h =>
 bif h.1 then (z82 N h.2).bind fun i =>
 (Y7 ([]:List Xw) ([i.1]:List Xw)).bind fun j =>
 Zc6 N a g N i.2.l' i.2.n' i.2.end' i.2.ZI i.2.ZJ j
 else (Wg N h.2 (str [59])).bind fun k =>
 some ((⟨a.1,g,([]:List Xw)⟩:Ys),k)
def ZgZ (N:Nat) (a:be × Yw) (b:List YN) (c:Int) (d:Int) (e:Int) (f:Int) (g:List T3):Option (Ys × Yw) :=
 (Wg N (⟨b,c,d,e,f⟩:Yw) (str [41])).bind fun h =>
 Zc5 N a h.l' h.n' h.end' h.ZI h.ZJ g
def Zc7 (N:Nat) (a:be × Yw):Nat->(List YN)->Int->Int->Int->Int->(List T3)->Option (Ys × Yw)
 | 0,_,_,_,_,_,_=>none
 | b+1,c,d,e,f,g,h =>
 (WO N (⟨c,d,e,f,g⟩:Yw) (str [44])).bind fun i =>
 bif i.1 then (z81 N i.2).bind fun j =>
 (Y7 h ([j.1]:List T3)).bind fun k =>
 (Zc7 N a b) j.2.l' j.2.n' j.2.end' j.2.ZI j.2.ZJ k
 else ZgZ N a i.2.l' i.2.n' i.2.end' i.2.ZI i.2.ZJ h
def z37 (N:Nat) (a:Yw):Option (Ys × Yw) :=
 (Pn N a).bind fun b =>
 (Wg N b.2 (str [40])).bind fun c =>
 (WO N c (str [41])).bind fun d =>
 bif !d.1 then (z81 N d.2).bind fun e =>
 (Y7 ([]:List T3) ([e.1]:List T3)).bind fun f =>
 Zc7 N b N e.2.l' e.2.n' e.2.end' e.2.ZI e.2.ZJ f
 else Zc5 N b d.2.l' d.2.n' d.2.end' d.2.ZI d.2.ZJ ([]:List T3)
def Qf (N:Nat) (rc:Yw->Option ((List Yj) × Yw)) (a:Yw):Option ((List Yj) × Yw) :=
 (Wg N a (str [123])).bind fun b =>
 (rc b).bind fun c =>
 (Wg N c.2 (str [125])).bind fun d =>
 some (c.1,d)
def Zgx (N:Nat) (rc:Yw->Option ((List Yj) × Yw)) (a:be × Yw) (b:Int) (c:List YN) (d:Int) (e:Int) (f:Int) (g:Int) (h:(List (List Yj))):Option (Yj × Yw) :=
 bif decide (b > 0) then (Wg N (⟨c,d,e,f,g⟩:Yw) (str [101,108,115,101])).bind fun i =>
 (Qf N rc i).bind fun j =>
 (Y7 h ([j.1]:List (List Yj))).bind fun k =>
 some ((⟨2,a.1,([]:List be),(str []),(str []),b,k⟩:Yj),j.2)
 else some ((⟨2,a.1,([]:List be),(str []),(str []),b,h⟩:Yj),(⟨c,d,e,f,g⟩:Yw))
def Zco (N:Nat) (rc:Yw->Option ((List Yj) × Yw)) (a:be × Yw) (b:Int):Nat->(List YN)->Int->Int->Int->Int->(List (List Yj))->Option (Yj × Yw)
 | 0,_,_,_,_,_,_=>none
 | c+1,d,e,f,g,h,i =>
 (WO N (⟨d,e,f,g,h⟩:Yw) (str [111,114])).bind fun j =>
 bif j.1 then (Qf N rc j.2).bind fun k =>
 (Y7 i ([k.1]:List (List Yj))).bind fun l =>
 (Zco N rc a b c) k.2.l' k.2.n' k.2.end' k.2.ZI k.2.ZJ l
 else Zgx N rc a b j.2.l' j.2.n' j.2.end' j.2.ZI j.2.ZJ i
def My (N:Nat) (rc:Yw->Option ((List Yj) × Yw)) (a:be × Yw) (b:List YN) (c:Int) (d:Int) (e:Int) (f:Int) (g:Int):Option (Yj × Yw) :=
 (Qf N rc (⟨b,c,d,e,f⟩:Yw)).bind fun h =>
 Zco N rc a g N h.2.l' h.2.n' h.2.end' h.2.ZI h.2.ZJ ([h.1]:List (List Yj))
def Zgw (N:Nat) (rc:Yw->Option ((List Yj) × Yw)) (a:Yw):Option (Yj × Yw) :=
 (Wg N a (str [97,116])).bind fun b =>
 (TO N b).bind fun c =>
 (WO N c.2 (str [119,105,116,104,105,110])).bind fun d =>
 bif d.1 then (Ql N d.2).bind fun e =>
 bif e.Zt==2 then bif decide (e.Value < 1) then (Rn N d.2 2).bind fun f =>
 (TJ N f).bind fun g =>
 My N rc c g.2.l' g.2.n' g.2.end' g.2.ZI g.2.ZJ g.1
 else bif decide (e.Value > 1000) then (Rn N d.2 2).bind fun h =>
 (TJ N h).bind fun i =>
 My N rc c i.2.l' i.2.n' i.2.end' i.2.ZI i.2.ZJ i.1
 else (TJ N d.2).bind fun j =>
 My N rc c j.2.l' j.2.n' j.2.end' j.2.ZI j.2.ZJ j.1
 else (TJ N d.2).bind fun k =>
 My N rc c k.2.l' k.2.n' k.2.end' k.2.ZI k.2.ZJ k.1
 else My N rc c d.2.l' d.2.n' d.2.end' d.2.ZI d.2.ZJ 0
def Zhc (a:List YN) (b:Int) (c:Int) (d:Int) (e:Int) (f:(List (List Yj))):Option (Yj × Yw) :=
 some ((⟨5,(str []),([]:List be),(str []),(str []),0,f⟩:Yj),(⟨a,b,c,d,e⟩:Yw))
def ZdC (N:Nat) (rc:Yw->Option ((List Yj) × Yw)):Nat->(List YN)->Int->Int->Int->Int->(List (List Yj))->Option (Yj × Yw)
 | 0,_,_,_,_,_,_=>none
 | a+1,b,c,d,e,f,g =>
 (WO N (⟨b,c,d,e,f⟩:Yw) (str [97,110,100])).bind fun h =>
 bif h.1 then (Qf N rc h.2).bind fun i =>
 (Y7 g ([i.1]:List (List Yj))).bind fun j =>
 (ZdC N rc a) i.2.l' i.2.n' i.2.end' i.2.ZI i.2.ZJ j
 else Zhc h.2.l' h.2.n' h.2.end' h.2.ZI h.2.ZJ g
def z84 (N:Nat) (rc:Yw->Option ((List Yj) × Yw)) (a:Yw):Option (Yj × Yw) :=
 (WO N a (str [99,104,111,105,99,101])).bind fun b =>
 bif b.1 then (Zgw N rc b.2).bind fun c =>
 some (c.1,c.2)
 else (WO N b.2 (str [108,111,111,112])).bind fun d =>
 bif d.1 then (Pn N d.2).bind fun e =>
 (Qf N rc e.2).bind fun f =>
 some ((⟨3,(str []),([]:List be),e.1,(str []),0,([f.1]:List (List Yj))⟩:Yj),f.2)
 else (WO N d.2 (str [97,103,97,105,110])).bind fun g =>
 bif g.1 then (Pn N g.2).bind fun h =>
 (Wg N h.2 (str [59])).bind fun i =>
 some ((⟨4,(str []),([]:List be),h.1,(str []),0,([]:List (List Yj))⟩:Yj),i)
 else (WO N g.2 (str [112,97,114])).bind fun j =>
 bif j.1 then (Qf N rc j.2).bind fun k =>
 (Wg N k.2 (str [97,110,100])).bind fun l =>
 (Qf N rc l).bind fun m =>
 (Y7 ([k.1]:List (List Yj)) ([m.1]:List (List Yj))).bind fun o =>
 ZdC N rc N m.2.l' m.2.n' m.2.end' m.2.ZI m.2.ZJ o
 else (WO N j.2 (str [99,97,108,108])).bind fun p =>
 bif p.1 then (TO N p.2).bind fun q =>
 (Wg N q.2 (str [40])).bind fun r =>
 (Bu N r).bind fun s =>
 (Wg N s.2 (str [41])).bind fun t =>
 (Wg N t (str [97,115])).bind fun u =>
 (TO N u).bind fun v =>
 (Wg N v.2 (str [59])).bind fun w =>
 some ((⟨6,(str []),s.1,q.1,v.1,0,([]:List (List Yj))⟩:Yj),w)
 else (TO N p.2).bind fun x =>
 (Wg N x.2 (str [45,62])).bind fun y =>
 (Bu N y).bind fun z =>
 (Wg N z.2 (str [58])).bind fun A =>
 (Pn N A).bind fun B =>
 (Wg N B.2 (str [59])).bind fun C =>
 some ((⟨1,x.1,z.1,B.1,(str []),0,([]:List (List Yj))⟩:Yj),C)
def Bv (N:Nat) (rc:Yw->Option ((List Yj) × Yw)):Nat->(List YN)->Int->Int->Int->Int->(List Yj)->Option ((List Yj) × Yw)
 | 0,_,_,_,_,_,_=>none
 | a+1,b,c,d,e,f,g =>
 (Ql N (⟨b,c,d,e,f⟩:Yw)).bind fun h =>
 bif h.Zt != 1 then some (g,(⟨b,c,d,e,f⟩:Yw))
 else (Vs N h.ZH).bind fun i =>
 bif !i then (VW N ([(str [99,104,111,105,99,101]),(str [108,111,111,112]),(str [97,103,97,105,110]),(str [112,97,114]),(str [99,97,108,108])]:List be) h.ZH).bind fun j =>
 bif !j then some (g,(⟨b,c,d,e,f⟩:Yw))
 else (z84 N rc (⟨b,c,d,e,f⟩:Yw)).bind fun k =>
 (Y7 g ([k.1]:List Yj)).bind fun l =>
 (Bv N rc a) k.2.l' k.2.n' k.2.end' k.2.ZI k.2.ZJ l
 else (z84 N rc (⟨b,c,d,e,f⟩:Yw)).bind fun m =>
 (Y7 g ([m.1]:List Yj)).bind fun o =>
 (Bv N rc a) m.2.l' m.2.n' m.2.end' m.2.ZI m.2.ZJ o
def Zg0 (N:Nat) (rc:Yw->Option ((List Yj) × Yw)) (a:Yw):Option ((List Yj) × Yw) :=
 Bv N rc N a.l' a.n' a.end' a.ZI a.ZJ ([]:List Yj)
def Zc8:Nat->Yw->Option ((List Yj) × Yw)
 | 0,_=>none
 | N+1,a0=>Zg0 N (Zc8 N) a0
def z38 (N:Nat) (a:Yw):Option ((List Yj) × Yw):=Zc8 N a
def ZgA (N:Nat) (a:be × Yw) (b:List be × Yw) (c:List YN) (d:Int) (e:Int) (f:Int) (g:Int) (h:List Ys):Option (Ym × Yw) :=
 (z38 N (⟨c,d,e,f,g⟩:Yw)).bind fun i =>
 (Wg N i.2 (str [125])).bind fun j =>
 some ((⟨a.1,b.1,h,i.1⟩:Ym),j)
def ZcD (N:Nat) (a:be × Yw) (b:List be × Yw):Nat->(List YN)->Int->Int->Int->Int->(List Ys)->Option (Ym × Yw)
 | 0,_,_,_,_,_,_=>none
 | c+1,d,e,f,g,h,i =>
 (WO N (⟨d,e,f,g,h⟩:Yw) (str [109,101,115,115,97,103,101])).bind fun j =>
 bif j.1 then (z37 N j.2).bind fun k =>
 (Y7 i ([k.1]:List Ys)).bind fun l =>
 (ZcD N a b c) k.2.l' k.2.n' k.2.end' k.2.ZI k.2.ZJ l
 else ZgA N a b j.2.l' j.2.n' j.2.end' j.2.ZI j.2.ZJ i
def z15 (N:Nat) (a:Yw):Option (Ym × Yw) :=
 (Wg N a (str [112,114,111,116,111,99,111,108])).bind fun b =>
 (TO N b).bind fun c =>
 (Wg N c.2 (str [40])).bind fun d =>
 (Bu N d).bind fun e =>
 (Wg N e.2 (str [41])).bind fun f =>
 (Wg N f (str [123])).bind fun g =>
 ZcD N c e N g.l' g.n' g.end' g.ZI g.ZJ ([]:List Ys)
def z87 (N:Nat) (a:be):Option Bool :=
 (Vs N a).bind fun b =>
 some (!b)
def Zcq:Option Int :=
 some (-1)
def MA (N:Nat) (a:List be):Nat->Int->Option Int
 | 0,_=>none
 | b+1,c =>
 bif decide (c < (a.length:Int)) then (idx a c).bind fun d =>
 (z87 N d).bind fun e =>
 bif e then some c
 else (MA N a b) (Yh (c+1))
 else Zcq
def Zcp (N:Nat) (a:List be):Option Int :=
 MA N a N 0
def ZdE (N:Nat) (a:List be):Option Bool :=
 (Zcp N a).bind fun b =>
 some (decide (b>=0))
def MQ (N:Nat) (a:List be) (b:Int):Option Bool :=
 bif decide ((a.length:Int)>=1) then bif decide ((a.length:Int)<=b) then (ZdE N a).bind fun c =>
 some (!c)
 else some false
 else some false
def ZgL (a:Int) (b:Nat):Option Int :=
 some a
def ZcW (a:be):Nat->Int->Nat->Option Int
 | 0,_,_=>none
 | b+1,c,d =>
 bif decide (d < a.size) then (ZcW a b) (Yh (c+1)) (d+(cv a d).2)
 else ZgL c d
def z229 (N:Nat) (a:be):Option Int :=
 ZcW a N 0 (0:Nat)
def ZcX (N:Nat) (a:be):Option (Int × Int) :=
 bif decide ((a.size:Int) < 1) then some (65533,0)
 else (XL a 0).bind fun b =>
 ZaA 0
def ZgM (N:Nat) (a:be):Option (Int × Int) :=
 bif !(a.toList==(str []).toList) then (XL a 0).bind fun b =>
 bif decide (b < 128) then (XL a 0).bind fun c =>
 some ((wk .i32 (c)),1)
 else (ZcX N a).bind fun d =>
 some (d.1,d.2)
 else (ZcX N a).bind fun e =>
 some (e.1,e.2)
def ZgK (a:Int) (b:be) (c:List be):Option (List be) :=
 bif decide (a > 0) then (idx c (Yh (a-1))).bind fun d =>
 some (YA c (Yh (a-1)) b)
 else some c
def ZcU (N:Nat) (a:Int):Nat->be->(List be)->Int->Option (List be)
 | 0,_,_,_=>none
 | b+1,c,d,e =>
 bif decide (e < (Yh (a-1))) then (ZgM N c).bind fun f =>
 (ssl c none (some f.2)).bind fun g =>
 (idx d e).bind fun h =>
 (ssl c (some f.2) none).bind fun i =>
 (ZcU N a b) i (YA d e g) (Yh (e+1))
 else ZgK a c d
def ZcS (N:Nat) (a:be) (b:Int):Option (List be) :=
 (W8 (str []) b b).bind fun c =>
 ZcU N b N a c 0
def ZcT (N:Nat) (a:be) (b:Int) (c:Int) (d:Bool):Option (List be) :=
 bif d then ZcS N a c
 else ZcS N a b
def ZgJ (N:Nat) (a:be) (b:Int):Option (List be) :=
 (z229 N a).bind fun c =>
 bif decide (b < 0) then ZcT N a b c true
 else ZcT N a b c (decide (b > c))
def ZcV (N:Nat) (a:be):Nat->be->Int->Option Int
 | 0,_,_=>none
 | b+1,c,d =>
 (Mx N c a).bind fun e =>
 bif e==(-1) then some d
 else (ssl c (some (Yh (e+(a.size:Int)))) none).bind fun f =>
 (ZcV N a b) f (Yh (d+1))
def Bk (N:Nat) (a:be) (b:be):Option Int :=
 bif (b.size:Int)==0 then (z229 N a).bind fun c =>
 some (Yh (c+1))
 else bif (b.size:Int)==1 then (XL b 0).bind fun d =>
 some (Zax a d)
 else ZcV N b N a 0
def HY (a:be) (b:List be) (c:Int):Option (List be) :=
 (idx b c).bind fun d =>
 (lsl (YA b c a) none (some (Yh (c+1)))).bind fun e =>
 some e
def Pc (N:Nat) (a:be) (b:be) (c:Int) (d:Int):Nat->be->(List be)->Int->Option (List be)
 | 0,_,_,_=>none
 | e+1,f,g,h =>
 bif decide (h < (Yh ((VA d (Yh ((a.size:Int)+1)))-1))) then (Mx N f b).bind fun i =>
 bif decide (i < 0) then HY f g h
 else (ssl f none (some (Yh (i+c)))).bind fun j =>
 (idx g h).bind fun k =>
 (ssl f (some (Yh (i+(b.size:Int)))) none).bind fun l =>
 (Pc N a b c d e) l (YA g h j) (Yh (h+1))
 else HY f g h
def Bi (N:Nat) (a:be) (b:be) (c:Int) (d:Int):Option (List be) :=
 (W8 (str []) (VA d (Yh ((a.size:Int)+1))) (VA d (Yh ((a.size:Int)+1)))).bind fun e =>
 Pc N a b c d N a e 0
def ZcM (N:Nat) (a:be) (b:be) (c:Int) (d:Int):Option (List be) :=
 bif d==0 then some ([]:List be)
 else bif b.toList==(str []).toList then (ZgJ N a d).bind fun e =>
 some e
 else bif decide (d < 0) then (Bk N a b).bind fun f =>
 Bi N a b c (Yh (f+1))
 else Bi N a b c d
def Be (N:Nat) (a:be) (b:be):Option (List be) :=
 (ZcM N a b 0 (-1)).bind fun c =>
 some c
def z146 (N:Nat) (a:be):Option Bool :=
 (Vs N a).bind fun b =>
 some (!b)
def Zct:Option Int :=
 some (-1)
def MC (N:Nat) (a:List be):Nat->Int->Option Int
 | 0,_=>none
 | b+1,c =>
 bif decide (c < (a.length:Int)) then (idx a c).bind fun d =>
 (z146 N d).bind fun e =>
 bif e then some c
 else (MC N a b) (Yh (c+1))
 else Zct
def Zcr (N:Nat) (a:List be):Option Int :=
 MC N a N 0
def ZdF (N:Nat) (a:List be):Option Bool :=
 (Zcr N a).bind fun b =>
 some (decide (b>=0))
def Qm (N:Nat) (a:be):Option Bool :=
 bif decide ((a.size:Int)<=50) then (Be N a (str [46])).bind fun b =>
 (ZdF N b).bind fun c =>
 some (!c)
 else some false
def La (N:Nat) (a:Yj) (b:Bool):Option Bool :=
 bif b then bif a.ZB.toList==(str []).toList then bif (a.To.length:Int)==0 then (Qm N a.Zu).bind fun c =>
 bif c then bif a.As.toList==(str []).toList then bif a.ZC==0 then bif (a.Zt==3)==((a.ZD.length:Int)==1) then some (decide ((a.ZD.length:Int)<=1))
 else some false
 else some false
 else some false
 else some false
 else some false
 else some false
 else bif a.Zt==5 then bif a.ZB.toList==(str []).toList then bif (a.To.length:Int)==0 then bif a.Zu.toList==(str []).toList then bif a.As.toList==(str []).toList then bif a.ZC==0 then bif decide ((a.ZD.length:Int)>=2) then some (decide ((a.ZD.length:Int)<=8))
 else some false
 else some false
 else some false
 else some false
 else some false
 else some false
 else bif a.Zt==6 then bif a.ZB.toList==(str []).toList then (MQ N a.To 6).bind fun d =>
 bif d then (Vs N a.Zu).bind fun e =>
 bif e then (Vs N a.As).bind fun f =>
 bif f then bif a.ZC==0 then some ((a.ZD.length:Int)==0)
 else some false
 else some false
 else some false
 else some false
 else some false
 else some false
def BV (N:Nat) (a:Yj):Option Bool :=
 bif a.Zt==1 then (Vs N a.ZB).bind fun b =>
 bif b then (MQ N a.To 5).bind fun c =>
 bif c then (Qm N a.Zu).bind fun d =>
 bif d then bif a.As.toList==(str []).toList then bif a.ZC==0 then some ((a.ZD.length:Int)==0)
 else some false
 else some false
 else some false
 else some false
 else some false
 else bif a.Zt==2 then (Vs N a.ZB).bind fun e =>
 bif e then bif (a.To.length:Int)==0 then bif a.Zu.toList==(str []).toList then bif a.As.toList==(str []).toList then bif decide (a.ZC>=0) then bif decide (a.ZC<=1000) then bif decide ((a.ZD.length:Int)>=(Yh (1+(VA a.ZC 1)))) then some (decide ((a.ZD.length:Int)<=8))
 else some false
 else some false
 else some false
 else some false
 else some false
 else some false
 else some false
 else bif a.Zt==3 then La N a true
 else La N a (a.Zt==4)
def Zc9 (a:Int):Option (Bool × Int) :=
 some (true,a)
def Zda (a:Int) (b:Int->Int->Option (Bool × Int)) (c:Int):Option (Bool × Int) :=
 b c (Yh (a+1))
def MR (rc:List Yj->Int->Int->Option (Bool × Int)) (a:Int) (b:Int) (c:Int->Int->Option (Bool × Int)) (d:Yj):Nat->Int->Int->Option (Bool × Int)
 | 0,_,_=>none
 | e+1,f,g =>
 bif decide (g < (d.ZD.length:Int)) then (idx d.ZD g).bind fun h =>
 (rc h (Yh (a+1)) f).bind fun i =>
 bif !i.1 then some (false,i.2)
 else (MR rc a b c d e) i.2 (Yh (g+1))
 else Zda b c f
def Qj (N:Nat) (rc:List Yj->Int->Int->Option (Bool × Int)) (a:List Yj) (b:Int):Nat->Int->Int->Option (Bool × Int)
 | 0,_,_=>none
 | c+1,d,e =>
 bif decide (e < (a.length:Int)) then (idx a e).bind fun f =>
 bif decide (b > 10) then some (false,(Yh (d+1)))
 else bif decide ((Yh (d+1)) > 300) then some (false,(Yh (d+1)))
 else (BV N f).bind fun g =>
 bif !g then some (false,(Yh (d+1)))
 else MR rc b e (Qj N rc a b c) f N (Yh (d+1)) 0
 else Zc9 d
def Bw (N:Nat) (rc:List Yj->Int->Int->Option (Bool × Int)) (a:List Yj) (b:Int) (c:Int):Option (Bool × Int) :=
 Qj N rc a b N c 0
def Zdb:Nat->(List Yj)->Int->Int->Option (Bool × Int)
 | 0,_,_,_=>none
 | N+1,a0,a1,a2=>Bw N (Zdb N) a0 a1 a2
def Ga (N:Nat) (a:List Yj) (b:Int) (c:Int):Option (Bool × Int):=Zdb N a b c
def Zcu (N:Nat) (a:Int):Option Bool :=
 bif decide (a>=(-999999)) then some (decide (a<=999999))
 else some false
def Lb (N:Nat) (a:Y5) (b:Bool):Option Bool :=
 bif b then (Vs N a.Field).bind fun c =>
 bif c then bif a.Zw.toList==(str []).toList then some true
 else (Qm N a.Zw).bind fun d =>
 some d
 else some false
 else some false
def Gu (N:Nat) (a:Y5):Option Bool :=
 (Zcu N a.N).bind fun b =>
 bif !b then some false
 else bif a.Zt==1 then bif a.Zw.toList==(str []).toList then some (a.Field.toList==(str []).toList)
 else some false
 else bif a.Zt==2 then Lb N a true
 else Lb N a (a.Zt==3)
def Zdc:Option Bool :=
 some true
def Gc (N:Nat) (a:Ys):Nat->Int->Option Bool
 | 0,_=>none
 | b+1,c =>
 bif decide (c < (a.ZA.length:Int)) then (idx a.ZA c).bind fun d =>
 (Gu N d.Zx).bind fun e =>
 bif !e then some false
 else (Gu N d.Zy).bind fun f =>
 bif !f then some false
 else (Gv N).bind fun g =>
 (VW N g d.Op).bind fun h =>
 bif !h then some false
 else (Gc N a b) (Yh (c+1))
 else Zdc
def Zdd (N:Nat) (a:Ys):Option Bool :=
 Gc N a N 0
def Gb (N:Nat) (a:Int) (b:Int->Option Bool) (c:T3) (d:Int):Option Bool :=
 (Vs N c.Zu).bind fun e =>
 bif !e then some false
 else bif c.Zv.Zt != 1 then bif c.Zv.Zt != 2 then some false
 else bif decide ((VA c.Zv.Lo c.Zv.Hi) < d) then some false
 else bif decide ((PV c.Zv.Lo c.Zv.Hi) > 999999) then some false
 else b (Yh (a+1))
 else bif decide ((VA c.Zv.Lo c.Zv.Hi) < d) then some false
 else bif decide ((PV c.Zv.Lo c.Zv.Hi) > 999999) then some false
 else b (Yh (a+1))
def Rh (N:Nat) (a:Ys):Nat->Int->Option Bool
 | 0,_=>none
 | b+1,c =>
 bif decide (c < (a.Zz.length:Int)) then (idx a.Zz c).bind fun d =>
 bif d.Zv.Zt==2 then Gb N c (Rh N a b) d 0
 else Gb N c (Rh N a b) d (-999999)
 else Zdd N a
def Bx (N:Nat) (a:Ys):Option Bool :=
 (Qm N a.Zu).bind fun b =>
 bif !b then some false
 else bif decide ((a.Zz.length:Int) > 4) then some false
 else bif decide ((a.ZA.length:Int) > 6) then some false
 else Rh N a N 0
def Ug (N:Nat) (a:List be) (b:be):Option be:=bif decide (a.length<=140737488355328) && decide ((Vp b.data.toList (a.map (·.data.toList))).length<=140737488355328) then some ⟨(Vp b.data.toList (a.map (·.data.toList))).toArray⟩ else none
def Hn (l:List UInt8):Nat->List UInt8
 | 0=>[]
 | n+1=>l++Hn l n
def MD (N:Nat) (a:be) (b:Int):Option be :=
 bif (decide (0<=b) && decide (b<=140737488355328)) && decide (a.size * b.toNat<=140737488355328) then some ⟨(Hn a.data.toList b.toNat).toArray⟩ else none
def ZcF (N:Nat) (a:YG):Option YG :=
 some (⟨ao,a.ZK⟩:YG)
def Zcw (N:Nat) (a:be) (b:YG):Option (Int × Unit × YG) :=
 (ZcF N (⟨ao,b.ZK⟩:YG)).bind fun c =>
 (Rr c.Builder a).bind fun d =>
 some ((a.size:Int),(),(⟨d,c.ZK⟩:YG))
def BW (N:Nat) (a:List be) (b:YG):Option YG :=
 (MD N (str [9]) b.ZK).bind fun c =>
 (Ug N a (str [])).bind fun d =>
 (XR c d).bind fun e =>
 (XR e (str [10])).bind fun f =>
 (Zcw N f (⟨ao,b.ZK⟩:YG)).bind fun g =>
 some g.2.2
def Re (N:Nat) (a:Int):Option be:=bif decide ((-9223372036854775808)<=a) && decide (a<=9223372036854775807) then some (RL a) else none
def HV (N:Nat) (a:Y5) (b:be):Option be :=
 bif decide (a.N > 0) then (Re N a.N).bind fun c =>
 (XR (str [32,43,32]) c).bind fun d =>
 (XR b d).bind fun e =>
 some e
 else bif decide (a.N < 0) then (Re N (Yh (0-a.N))).bind fun f =>
 (XR (str [32,45,32]) f).bind fun g =>
 (XR b g).bind fun h =>
 some h
 else some b
def HW (N:Nat) (a:Y5) (b:be):Option be :=
 bif a.Zt==3 then (XR (str [108,101,110,40]) b).bind fun c =>
 (XR c (str [41])).bind fun d =>
 HV N a d
 else HV N a b
def HU (N:Nat) (a:Y5):Option be :=
 bif a.Zt==1 then (Re N a.N).bind fun b =>
 some b
 else bif !(a.Zw.toList==(str []).toList) then (XR a.Zw (str [46])).bind fun c =>
 (XR c a.Field).bind fun d =>
 HW N a d
 else HW N a a.Field
def ZcH (N:Nat) (a:YG):Option Unit :=
 some ()
def Zcv (N:Nat) (a:be) (b:YG):Option (Int × Unit × YG) :=
 (ZcH N b).bind fun c =>
 (Rr b.Builder a).bind fun d =>
 some ((a.size:Int),(),(⟨d,b.ZK⟩:YG))
def Vb (N:Nat) (a:List be) (b:YG):Option YG :=
 (MD N (str [9]) b.ZK).bind fun c =>
 (Ug N a (str [])).bind fun d =>
 (XR c d).bind fun e =>
 (XR e (str [10])).bind fun f =>
 (Zcv N f b).bind fun g =>
 some g.2.2
def BX (N:Nat) (a:Ys) (b:YG) (c:List be) (d:List be):Option YG :=
 bif decide ((d.length:Int) > 0) then (Ug N d (str [32,97,110,100,32])).bind fun e =>
 (XR (str [32,119,104,101,114,101,32]) e).bind fun f =>
 (Ug N c (str [44,32])).bind fun g =>
 (Vb N ([(str [109,101,115,115,97,103,101,32]),a.Zu,(str [40]),g,(str [41]),f,(str [59])]:List be) b).bind fun h =>
 some h
 else (Ug N c (str [44,32])).bind fun i =>
 (Vb N ([(str [109,101,115,115,97,103,101,32]),a.Zu,(str [40]),i,(str [41]),(str []),(str [59])]:List be) b).bind fun j =>
 some j
def Ld (N:Nat) (a:Ys) (b:YG) (c:List be):Nat->(List be)->Int->Option YG
 | 0,_,_=>none
 | d+1,e,f =>
 bif decide (f < (a.ZA.length:Int)) then (idx a.ZA f).bind fun g =>
 (HU N g.Zx).bind fun h =>
 (XR h (str [32])).bind fun i =>
 (XR i g.Op).bind fun j =>
 (XR j (str [32])).bind fun k =>
 (HU N g.Zy).bind fun l =>
 (XR k l).bind fun m =>
 (Y7 e ([m]:List be)).bind fun o =>
 (Ld N a b c d) o (Yh (f+1))
 else BX N a b c e
def BY (N:Nat) (a:Ys) (b:YG) (c:List be):Option YG :=
 Ld N a b c N ([]:List be) 0
def Gw (N:Nat) (a:List be) (b:Int) (c:List be->Int->Option YG) (d:T3) (e:be):Option YG :=
 (XR d.Zu e).bind fun f =>
 (Re N d.Zv.Lo).bind fun g =>
 (XR f g).bind fun h =>
 (XR h (str [46,46])).bind fun i =>
 (Re N d.Zv.Hi).bind fun j =>
 (XR i j).bind fun k =>
 (Y7 a ([k]:List be)).bind fun l =>
 c l (Yh (b+1))
def Qo (N:Nat) (a:Ys) (b:YG):Nat->(List be)->Int->Option YG
 | 0,_,_=>none
 | c+1,d,e =>
 bif decide (e < (a.Zz.length:Int)) then (idx a.Zz e).bind fun f =>
 bif f.Zv.Zt==2 then Gw N d e (Qo N a b c) f (str [58,32,116,101,120,116,32])
 else Gw N d e (Qo N a b c) f (str [58,32,105,110,116,32])
 else BY N a b d
def Lc (N:Nat) (a:Ys) (b:YG):Option YG :=
 Qo N a b N ([]:List be) 0
def Zcy (N:Nat) (a:be) (b:Int):Option YG :=
 (Vb N ([(str [125])]:List be) (⟨a,b⟩:YG)).bind fun c =>
 some c
def Pa (rc:List Yj->YG->Option YG) (a:Int) (b:be->Int->Int->Option YG) (c:List Yj) (d:be) (e:Int):Option YG :=
 (rc c (⟨d,(Yh (e+1))⟩:YG)).bind fun f =>
 b f.Builder (Yh (f.ZK-1)) (Yh (a+1))
def TL (N:Nat) (rc:List Yj->YG->Option YG) (a:be) (b:be) (c:be) (d:(List (List Yj))):Nat->be->Int->Int->Option YG
 | 0,_,_,_=>none
 | e+1,f,g,h =>
 bif decide (h < (d.length:Int)) then (idx d h).bind fun i =>
 bif h==0 then (Vb N ([a,(str [32,123])]:List be) (⟨f,g⟩:YG)).bind fun j =>
 Pa rc h (TL N rc a b c d e) i j.Builder j.ZK
 else bif h==(Yh ((d.length:Int)-1)) then bif !(c.toList==(str []).toList) then (Vb N ([(str [125,32]),c,(str [32,123])]:List be) (⟨f,g⟩:YG)).bind fun k =>
 Pa rc h (TL N rc a b c d e) i k.Builder k.ZK
 else (Vb N ([(str [125,32]),b,(str [32,123])]:List be) (⟨f,g⟩:YG)).bind fun l =>
 Pa rc h (TL N rc a b c d e) i l.Builder l.ZK
 else (Vb N ([(str [125,32]),b,(str [32,123])]:List be) (⟨f,g⟩:YG)).bind fun m =>
 Pa rc h (TL N rc a b c d e) i m.Builder m.ZK
 else Zcy N f g
def Qg (N:Nat) (rc:List Yj->YG->Option YG) (a:be) (b:be) (c:be) (d:(List (List Yj))) (e:YG):Option YG :=
 TL N rc a b c d N e.Builder e.ZK 0
def ZdI (a:be) (b:Int):Option YG :=
 some (⟨a,b⟩:YG)
def Uh (N:Nat) (rc:List Yj->YG->Option YG) (a:List Yj):Nat->be->Int->Int->Option YG
 | 0,_,_,_=>none
 | b+1,c,d,e =>
 bif decide (e < (a.length:Int)) then (idx a e).bind fun f =>
 bif f.Zt==1 then (Ug N f.To (str [44,32])).bind fun g =>
 (Vb N ([f.ZB,(str [32,45,62,32]),g,(str [58,32]),f.Zu,(str [59])]:List be) (⟨c,d⟩:YG)).bind fun h =>
 (Uh N rc a b) h.Builder h.ZK (Yh (e+1))
 else bif f.Zt==2 then bif decide (f.ZC > 0) then (XR (str [99,104,111,105,99,101,32,97,116,32]) f.ZB).bind fun i =>
 (XR i (str [32,119,105,116,104,105,110,32])).bind fun j =>
 (Re N f.ZC).bind fun k =>
 (XR j k).bind fun l =>
 (Qg N rc l (str [111,114]) (str [101,108,115,101]) f.ZD (⟨c,d⟩:YG)).bind fun m =>
 (Uh N rc a b) m.Builder m.ZK (Yh (e+1))
 else (XR (str [99,104,111,105,99,101,32,97,116,32]) f.ZB).bind fun o =>
 (Qg N rc o (str [111,114]) (str []) f.ZD (⟨c,d⟩:YG)).bind fun p =>
 (Uh N rc a b) p.Builder p.ZK (Yh (e+1))
 else bif f.Zt==3 then (XR (str [108,111,111,112,32]) f.Zu).bind fun q =>
 (Qg N rc q (str []) (str []) f.ZD (⟨c,d⟩:YG)).bind fun r =>
 (Uh N rc a b) r.Builder r.ZK (Yh (e+1))
 else bif f.Zt==4 then (Vb N ([(str [97,103,97,105,110,32]),f.Zu,(str [59])]:List be) (⟨c,d⟩:YG)).bind fun s =>
 (Uh N rc a b) s.Builder s.ZK (Yh (e+1))
 else bif f.Zt==5 then (Qg N rc (str [112,97,114]) (str [97,110,100]) (str []) f.ZD (⟨c,d⟩:YG)).bind fun t =>
 (Uh N rc a b) t.Builder t.ZK (Yh (e+1))
 else bif f.Zt==6 then (Ug N f.To (str [44,32])).bind fun u =>
 (Vb N ([(str [99,97,108,108,32]),f.Zu,(str [40]),u,(str [41,32,97,115,32]),f.As,(str [59])]:List be) (⟨c,d⟩:YG)).bind fun v =>
 (Uh N rc a b) v.Builder v.ZK (Yh (e+1))
 else (Uh N rc a b) c d (Yh (e+1))
 else ZdI c d
def BZ (N:Nat) (rc:List Yj->YG->Option YG) (a:List Yj) (b:YG):Option YG :=
 Uh N rc a N b.Builder b.ZK 0
def ZdJ:Nat->(List Yj)->YG->Option YG
 | 0,_,_=>none
 | N+1,a0,a1=>BZ N (ZdJ N) a0 a1
def Qp (N:Nat) (a:List Yj) (b:YG):Option YG:=ZdJ N a b
def Gy (N:Nat) (a:YG):Option be :=
 (SP a.Builder).bind fun b =>
 (SP a.Builder).bind fun c =>
 some a.Builder
def Zhd (N:Nat) (a:YG):Option be :=
 some ao
def Bz (N:Nat) (a:Int) (b:be->Int->Int->Option be) (c:Ym) (d:be) (e:Int):Option be :=
 (Qp N c.ZG (⟨d,e⟩:YG)).bind fun f =>
 (Vb N ([(str [125])]:List be) (⟨f.Builder,(Yh (f.ZK-1))⟩:YG)).bind fun g =>
 b g.Builder g.ZK (Yh (a+1))
def MS (N:Nat) (a:Int) (b:be->Int->Int->Option be) (c:Ym):Nat->be->Int->Int->Option be
 | 0,_,_,_=>none
 | d+1,e,f,g =>
 bif decide (g < (c.ZF.length:Int)) then (idx c.ZF g).bind fun h =>
 (Lc N h (⟨e,f⟩:YG)).bind fun i =>
 (MS N a b c d) i.Builder i.ZK (Yh (g+1))
 else Bz N a b c e f
def TP (N:Nat) (a:List Ym):Nat->be->Int->Int->Option be
 | 0,_,_,_=>none
 | b+1,c,d,e =>
 bif decide (e < (a.length:Int)) then (idx a e).bind fun f =>
 (Ug N f.ZE (str [44,32])).bind fun g =>
 (Vb N ([(str [112,114,111,116,111,99,111,108,32]),f.Zu,(str [40]),g,(str [41,32,123])]:List be) (⟨c,d⟩:YG)).bind fun h =>
 MS N e (TP N a b) f N h.Builder (Yh (h.ZK+1)) 0
 else (Gy N (⟨c,d⟩:YG)).bind fun i =>
 some i
def BA (N:Nat) (a:List Ym) (b:Ym) (c:be) (d:Int):Option be :=
 (Qp N b.ZG (⟨c,d⟩:YG)).bind fun e =>
 (Vb N ([(str [125])]:List be) (⟨e.Builder,(Yh (e.ZK-1))⟩:YG)).bind fun f =>
 TP N a N f.Builder f.ZK (Yh (0+1))
def MT (N:Nat) (a:List Ym) (b:Ym):Nat->be->Int->Int->Option be
 | 0,_,_,_=>none
 | c+1,d,e,f =>
 bif decide (f < (b.ZF.length:Int)) then (idx b.ZF f).bind fun g =>
 (Lc N g (⟨d,e⟩:YG)).bind fun h =>
 (MT N a b c) h.Builder h.ZK (Yh (f+1))
 else BA N a b d e
def By (N:Nat) (a:List Ym):Option be :=
 bif decide (0 < (a.length:Int)) then (idx a 0).bind fun b =>
 (Ug N b.ZE (str [44,32])).bind fun c =>
 (BW N ([(str [112,114,111,116,111,99,111,108,32]),b.Zu,(str [40]),c,(str [41,32,123])]:List be) (⟨ao,0⟩:YG)).bind fun d =>
 MT N a b N d.Builder (Yh (d.ZK+1)) 0
 else (Zhd N (⟨ao,0⟩:YG)).bind fun e =>
 some e
def ZcK (N:Nat) (a:List Ym):Option Bool :=
 (By N a).bind fun b =>
 some (decide ((b.size:Int)<=8000))
def ZcL (a:Int) (b:Int->Option Bool):Option Bool :=
 b (Yh (a+1))
def MI (N:Nat) (a:Int) (b:Int->Option Bool) (c:Ym):Nat->Int->Option Bool
 | 0,_=>none
 | d+1,e =>
 bif decide (e < (c.ZF.length:Int)) then (idx c.ZF e).bind fun f =>
 (Bx N f).bind fun g =>
 bif !g then some false
 else (MI N a b c d) (Yh (e+1))
 else ZcL a b
def Qh (N:Nat) (a:List Ym):Nat->Int->Option Bool
 | 0,_=>none
 | b+1,c =>
 bif decide (c < (a.length:Int)) then (idx a c).bind fun d =>
 (Vs N d.Zu).bind fun e =>
 bif !e then some false
 else (MQ N d.ZE 6).bind fun f =>
 bif !f then some false
 else bif decide ((d.ZF.length:Int) > 40) then some false
 else (Ga N d.ZG 1 0).bind fun g =>
 bif !g.1 then some false
 else MI N c (Qh N a b) d N 0
 else ZcK N a
def MF (N:Nat) (a:List Ym):Option Bool :=
 bif decide ((a.length:Int) > 10) then some false
 else Qh N a N 0
def ZdP (N:Nat) (a:List Ym) (b:List YN) (c:Int) (d:Int) (e:Int) (f:Int):Option ((List Ym) × Int × Int) :=
 bif f != 0 then some (([]:List Ym),e,f)
 else (MF N a).bind fun g =>
 bif !g then some (([]:List Ym),0,6)
 else some (a,0,0)
def ZdQ (N:Nat) (a:List YN × Int × Int):Nat->(List Ym)->(List YN)->Int->Int->Int->Int->Option ((List Ym) × Int × Int)
 | 0,_,_,_,_,_,_=>none
 | b+1,c,d,e,f,g,h =>
 bif decide (e < (a.1.length:Int)) then bif h==0 then (z15 N (⟨d,e,f,g,h⟩:Yw)).bind fun i =>
 (Y7 c ([i.1]:List Ym)).bind fun j =>
 (ZdQ N a b) j i.2.l' i.2.n' i.2.end' i.2.ZI i.2.ZJ
 else ZdP N c d e f g h
 else ZdP N c d e f g h
def z9 (N:Nat) (a:be):Option ((List Ym) × Int × Int) :=
 (z14 N a).bind fun b =>
 bif b.2.2 != 0 then some (([]:List Ym),b.2.1,b.2.2)
 else ZdQ N b N ([]:List Ym) b.1 0 (a.size:Int) 0 0
def Zde (N:Nat) (a:Ym) (b:Ym):Option Bool :=
 some (a.Zu.toList==b.Zu.toList)
def ZdK:Option Int :=
 some (-1)
def Le (N:Nat) (a:List Ym) (b:Ym):Nat->Int->Option Int
 | 0,_=>none
 | c+1,d =>
 bif decide (d < (a.length:Int)) then (idx a d).bind fun e =>
 (Zde N e b).bind fun f =>
 bif f then some d
 else (Le N a b c) (Yh (d+1))
 else ZdK
def B3 (N:Nat) (a:List Ym) (b:Ym):Option Int :=
 Le N a b N 0
def Gd (N:Nat) (a:List Ym) (b:Ym):Option Bool :=
 (B3 N a b).bind fun c =>
 some (decide (c>=0))
def Ge (N:Nat) (a:List be) (b:Int):Option Bool :=
 (lsl a none (some b)).bind fun c =>
 (idx a b).bind fun d =>
 (VW N c d).bind fun e =>
 some e
def ZdO (N:Nat) (a:Ys) (b:Ys):Option Bool :=
 some (a.Zu.toList==b.Zu.toList)
def Zb1:Option Int :=
 some (-1)
def Mq (N:Nat) (a:List Ys) (b:Ys):Nat->Int->Option Int
 | 0,_=>none
 | c+1,d =>
 bif decide (d < (a.length:Int)) then (idx a d).bind fun e =>
 (ZdO N e b).bind fun f =>
 bif f then some d
 else (Mq N a b c) (Yh (d+1))
 else Zb1
def D3 (N:Nat) (a:List Ys) (b:Ys):Option Int :=
 Mq N a b N 0
def B7 (N:Nat) (a:List Ys) (b:Ys):Option Bool :=
 (D3 N a b).bind fun c =>
 some (decide (c>=0))
def ZbH (N:Nat) (a:T3) (b:T3):Option Bool :=
 some (a.Zu.toList==b.Zu.toList)
def Zdl:Option Int :=
 some (-1)
def MW (N:Nat) (a:List T3) (b:T3):Nat->Int->Option Int
 | 0,_=>none
 | c+1,d =>
 bif decide (d < (a.length:Int)) then (idx a d).bind fun e =>
 (ZbH N e b).bind fun f =>
 bif f then some d
 else (MW N a b c) (Yh (d+1))
 else Zdl
def BP (N:Nat) (a:List T3) (b:T3):Option Int :=
 MW N a b N 0
def DQ (N:Nat) (a:List T3) (b:T3):Option Bool :=
 (BP N a b).bind fun c =>
 some (decide (c>=0))
def Zcz (N:Nat) (a:Ys) (b:Y5):Option Bool :=
 some (a.Zu.toList==b.Zw.toList)
def Zb2:Option Int :=
 some (-1)
def Mr (N:Nat) (a:List Ys) (b:Y5):Nat->Int->Option Int
 | 0,_=>none
 | c+1,d =>
 bif decide (d < (a.length:Int)) then (idx a d).bind fun e =>
 (Zcz N e b).bind fun f =>
 bif f then some d
 else (Mr N a b c) (Yh (d+1))
 else Zb2
def D4 (N:Nat) (a:List Ys) (b:Y5):Option Int :=
 Mr N a b N 0
def ZcA (N:Nat) (a:T3) (b:Y5):Option Bool :=
 some (a.Zu.toList==b.Field.toList)
def Zdm:Option Int :=
 some (-1)
def MX (N:Nat) (a:List T3) (b:Y5):Nat->Int->Option Int
 | 0,_=>none
 | c+1,d =>
 bif decide (d < (a.length:Int)) then (idx a d).bind fun e =>
 (ZcA N e b).bind fun f =>
 bif f then some d
 else (MX N a b c) (Yh (d+1))
 else Zdm
def BQ (N:Nat) (a:List T3) (b:Y5):Option Int :=
 MX N a b N 0
def HJ (N:Nat) (a:Y5) (b:be) (c:List T3) (d:List Xw):Option Int :=
 (BQ N c a).bind fun e =>
 bif decide (e < 0) then some 0
 else (idx c e).bind fun f =>
 some f.Zv.Zt
def DR (N:Nat) (a:Yp) (b:Ys) (c:Y5):Option Int :=
 bif !(c.Zw.toList==(str []).toList) then (D4 N a.p'.ZF c).bind fun d =>
 bif decide (d < 0) then some 0
 else (idx a.p'.ZF d).bind fun e =>
 HJ N c e.Zu e.Zz e.ZA
 else HJ N c b.Zu b.Zz b.ZA
def ZbI (N:Nat) (a:List YS):Option (List YS) :=
 (Y7 ([]:List YS) a).bind fun b =>
 some b
def ZcB (N:Nat) (a:Ys) (b:Yj):Option Bool :=
 some (a.Zu.toList==b.Zu.toList)
def Zb3:Option Int :=
 some (-1)
def Ms (N:Nat) (a:List Ys) (b:Yj):Nat->Int->Option Int
 | 0,_=>none
 | c+1,d =>
 bif decide (d < (a.length:Int)) then (idx a d).bind fun e =>
 (ZcB N e b).bind fun f =>
 bif f then some d
 else (Ms N a b c) (Yh (d+1))
 else Zb3
def D5 (N:Nat) (a:List Ys) (b:Yj):Option Int :=
 Ms N a b N 0
def B8 (N:Nat) (a:List Ys) (b:Yj):Option Bool :=
 (D5 N a b).bind fun c =>
 some (decide (c>=0))
def ZbJ (N:Nat) (a:YS) (b:Yj):Option Bool :=
 some (a.Z5.toList==b.Zu.toList)
def ZbK:Option Int :=
 some (-1)
def Mg (N:Nat) (a:List YS) (b:Yj):Nat->Int->Option Int
 | 0,_=>none
 | c+1,d =>
 bif decide (d < (a.length:Int)) then (idx a d).bind fun e =>
 (ZbJ N e b).bind fun f =>
 bif f then some d
 else (Mg N a b c) (Yh (d+1))
 else ZbK
def DU (N:Nat) (a:List YS) (b:Yj):Option Int :=
 Mg N a b N 0
def DT (N:Nat) (a:List YS) (b:Yj):Option Bool :=
 (DU N a b).bind fun c =>
 some (decide (c>=0))
def ZbM (N:Nat) (a:YS) (b:Yj):Option Bool :=
 bif a.Z5.toList==b.Zu.toList then some (!a.Z7)
 else some false
def ZbL:Option Int :=
 some (-1)
def Mh (N:Nat) (a:List YS) (b:Yj):Nat->Int->Option Int
 | 0,_=>none
 | c+1,d =>
 bif decide (d < (a.length:Int)) then (idx a d).bind fun e =>
 (ZbM N e b).bind fun f =>
 bif f then some d
 else (Mh N a b c) (Yh (d+1))
 else ZbL
def DV (N:Nat) (a:List YS) (b:Yj):Option Int :=
 Mh N a b N 0
def ZcC (N:Nat) (a:Ym) (b:Yj):Option Bool :=
 some (a.Zu.toList==b.Zu.toList)
def ZdL:Option Int :=
 some (-1)
def Lf (N:Nat) (a:List Ym) (b:Yj):Nat->Int->Option Int
 | 0,_=>none
 | c+1,d =>
 bif decide (d < (a.length:Int)) then (idx a d).bind fun e =>
 (ZcC N e b).bind fun f =>
 bif f then some d
 else (Lf N a b c) (Yh (d+1))
 else ZdL
def B4 (N:Nat) (a:List Ym) (b:Yj):Option Int :=
 Lf N a b N 0
def z46 (N:Nat) (a:Yp) (b:be) (c:Int):Option Yp :=
 bif a.Z4.ZZ==0 then some (⟨a.Z2,a.p',a.Z3,(⟨a.p'.Zu,b,c⟩:Y6)⟩:Yp)
 else some a
def Mf (N:Nat) (a:Yp) (b:List be) (c:Int):Option Yp :=
 (idx b c).bind fun d =>
 (VW N a.p'.ZE d).bind fun e =>
 bif !e then (idx b c).bind fun f =>
 (z46 N a f 12).bind fun g =>
 some g
 else (Ge N b c).bind fun h =>
 bif h then (idx b c).bind fun i =>
 (z46 N a i 12).bind fun j =>
 some j
 else some a
def Mi (N:Nat) (a:Yj) (b:List Ym) (c:be) (d:List be) (e:List Ys) (f:List Yj) (g:List be) (h:be) (i:be) (j:Int):Option Yp :=
 (VW N g a.As).bind fun k =>
 bif k then (z46 N (⟨b,(⟨c,d,e,f⟩:Ym),g,(⟨h,i,j⟩:Y6)⟩:Yp) a.As 9).bind fun l =>
 (Y7 l.Z3 ([a.As]:List be)).bind fun m =>
 some (⟨l.Z2,l.p',m,l.Z4⟩:Yp)
 else (Y7 g ([a.As]:List be)).bind fun o =>
 some (⟨b,(⟨c,d,e,f⟩:Ym),o,(⟨h,i,j⟩:Y6)⟩:Yp)
def Mj (N:Nat) (a:Yj):Nat->(List Ym)->be->(List be)->(List Ys)->(List Yj)->(List be)->be->be->Int->Int->Option Yp
 | 0,_,_,_,_,_,_,_,_,_,_=>none
 | b+1,c,d,e,f,g,h,i,j,k,l =>
 bif decide (l < (a.To.length:Int)) then (Mf N (⟨c,(⟨d,e,f,g⟩:Ym),h,(⟨i,j,k⟩:Y6)⟩:Yp) a.To l).bind fun m =>
 (Mj N a b) m.Z2 m.p'.Zu m.p'.ZE m.p'.ZF m.p'.ZG m.Z3 m.Z4.ZY m.Z4.Zu m.Z4.ZZ (Yh (l+1))
 else Mi N a c d e f g h i j k
def HL (N:Nat) (a:Yj) (b:List Ym) (c:be) (d:List be) (e:List Ys) (f:List Yj) (g:List be) (h:be) (i:be) (j:Int):Option Yp :=
 Mj N a N b c d e f g h i j 0
def DX (N:Nat) (a:Yp) (b:Yj):Option Yp :=
 (B4 N a.Z2 b).bind fun c =>
 bif decide (c < 0) then (z46 N a b.Zu 10).bind fun d =>
 some d
 else (idx a.Z2 c).bind fun e =>
 bif (e.ZE.length:Int) != (b.To.length:Int) then (z46 N a b.Zu 1).bind fun f =>
 HL N b f.Z2 f.p'.Zu f.p'.ZE f.p'.ZF f.p'.ZG f.Z3 f.Z4.ZY f.Z4.Zu f.Z4.ZZ
 else HL N b a.Z2 a.p'.Zu a.p'.ZE a.p'.ZF a.p'.ZG a.Z3 a.Z4.ZY a.Z4.Zu a.Z4.ZZ
def HK (N:Nat) (a:Yj) (b:List Ym) (c:be) (d:List be) (e:List Ys) (f:List Yj) (g:List be) (h:be) (i:be) (j:Int):Option Yp :=
 (B8 N e a).bind fun k =>
 bif !k then (z46 N (⟨b,(⟨c,d,e,f⟩:Ym),g,(⟨h,i,j⟩:Y6)⟩:Yp) a.Zu 10).bind fun l =>
 some l
 else some (⟨b,(⟨c,d,e,f⟩:Ym),g,(⟨h,i,j⟩:Y6)⟩:Yp)
def Me (N:Nat) (a:Yj) (b:List be):Nat->(List Ym)->be->(List be)->(List Ys)->(List Yj)->(List be)->be->be->Int->Int->Option Yp
 | 0,_,_,_,_,_,_,_,_,_,_=>none
 | c+1,d,e,f,g,h,i,j,k,l,m =>
 bif decide (m < (b.length:Int)) then (Mf N (⟨d,(⟨e,f,g,h⟩:Ym),i,(⟨j,k,l⟩:Y6)⟩:Yp) b m).bind fun o =>
 (Me N a b c) o.Z2 o.p'.Zu o.p'.ZE o.p'.ZF o.p'.ZG o.Z3 o.Z4.ZY o.Z4.Zu o.Z4.ZZ (Yh (m+1))
 else HK N a d e f g h i j k l
def DS (N:Nat) (a:Yp) (b:Yj):Option Yp :=
 (Y7 ([b.ZB]:List be) b.To).bind fun c =>
 Me N b c N a.Z2 a.p'.Zu a.p'.ZE a.p'.ZF a.p'.ZG a.Z3 a.Z4.ZY a.Z4.Zu a.Z4.ZZ 0
def BK (a:List Ym) (b:be) (c:List be) (d:List Ys) (e:List Yj) (f:List be) (g:be) (h:be) (i:Int):Option Yp :=
 some (⟨a,(⟨b,c,d,e⟩:Ym),f,(⟨g,h,i⟩:Y6)⟩:Yp)
def BL (a:Int) (b:List Ym->be->(List be)->(List Ys)->(List Yj)->(List be)->be->be->Int->Int->Option Yp) (c:List Ym) (d:be) (e:List be) (f:List Ys) (g:List Yj) (h:List be) (i:be) (j:be) (k:Int):Option Yp :=
 b c d e f g h i j k (Yh (a+1))
def MU (rc:Yp->(List Yj)->(List YS)->Option Yp) (a:Int) (b:List Ym->be->(List be)->(List Ys)->(List Yj)->(List be)->be->be->Int->Int->Option Yp) (c:Yj) (d:List YS):Nat->(List Ym)->be->(List be)->(List Ys)->(List Yj)->(List be)->be->be->Int->Int->Option Yp
 | 0,_,_,_,_,_,_,_,_,_,_=>none
 | e+1,f,g,h,i,j,k,l,m,o,p =>
 bif decide (p < (c.ZD.length:Int)) then (idx c.ZD p).bind fun q =>
 (rc (⟨f,(⟨g,h,i,j⟩:Ym),k,(⟨l,m,o⟩:Y6)⟩:Yp) q d).bind fun r =>
 (MU rc a b c d e) r.Z2 r.p'.Zu r.p'.ZE r.p'.ZF r.p'.ZG r.Z3 r.Z4.ZY r.Z4.Zu r.Z4.ZZ (Yh (p+1))
 else BL a b f g h i j k l m o
def BM (N:Nat) (rc:Yp->(List Yj)->(List YS)->Option Yp) (a:Int) (b:List Ym->be->(List be)->(List Ys)->(List Yj)->(List be)->be->be->Int->Int->Option Yp) (c:Yj) (d:List Ym) (e:be) (f:List be) (g:List Ys) (h:List Yj) (i:List be) (j:be) (k:be) (l:Int) (m:List YS):Option Yp :=
 MU rc a b c m N d e f g h i j k l 0
def Pi (N:Nat) (rc:Yp->(List Yj)->(List YS)->Option Yp) (a:Int) (b:List Ym->be->(List be)->(List Ys)->(List Yj)->(List be)->be->be->Int->Int->Option Yp) (c:Yj) (d:List Ym) (e:be) (f:List be) (g:List Ys) (h:List Yj) (i:List be) (j:be) (k:be) (l:Int) (m:List YS):Nat->(List YS)->Int->Option Yp
 | 0,_,_=>none
 | o+1,p,q =>
 bif decide (q < (m.length:Int)) then (idx p q).bind fun r =>
 bif r.Z7 then (idx p q).bind fun s =>
 (Pi N rc a b c d e f g h i j k l m o) (YA p q (⟨s.Z5,s.Z6,true⟩:YS)) (Yh (q+1))
 else (idx p q).bind fun t =>
 (Pi N rc a b c d e f g h i j k l m o) (YA p q (⟨t.Z5,t.Z6,(c.Zt==5)⟩:YS)) (Yh (q+1))
 else BM N rc a b c d e f g h i j k l p
def UM (N:Nat) (rc:Yp->(List Yj)->(List YS)->Option Yp) (a:Int) (b:List Ym->be->(List be)->(List Ys)->(List Yj)->(List be)->be->be->Int->Int->Option Yp) (c:Yj) (d:List Ym) (e:be) (f:List be) (g:List Ys) (h:List Yj) (i:List be) (j:be) (k:be) (l:Int) (m:List YS):Option Yp :=
 Pi N rc a b c d e f g h i j k l m N m 0
def Gm (N:Nat) (rc:Yp->(List Yj)->(List YS)->Option Yp) (a:List Ym) (b:be) (c:List be) (d:List Ys) (e:List Yj) (f:List be) (g:be) (h:be) (i:Int) (j:Int) (k:List Ym->be->(List be)->(List Ys)->(List Yj)->(List be)->be->be->Int->Int->Option Yp) (l:Yj) (m:List YS):Option Yp :=
 bif l.Zt==1 then (DS N (⟨a,(⟨b,c,d,e⟩:Ym),f,(⟨g,h,i⟩:Y6)⟩:Yp) l).bind fun o =>
 UM N rc j k l o.Z2 o.p'.Zu o.p'.ZE o.p'.ZF o.p'.ZG o.Z3 o.Z4.ZY o.Z4.Zu o.Z4.ZZ m
 else bif l.Zt==2 then (Mf N (⟨a,(⟨b,c,d,e⟩:Ym),f,(⟨g,h,i⟩:Y6)⟩:Yp) ([l.ZB]:List be) 0).bind fun p =>
 UM N rc j k l p.Z2 p.p'.Zu p.p'.ZE p.p'.ZF p.p'.ZG p.Z3 p.Z4.ZY p.Z4.Zu p.Z4.ZZ m
 else bif l.Zt==3 then (DT N m l).bind fun q =>
 bif q then (z46 N (⟨a,(⟨b,c,d,e⟩:Ym),f,(⟨g,h,i⟩:Y6)⟩:Yp) l.Zu 9).bind fun r =>
 (Y7 m ([(⟨l.Zu,true,false⟩:YS)]:List YS)).bind fun s =>
 UM N rc j k l r.Z2 r.p'.Zu r.p'.ZE r.p'.ZF r.p'.ZG r.Z3 r.Z4.ZY r.Z4.Zu r.Z4.ZZ s
 else (Y7 m ([(⟨l.Zu,true,false⟩:YS)]:List YS)).bind fun t =>
 UM N rc j k l a b c d e f g h i t
 else bif l.Zt==4 then (DV N m l).bind fun u =>
 bif decide (u < 0) then (z46 N (⟨a,(⟨b,c,d,e⟩:Ym),f,(⟨g,h,i⟩:Y6)⟩:Yp) l.Zu 10).bind fun v =>
 UM N rc j k l v.Z2 v.p'.Zu v.p'.ZE v.p'.ZF v.p'.ZG v.Z3 v.Z4.ZY v.Z4.Zu v.Z4.ZZ m
 else (idx m u).bind fun w =>
 bif !w.Z6 then (z46 N (⟨a,(⟨b,c,d,e⟩:Ym),f,(⟨g,h,i⟩:Y6)⟩:Yp) l.Zu 7).bind fun x =>
 UM N rc j k l x.Z2 x.p'.Zu x.p'.ZE x.p'.ZF x.p'.ZG x.Z3 x.Z4.ZY x.Z4.Zu x.Z4.ZZ m
 else UM N rc j k l a b c d e f g h i m
 else bif l.Zt==6 then (DX N (⟨a,(⟨b,c,d,e⟩:Ym),f,(⟨g,h,i⟩:Y6)⟩:Yp) l).bind fun y =>
 UM N rc j k l y.Z2 y.p'.Zu y.p'.ZE y.p'.ZF y.p'.ZG y.Z3 y.Z4.ZY y.Z4.Zu y.Z4.ZZ m
 else UM N rc j k l a b c d e f g h i m
def Pj (N:Nat) (rc:Yp->(List Yj)->(List YS)->Option Yp) (a:List Yj) (b:List Ym) (c:be) (d:List be) (e:List Ys) (f:List Yj) (g:List be) (h:be) (i:be) (j:Int) (k:Int) (l:List Ym->be->(List be)->(List Ys)->(List Yj)->(List be)->be->be->Int->Int->Option Yp) (m:Yj) (o:List YS):Nat->(List YS)->Int->Option Yp
 | 0,_,_=>none
 | p+1,q,r =>
 bif decide (r < (o.length:Int)) then (idx q r).bind fun s =>
 bif s.Z6 then (idx q r).bind fun t =>
 (Pj N rc a b c d e f g h i j k l m o p) (YA q r (⟨t.Z5,(k==(Yh ((a.length:Int)-1))),t.Z7⟩:YS)) (Yh (r+1))
 else (idx q r).bind fun u =>
 (Pj N rc a b c d e f g h i j k l m o p) (YA q r (⟨u.Z5,false,u.Z7⟩:YS)) (Yh (r+1))
 else Gm N rc b c d e f g h i j k l m q
def VE (N:Nat) (rc:Yp->(List Yj)->(List YS)->Option Yp) (a:List Yj) (b:List YS):Nat->(List Ym)->be->(List be)->(List Ys)->(List Yj)->(List be)->be->be->Int->Int->Option Yp
 | 0,_,_,_,_,_,_,_,_,_,_=>none
 | c+1,d,e,f,g,h,i,j,k,l,m =>
 bif decide (m < (a.length:Int)) then (idx a m).bind fun o =>
 (ZbI N b).bind fun p =>
 Pj N rc a d e f g h i j k l m (VE N rc a b c) o p N p 0
 else BK d e f g h i j k l
def BJ (N:Nat) (rc:Yp->(List Yj)->(List YS)->Option Yp) (a:Yp) (b:List Yj) (c:List YS):Option Yp :=
 VE N rc b c N a.Z2 a.p'.Zu a.p'.ZE a.p'.ZF a.p'.ZG a.Z3 a.Z4.ZY a.Z4.Zu a.Z4.ZZ 0
def Zdg:Nat->Yp->(List Yj)->(List YS)->Option Yp
 | 0,_,_,_=>none
 | N+1,a0,a1,a2=>BJ N (Zdg N) a0 a1 a2
def VV (N:Nat) (a:Yp) (b:List Yj) (c:List YS):Option Yp:=Zdg N a b c
def BD (a:List Ym) (b:be) (c:List be) (d:List Ys) (e:List Yj) (f:List be) (g:be) (h:be) (i:Int):Option Yp :=
 some (⟨a,(⟨b,c,d,e⟩:Ym),f,(⟨g,h,i⟩:Y6)⟩:Yp)
def BE (a:Int) (b:List Ym->be->(List be)->(List Ys)->(List Yj)->(List be)->be->be->Int->Int->Option Yp) (c:List Ym) (d:be) (e:List be) (f:List Ys) (g:List Yj) (h:List be) (i:be) (j:be) (k:Int):Option Yp :=
 b c d e f g h i j k (Yh (a+1))
def Gf (N:Nat) (a:Int) (b:List Ym->be->(List be)->(List Ys)->(List Yj)->(List be)->be->be->Int->Int->Option Yp) (c:T3) (d:List Ym) (e:be) (f:List be) (g:List Ys) (h:List Yj) (i:List be) (j:be) (k:be) (l:Int) (m:Int) (o:Int):Option Yp :=
 bif decide (c.Zv.Lo > c.Zv.Hi) then (z46 N (⟨d,(⟨e,f,g,h⟩:Ym),i,(⟨j,k,l⟩:Y6)⟩:Yp) c.Zu 2).bind fun p =>
 b p.Z2 p.p'.Zu p.p'.ZE p.p'.ZF p.p'.ZG p.Z3 p.Z4.ZY p.Z4.Zu p.Z4.ZZ (Yh (a+1))
 else bif decide (c.Zv.Lo < m) then (z46 N (⟨d,(⟨e,f,g,h⟩:Ym),i,(⟨j,k,l⟩:Y6)⟩:Yp) c.Zu 2).bind fun q =>
 b q.Z2 q.p'.Zu q.p'.ZE q.p'.ZF q.p'.ZG q.Z3 q.Z4.ZY q.Z4.Zu q.Z4.ZZ (Yh (a+1))
 else bif decide (c.Zv.Hi > o) then (z46 N (⟨d,(⟨e,f,g,h⟩:Ym),i,(⟨j,k,l⟩:Y6)⟩:Yp) c.Zu 2).bind fun r =>
 b r.Z2 r.p'.Zu r.p'.ZE r.p'.ZF r.p'.ZG r.Z3 r.Z4.ZY r.Z4.Zu r.Z4.ZZ (Yh (a+1))
 else b d e f g h i j k l (Yh (a+1))
def Gg (N:Nat) (a:Int) (b:List Ym->be->(List be)->(List Ys)->(List Yj)->(List be)->be->be->Int->Int->Option Yp) (c:T3) (d:List Ym) (e:be) (f:List be) (g:List Ys) (h:List Yj) (i:List be) (j:be) (k:be) (l:Int):Option Yp :=
 bif c.Zv.Zt==2 then Gf N a b c d e f g h i j k l 0 40
 else Gf N a b c d e f g h i j k l (-1000) 1000
def Su (N:Nat) (a:Int) (b:List Ym->be->(List be)->(List Ys)->(List Yj)->(List be)->be->be->Int->Int->Option Yp) (c:Ys):Nat->(List Ym)->be->(List be)->(List Ys)->(List Yj)->(List be)->be->be->Int->Int->Option Yp
 | 0,_,_,_,_,_,_,_,_,_,_=>none
 | d+1,e,f,g,h,i,j,k,l,m,o =>
 bif decide (o < (c.Zz.length:Int)) then (idx c.Zz o).bind fun p =>
 (lsl c.Zz none (some o)).bind fun q =>
 (DQ N q p).bind fun r =>
 bif r then (z46 N (⟨e,(⟨f,g,h,i⟩:Ym),j,(⟨k,l,m⟩:Y6)⟩:Yp) p.Zu 9).bind fun s =>
 Gg N o (Su N a b c d) p s.Z2 s.p'.Zu s.p'.ZE s.p'.ZF s.p'.ZG s.Z3 s.Z4.ZY s.Z4.Zu s.Z4.ZZ
 else Gg N o (Su N a b c d) p e f g h i j k l m
 else BE a b e f g h i j k l m
def Gh (N:Nat) (a:Int) (b:List Ym->be->(List be)->(List Ys)->(List Yj)->(List be)->be->be->Int->Int->Option Yp) (c:Ys) (d:List Ym) (e:be) (f:List be) (g:List Ys) (h:List Yj) (i:List be) (j:be) (k:be) (l:Int):Option Yp :=
 Su N a b c N d e f g h i j k l 0
def UL (N:Nat) (a:Yp):Nat->(List Ym)->be->(List be)->(List Ys)->(List Yj)->(List be)->be->be->Int->Int->Option Yp
 | 0,_,_,_,_,_,_,_,_,_,_=>none
 | b+1,c,d,e,f,g,h,i,j,k,l =>
 bif decide (l < (a.p'.ZF.length:Int)) then (idx a.p'.ZF l).bind fun m =>
 (lsl f none (some l)).bind fun o =>
 (B7 N o m).bind fun p =>
 bif p then (z46 N (⟨c,(⟨d,e,f,g⟩:Ym),h,(⟨i,j,k⟩:Y6)⟩:Yp) m.Zu 9).bind fun q =>
 Gh N l (UL N a b) m q.Z2 q.p'.Zu q.p'.ZE q.p'.ZF q.p'.ZG q.Z3 q.Z4.ZY q.Z4.Zu q.Z4.ZZ
 else Gh N l (UL N a b) m c d e f g h i j k
 else BD c d e f g h i j k
def BC (N:Nat) (a:Yp):Option Yp :=
 UL N a N a.Z2 a.p'.Zu a.p'.ZE a.p'.ZF a.p'.ZG a.Z3 a.Z4.ZY a.Z4.Zu a.Z4.ZZ 0
def BG (a:List Ym) (b:be) (c:List be) (d:List Ys) (e:List Yj) (f:List be) (g:be) (h:be) (i:Int):Option Yp :=
 some (⟨a,(⟨b,c,d,e⟩:Ym),f,(⟨g,h,i⟩:Y6)⟩:Yp)
def BH (a:Int) (b:List Ym->be->(List be)->(List Ys)->(List Yj)->(List be)->be->be->Int->Int->Option Yp) (c:List Ym) (d:be) (e:List be) (f:List Ys) (g:List Yj) (h:List be) (i:be) (j:be) (k:Int):Option Yp :=
 b c d e f g h i j k (Yh (a+1))
def BI (N:Nat) (a:Ys) (b:Int) (c:List Ym->be->(List be)->(List Ys)->(List Yj)->(List be)->be->be->Int->Int->Option Yp) (d:Xw) (e:List Ym) (f:be) (g:List be) (h:List Ys) (i:List Yj) (j:List be) (k:be) (l:be) (m:Int) (o:Int):Option Yp :=
 bif o==1 then (z46 N (⟨e,(⟨f,g,h,i⟩:Ym),j,(⟨k,l,m⟩:Y6)⟩:Yp) a.Zu 11).bind fun p =>
 c p.Z2 p.p'.Zu p.p'.ZE p.p'.ZF p.p'.ZG p.Z3 p.Z4.ZY p.Z4.Zu p.Z4.ZZ (Yh (b+1))
 else bif o==2 then bif !(d.Op.toList==(str [61,61]).toList) then (z46 N (⟨e,(⟨f,g,h,i⟩:Ym),j,(⟨k,l,m⟩:Y6)⟩:Yp) a.Zu 11).bind fun q =>
 c q.Z2 q.p'.Zu q.p'.ZE q.p'.ZF q.p'.ZG q.Z3 q.Z4.ZY q.Z4.Zu q.Z4.ZZ (Yh (b+1))
 else bif d.Zx.N != 0 then (z46 N (⟨e,(⟨f,g,h,i⟩:Ym),j,(⟨k,l,m⟩:Y6)⟩:Yp) a.Zu 11).bind fun r =>
 c r.Z2 r.p'.Zu r.p'.ZE r.p'.ZF r.p'.ZG r.Z3 r.Z4.ZY r.Z4.Zu r.Z4.ZZ (Yh (b+1))
 else bif d.Zy.N != 0 then (z46 N (⟨e,(⟨f,g,h,i⟩:Ym),j,(⟨k,l,m⟩:Y6)⟩:Yp) a.Zu 11).bind fun s =>
 c s.Z2 s.p'.Zu s.p'.ZE s.p'.ZF s.p'.ZG s.Z3 s.Z4.ZY s.Z4.Zu s.Z4.ZZ (Yh (b+1))
 else c e f g h i j k l m (Yh (b+1))
 else c e f g h i j k l m (Yh (b+1))
def Gj (a:Int) (b:Int) (c:Int) (d:Int) (e:List Ym->be->(List be)->(List Ys)->(List Yj)->(List be)->be->be->Int->Int->Int->Option Yp) (f:Int) (g:List Ym) (h:be) (i:List be) (j:List Ys) (k:List Yj) (l:List be) (m:be) (o:be) (p:Int):Option Yp :=
 bif f==2 then bif d==0 then bif a==2 then e g h i j k l m o p (Yh (c+1)) (Yh (d+1))
 else e g h i j k l m o p c (Yh (d+1))
 else bif d==1 then bif b==2 then e g h i j k l m o p (Yh (c+1)) (Yh (d+1))
 else e g h i j k l m o p c (Yh (d+1))
 else none
 else e g h i j k l m o p c (Yh (d+1))
def Gk (N:Nat) (a:Ys) (b:Int) (c:Int) (d:List Ym) (e:be) (f:List be) (g:List Ys) (h:List Yj) (i:List be) (j:be) (k:be) (l:Int) (m:Int) (o:Int) (p:List Ym->be->(List be)->(List Ys)->(List Yj)->(List be)->be->be->Int->Int->Int->Option Yp) (q:Int) (r:Bool):Option Yp :=
 bif r then (z46 N (⟨d,(⟨e,f,g,h⟩:Ym),i,(⟨j,k,l⟩:Y6)⟩:Yp) a.Zu 11).bind fun s =>
 Gj b c m o p q s.Z2 s.p'.Zu s.p'.ZE s.p'.ZF s.p'.ZG s.Z3 s.Z4.ZY s.Z4.Zu s.Z4.ZZ
 else Gj b c m o p q d e f g h i j k l
def Gl (N:Nat) (a:Ys) (b:Int) (c:Int) (d:List Ym) (e:be) (f:List be) (g:List Ys) (h:List Yj) (i:List be) (j:be) (k:be) (l:Int) (m:Int) (o:Int) (p:List Ym->be->(List be)->(List Ys)->(List Yj)->(List be)->be->be->Int->Int->Int->Option Yp) (q:Int) (r:be) (s:be) (t:Int):Option Yp :=
 bif q==3 then bif o==0 then Gk N a b c d e f g h i j k l m o p q (b != 2)
 else bif o==1 then Gk N a b c d e f g h i j k l m o p q (c != 2)
 else none
 else Gk N a b c d e f g h i j k l m o p q false
def Sv (N:Nat) (a:Ys) (b:Int) (c:List Ym->be->(List be)->(List Ys)->(List Yj)->(List be)->be->be->Int->Int->Option Yp) (d:Xw) (e:Int) (f:Int):Nat->(List Ym)->be->(List be)->(List Ys)->(List Yj)->(List be)->be->be->Int->Int->Int->Option Yp
 | 0,_,_,_,_,_,_,_,_,_,_,_=>none
 | g+1,h,i,j,k,l,m,o,p,q,r,s =>
 bif decide (s < 2) then bif s==0 then Gl N a e f h i j k l m o p q r s (Sv N a b c d e f g) d.Zx.Zt d.Zx.Zw d.Zx.Field d.Zx.N
 else bif s==1 then Gl N a e f h i j k l m o p q r s (Sv N a b c d e f g) d.Zy.Zt d.Zy.Zw d.Zy.Field d.Zy.N
 else none
 else BI N a b c d h i j k l m o p q r
def Zdf (N:Nat) (a:Ys) (b:Int) (c:List Ym->be->(List be)->(List Ys)->(List Yj)->(List be)->be->be->Int->Int->Option Yp) (d:Xw) (e:List Ym) (f:be) (g:List be) (h:List Ys) (i:List Yj) (j:List be) (k:be) (l:be) (m:Int) (o:Int) (p:Int):Option Yp :=
 Sv N a b c d o p N e f g h i j k l m 0 0
def Gi (N:Nat) (a:Ys) (b:List Ym) (c:be) (d:List be) (e:List Ys) (f:List Yj) (g:List be) (h:be) (i:be) (j:Int) (k:Int) (l:Int) (m:Int) (o:List Ym->be->(List be)->(List Ys)->(List Yj)->(List be)->be->be->Int->Int->Int->Int->Option Yp) (p:Int) (q:be) (r:be) (s:Int):Option Yp :=
 bif p==1 then o b c d e f g h i j k l (Yh (m+1))
 else (DR N (⟨b,(⟨c,d,e,f⟩:Ym),g,(⟨h,i,j⟩:Y6)⟩:Yp) a (⟨p,q,r,s⟩:Y5)).bind fun t =>
 bif m==0 then bif m==0 then bif t==0 then (z46 N (⟨b,(⟨c,d,e,f⟩:Ym),g,(⟨h,i,j⟩:Y6)⟩:Yp) a.Zu 10).bind fun u =>
 o u.Z2 u.p'.Zu u.p'.ZE u.p'.ZF u.p'.ZG u.Z3 u.Z4.ZY u.Z4.Zu u.Z4.ZZ t l (Yh (m+1))
 else o b c d e f g h i j t l (Yh (m+1))
 else bif m==1 then bif l==0 then (z46 N (⟨b,(⟨c,d,e,f⟩:Ym),g,(⟨h,i,j⟩:Y6)⟩:Yp) a.Zu 10).bind fun v =>
 o v.Z2 v.p'.Zu v.p'.ZE v.p'.ZF v.p'.ZG v.Z3 v.Z4.ZY v.Z4.Zu v.Z4.ZZ t l (Yh (m+1))
 else o b c d e f g h i j t l (Yh (m+1))
 else none
 else bif m==1 then bif m==0 then bif k==0 then (z46 N (⟨b,(⟨c,d,e,f⟩:Ym),g,(⟨h,i,j⟩:Y6)⟩:Yp) a.Zu 10).bind fun w =>
 o w.Z2 w.p'.Zu w.p'.ZE w.p'.ZF w.p'.ZG w.Z3 w.Z4.ZY w.Z4.Zu w.Z4.ZZ k t (Yh (m+1))
 else o b c d e f g h i j k t (Yh (m+1))
 else bif m==1 then bif t==0 then (z46 N (⟨b,(⟨c,d,e,f⟩:Ym),g,(⟨h,i,j⟩:Y6)⟩:Yp) a.Zu 10).bind fun x =>
 o x.Z2 x.p'.Zu x.p'.ZE x.p'.ZF x.p'.ZG x.Z3 x.Z4.ZY x.Z4.Zu x.Z4.ZZ k t (Yh (m+1))
 else o b c d e f g h i j k t (Yh (m+1))
 else none
 else none
def Ri (N:Nat) (a:Ys) (b:Int) (c:List Ym->be->(List be)->(List Ys)->(List Yj)->(List be)->be->be->Int->Int->Option Yp) (d:Xw):Nat->(List Ym)->be->(List be)->(List Ys)->(List Yj)->(List be)->be->be->Int->Int->Int->Int->Option Yp
 | 0,_,_,_,_,_,_,_,_,_,_,_,_=>none
 | e+1,f,g,h,i,j,k,l,m,o,p,q,r =>
 bif decide (r < 2) then bif r==0 then Gi N a f g h i j k l m o p q r (Ri N a b c d e) d.Zx.Zt d.Zx.Zw d.Zx.Field d.Zx.N
 else bif r==1 then Gi N a f g h i j k l m o p q r (Ri N a b c d e) d.Zy.Zt d.Zy.Zw d.Zy.Field d.Zy.N
 else none
 else Zdf N a b c d f g h i j k l m o p q
def Uf (N:Nat) (a:Int) (b:List Ym->be->(List be)->(List Ys)->(List Yj)->(List be)->be->be->Int->Int->Option Yp) (c:Ys):Nat->(List Ym)->be->(List be)->(List Ys)->(List Yj)->(List be)->be->be->Int->Int->Option Yp
 | 0,_,_,_,_,_,_,_,_,_,_=>none
 | d+1,e,f,g,h,i,j,k,l,m,o =>
 bif decide (o < (c.ZA.length:Int)) then (idx c.ZA o).bind fun p =>
 Ri N c o (Uf N a b c d) p N e f g h i j k l m 0 0 0
 else BH a b e f g h i j k l m
def Vk (N:Nat) (a:Yp):Nat->(List Ym)->be->(List be)->(List Ys)->(List Yj)->(List be)->be->be->Int->Int->Option Yp
 | 0,_,_,_,_,_,_,_,_,_,_=>none
 | b+1,c,d,e,f,g,h,i,j,k,l =>
 bif decide (l < (a.p'.ZF.length:Int)) then (idx a.p'.ZF l).bind fun m =>
 Uf N l (Vk N a b) m N c d e f g h i j k 0
 else BG c d e f g h i j k
def BF (N:Nat) (a:Yp):Option Yp :=
 Vk N a N a.Z2 a.p'.Zu a.p'.ZE a.p'.ZF a.p'.ZG a.Z3 a.Z4.ZY a.Z4.Zu a.Z4.ZZ 0
def ZbN (N:Nat) (a:Ym) (b:Ym):Option Bool :=
 some (a.Zu.toList==b.Zu.toList)
def ZdM:Option Int :=
 some (-1)
def Lg (N:Nat) (a:List Ym) (b:Ym):Nat->Int->Option Int
 | 0,_=>none
 | c+1,d =>
 bif decide (d < (a.length:Int)) then (idx a d).bind fun e =>
 (ZbN N e b).bind fun f =>
 bif f then some d
 else (Lg N a b c) (Yh (d+1))
 else ZdM
def B5 (N:Nat) (a:List Ym) (b:Ym):Option Int :=
 Lg N a b N 0
def ZbO (a:List be):Option (List be) :=
 some a
def ZbP (a:Int) (b:List be->Int->Option (List be)) (c:List be):Option (List be) :=
 b c (Yh (a+1))
def Ml (rc:List Yj->Option (List be)) (a:Int) (b:List be->Int->Option (List be)) (c:Yj):Nat->(List be)->Int->Option (List be)
 | 0,_,_=>none
 | d+1,e,f =>
 bif decide (f < (c.ZD.length:Int)) then (idx c.ZD f).bind fun g =>
 (rc g).bind fun h =>
 (Y7 e h).bind fun i =>
 (Ml rc a b c d) i (Yh (f+1))
 else ZbP a b e
def HM (N:Nat) (rc:List Yj->Option (List be)) (a:Int) (b:List be->Int->Option (List be)) (c:Yj) (d:List be):Option (List be) :=
 Ml rc a b c N d 0
def So (N:Nat) (rc:List Yj->Option (List be)) (a:List Yj):Nat->(List be)->Int->Option (List be)
 | 0,_,_=>none
 | b+1,c,d =>
 bif decide (d < (a.length:Int)) then (idx a d).bind fun e =>
 bif e.Zt==6 then (Y7 c ([e.Zu]:List be)).bind fun f =>
 HM N rc d (So N rc a b) e f
 else HM N rc d (So N rc a b) e c
 else ZbO c
def DY (N:Nat) (rc:List Yj->Option (List be)) (a:List Yj):Option (List be) :=
 So N rc a N ([]:List be) 0
def ZbQ:Nat->(List Yj)->Option (List be)
 | 0,_=>none
 | N+1,a0=>DY N (ZbQ N) a0
def Mk (N:Nat) (a:List Yj):Option (List be):=ZbQ N a
def ZbR (N:Nat) (a:List be):Option (List be):=bif decide ((a.length:Int)<=4611686018427387903) then some (S8 a) else none
def ZbS (N:Nat) (a:List be):Option (List be):=bif decide ((a.length:Int)<=4611686018427387903) then some (TX a) else none
def ZbU (N:Nat) (a:Ym) (b:be):Option Bool :=
 some (a.Zu.toList==b.toList)
def ZdN:Option Int :=
 some (-1)
def Lh (N:Nat) (a:List Ym) (b:be):Nat->Int->Option Int
 | 0,_=>none
 | c+1,d =>
 bif decide (d < (a.length:Int)) then (idx a d).bind fun e =>
 (ZbU N e b).bind fun f =>
 bif f then some d
 else (Lh N a b c) (Yh (d+1))
 else ZdN
def B6 (N:Nat) (a:List Ym) (b:be):Option Int :=
 Lh N a b N 0
def BB (N:Nat) (a:List Ym) (b:be):Option Bool :=
 (B6 N a b).bind fun c =>
 some (decide (c>=0))
def Mm (N:Nat) (a:be) (b:Yp):Option Bool :=
 (BB N b.Z2 a).bind fun c =>
 some (!c)
def Zcs:Option Int :=
 some (-1)
def MB (N:Nat) (a:List be) (b:Yp):Nat->Int->Option Int
 | 0,_=>none
 | c+1,d =>
 bif decide (d < (a.length:Int)) then (idx a d).bind fun e =>
 (Mm N e b).bind fun f =>
 bif f then some d
 else (MB N a b c) (Yh (d+1))
 else Zcs
def Bd (N:Nat) (a:List be) (b:Yp):Option Int :=
 MB N a b N 0
def ZbT (a:List be) (b:Int):Option (List be) :=
 (lsl a (some b) none).bind fun c =>
 (LG (str []) a (some b) none).bind fun d =>
 (lsl d none (some b)).bind fun e =>
 some e
def Q6 (N:Nat) (a:Yp):Nat->(List be)->Int->Int->Option (List be)
 | 0,_,_,_=>none
 | b+1,c,d,e =>
 bif decide (e < (c.length:Int)) then (idx c e).bind fun f =>
 (Mm N f a).bind fun g =>
 bif !g then (idx c d).bind fun h =>
 (Q6 N a b) (YA c d f) (Yh (d+1)) (Yh (e+1))
 else (Q6 N a b) c d (Yh (e+1))
 else ZbT c d
def DZ (N:Nat) (a:List be) (b:Yp):Option (List be) :=
 (Bd N a b).bind fun c =>
 bif c==(-1) then some a
 else Q6 N b N a c (Yh (c+1))
def Zdh (N:Nat) (a:Yp) (b:List be):Option Yp :=
 bif decide ((b.length:Int) > 0) then (z46 N a a.p'.Zu 6).bind fun c =>
 some c
 else some a
def Gn (N:Nat) (a:Yp) (b:Int) (c:List be->Int->Option Yp) (d:List be):Option Yp :=
 (ZbR N d).bind fun e =>
 (ZbS N e).bind fun f =>
 (DZ N f a).bind fun g =>
 c g (Yh (b+1))
def Sw (N:Nat) (a:Yp) (b:List be) (c:Int) (d:List be->Int->Option Yp):Nat->(List be)->Int->Option Yp
 | 0,_,_=>none
 | e+1,f,g =>
 bif decide (g < (a.Z2.length:Int)) then (idx a.Z2 g).bind fun h =>
 (B5 N a.Z2 h).bind fun i =>
 bif i==g then (VW N b h.Zu).bind fun j =>
 bif j then (Mk N h.ZG).bind fun k =>
 (Y7 f k).bind fun l =>
 (Sw N a b c d e) l (Yh (g+1))
 else (Sw N a b c d e) f (Yh (g+1))
 else (Sw N a b c d e) f (Yh (g+1))
 else Gn N a c d f
def Rj (N:Nat) (a:Yp):Nat->(List be)->Int->Option Yp
 | 0,_,_=>none
 | b+1,c,d =>
 bif decide (d < 5) then Sw N a c d (Rj N a b) N ([]:List be) 0
 else Zdh N a c
def z51 (N:Nat) (a:Yp):Option Yp :=
 Rj N a N ([a.p'.Zu]:List be) 0
def ZgD:Option Y6 :=
 some (⟨(str []),(str []),0⟩:Y6)
def HZ (N:Nat) (a:Int) (b:Int->Option Y6) (c:Ym) (d:List Ym) (e:be) (f:List be) (g:List Ys) (h:List Yj) (i:List be) (j:be) (k:be) (l:Int):Option Y6 :=
 (BC N (⟨d,(⟨e,f,g,h⟩:Ym),i,(⟨j,k,l⟩:Y6)⟩:Yp)).bind fun m =>
 (BF N m).bind fun o =>
 (VV N o c.ZG ([]:List YS)).bind fun p =>
 (z51 N p).bind fun q =>
 bif q.Z4.ZZ != 0 then some q.Z4
 else b (Yh (a+1))
def Pe (N:Nat) (a:Int) (b:Int->Option Y6) (c:Ym):Nat->(List Ym)->be->(List be)->(List Ys)->(List Yj)->(List be)->be->be->Int->Int->Option Y6
 | 0,_,_,_,_,_,_,_,_,_,_=>none
 | d+1,e,f,g,h,i,j,k,l,m,o =>
 bif decide (o < (c.ZE.length:Int)) then (Ge N c.ZE o).bind fun p =>
 bif p then (idx c.ZE o).bind fun q =>
 (z46 N (⟨e,(⟨f,g,h,i⟩:Ym),j,(⟨k,l,m⟩:Y6)⟩:Yp) q 9).bind fun r =>
 (Pe N a b c d) r.Z2 r.p'.Zu r.p'.ZE r.p'.ZF r.p'.ZG r.Z3 r.Z4.ZY r.Z4.Zu r.Z4.ZZ (Yh (o+1))
 else (Pe N a b c d) e f g h i j k l m (Yh (o+1))
 else HZ N a b c e f g h i j k l m
def Pd (N:Nat) (a:Int) (b:Int->Option Y6) (c:Ym) (d:List Ym) (e:be) (f:List be) (g:List Ys) (h:List Yj) (i:List be) (j:be) (k:be) (l:Int):Option Y6 :=
 Pe N a b c N d e f g h i j k l 0
def UJ (N:Nat) (a:List Ym):Nat->Int->Option Y6
 | 0,_=>none
 | b+1,c =>
 bif decide (c < (a.length:Int)) then (idx a c).bind fun d =>
 (lsl a none (some c)).bind fun e =>
 (Gd N e d).bind fun f =>
 bif f then (z46 N (⟨a,d,([]:List be),(⟨(str []),(str []),0⟩:Y6)⟩:Yp) d.Zu 9).bind fun g =>
 Pd N c (UJ N a b) d g.Z2 g.p'.Zu g.p'.ZE g.p'.ZF g.p'.ZG g.Z3 g.Z4.ZY g.Z4.Zu g.Z4.ZZ
 else Pd N c (UJ N a b) d a d.Zu d.ZE d.ZF d.ZG ([]:List be) (str []) (str []) 0
 else ZgD
def Pb (N:Nat) (a:List Ym):Option Y6 :=
 (MF N a).bind fun b =>
 bif !b then some (⟨(str []),(str []),1⟩:Y6)
 else UJ N a N 0
def z53 (N:Nat) (rc:List Yj->Option Bool) (a:List Yj):Option Bool :=
 (rc a).bind fun b =>
 some (!b)
def ZbW:Option Int :=
 some (-1)
def Mn (N:Nat) (rc:List Yj->Option Bool) (a:(List (List Yj))):Nat->Int->Option Int
 | 0,_=>none
 | b+1,c =>
 bif decide (c < (a.length:Int)) then (idx a c).bind fun d =>
 (z53 N rc d).bind fun e =>
 bif e then some c
 else (Mn N rc a b) (Yh (c+1))
 else ZbW
def ZbV (N:Nat) (rc:List Yj->Option Bool) (a:(List (List Yj))):Option Int :=
 Mn N rc a N 0
def Zdi (N:Nat) (rc:List Yj->Option Bool) (a:(List (List Yj))):Option Bool :=
 (ZbV N rc a).bind fun b =>
 some (decide (b>=0))
def ZcN:Option Bool :=
 some true
def MJ (N:Nat) (rc:List Yj->Option Bool) (a:List Yj):Nat->Int->Option Bool
 | 0,_=>none
 | b+1,c =>
 bif decide (c < (a.length:Int)) then (idx a c).bind fun d =>
 bif d.Zt==6 then some false
 else bif d.Zt==5 then some false
 else (Zdi N rc d.ZD).bind fun e =>
 bif e then some false
 else (MJ N rc a b) (Yh (c+1))
 else ZcN
def ZgF (N:Nat) (rc:List Yj->Option Bool) (a:List Yj):Option Bool :=
 MJ N rc a N 0
def Pf:Nat->(List Yj)->Option Bool
 | 0,_=>none
 | N+1,a0=>ZgF N (Pf N) a0
def z18 (N:Nat) (a:List Yj):Option Bool:=Pf N a
def BN (N:Nat) (a:List T3):Option (List T3) :=
 (Y7 ([]:List T3) a).bind fun b =>
 some b
def Zdk (N:Nat) (a:T0) (b:Y5):Option Bool :=
 some (a.Zu.toList==b.Zw.toList)
def Zdj:Option Int :=
 some (-1)
def MV (N:Nat) (a:List T0) (b:Y5):Nat->Int->Option Int
 | 0,_=>none
 | c+1,d =>
 bif decide (d < (a.length:Int)) then (idx a d).bind fun e =>
 (Zdk N e b).bind fun f =>
 bif f then some d
 else (MV N a b c) (Yh (d+1))
 else Zdj
def BO (N:Nat) (a:List T0) (b:Y5):Option Int :=
 MV N a b N 0
def Zdo (N:Nat) (a:T3) (b:Y5):Option Bool :=
 some (a.Zu.toList==b.Field.toList)
def Zdn:Option Int :=
 some (-1)
def MY (N:Nat) (a:List T3) (b:Y5):Nat->Int->Option Int
 | 0,_=>none
 | c+1,d =>
 bif decide (d < (a.length:Int)) then (idx a d).bind fun e =>
 (Zdo N e b).bind fun f =>
 bif f then some d
 else (MY N a b c) (Yh (d+1))
 else Zdn
def BR (N:Nat) (a:List T3) (b:Y5):Option Int :=
 MY N a b N 0
def Gq (N:Nat) (a:Y5) (b:be) (c:List T3) (d:Int) (e:List T1) (f:(List (Int × Int))):Option (Vl × Bool) :=
 (BR N c a).bind fun g =>
 bif a.Zt==2 then (idx c g).bind fun h =>
 some ((⟨(Yh (d+g)),a.N⟩:Vl),(h.Zv.Zt==2))
 else some ((⟨(Yh (d+g)),a.N⟩:Vl),false)
def Pl (N:Nat) (a:Y5) (b:List T0) (c:Int):Option (Vl × Bool) :=
 bif a.Zt==1 then some ((⟨(-1),a.N⟩:Vl),false)
 else (idx b c).bind fun d =>
 bif !(a.Zw.toList==(str []).toList) then (BO N b a).bind fun e =>
 (idx b e).bind fun f =>
 Gq N a f.Zu f.Zz f.ZN f.ZO.ZL f.ZO.ZM
 else Gq N a d.Zu d.Zz d.ZN d.ZO.ZL d.ZO.ZM
def Qd (N:Nat) (a:Vl) (b:Vl) (c:Int):Option T1 :=
 some (⟨a.x',b.x',(Yh ((Yh (b.n'-a.n'))-c))⟩:T1)
def BS (N:Nat) (a:be) (b:Vl) (c:Vl):Option (List T1) :=
 bif a.toList==(str [60]).toList then (Qd N b c 1).bind fun d =>
 some ([d]:List T1)
 else bif a.toList==(str [60,61]).toList then (Qd N b c 0).bind fun e =>
 some ([e]:List T1)
 else bif a.toList==(str [62]).toList then (Qd N c b 1).bind fun f =>
 some ([f]:List T1)
 else bif a.toList==(str [62,61]).toList then (Qd N c b 0).bind fun g =>
 some ([g]:List T1)
 else (Qd N b c 0).bind fun h =>
 (Qd N c b 0).bind fun i =>
 some ([h,i]:List T1)
def WK (d:T0):T0:=⟨d.Zu,d.Zz,d.ZN,⟨[],[]⟩⟩
def Tr:List T0->List T5->List T0
 | d::ds,g::gs=>⟨d.Zu,d.Zz,d.ZN,g⟩::Tr ds gs
 | _,_=>[]
def UK (N:Nat) (ds:List T0) (i:Int) (ws:List Xw):Nat->Int->List T1->List (Int × Int)->Option (List T1 × List (Int × Int))
 | 0,_,_,_=>none
 | n+1,k,D,E=>bif decide (k < (ws.length:Int)) then ((idx ws k).bind fun a=>(Pl N a.Zx ds i).bind fun x=>(Pl N a.Zy ds i).bind fun y =>
   bif x.2 then ((Y7 E [(x.1.x',y.1.x')]).bind fun E'=>UK N ds i ws n (Yh (k+1)) D E')
   else ((BS N a.Op x.1 y.1).bind fun dd=>(Y7 D dd).bind fun D'=>UK N ds i ws n (Yh (k+1)) D' E))
   else some (D,E)
def TN (D:List T1):Nat->Int->Option Bool
 | 0,_=>none
 | n+1,k=>bif decide (k < (D.length:Int)) then ((idx D k).bind fun d=>bif decide (d.C < (-20000)) then some false else bif decide (d.C > 20000) then some false else TN D n (Yh (k+1))) else some true
def TM (N:Nat) (a:List Ys) (ds:List T0):Nat->Int->List T5->Option (List T0 × be × Int)
 | 0,_,_=>none
 | n+1,i,G=>bif decide (i < (a.length:Int)) then ((idx a i).bind fun m=>bif decide (i=(G.length:Int)) then ((idx ds i).bind fun _ =>
   (UK N ds i m.ZA N 0 [] []).bind fun p=>(TN p.1 N 0).bind fun ok =>
   bif ok then TM N a ds n (Yh (i+1)) (G++[⟨p.1,p.2⟩]) else some ([],m.Zu,2)) else none)
   else bif aF G.length ds.length then some (Tr ds G,str [],0) else none
def Bj (N:Nat) (a:List Ys) (ds:List T0) (n:Int):Option (List T0 × be × Int) :=
 bif decide (n > 24) then some ([],str [],6) else TM N a (ds.map WK) N 0 []
def Pg (N:Nat) (a:List Ys):Nat->List T0->Int->Int->Option (List T0 × be × Int)
 | 0,_,_,_=>none
 | n+1,ds,c,i=>bif decide (i < (a.length:Int)) then ((idx a i).bind fun m=>(BN N m.Zz).bind fun fs=>(Y7 ds [⟨m.Zu,fs,c,⟨[],[]⟩⟩]).bind fun ds' =>
   Pg N a n ds' (Yh (c+(m.Zz.length:Int))) (Yh (i+1)))
   else Bj N a ds c
def H2 (N:Nat) (a:List Ys):Option (List T0 × be × Int) :=
 (Pb N [⟨(str [80]),[(str [65])],a,[]⟩]).bind fun b=>bif b.ZZ != 0 then some ([],str [],1) else Pg N a N [] 0 0
def Zb6 (N:Nat) (a:Ys) (b:Yj):Option Bool :=
 some (a.Zu.toList==b.Zu.toList)
def Zb5:Option Int :=
 some (-1)
def Mt (N:Nat) (a:List Ys) (b:Yj):Nat->Int->Option Int
 | 0,_=>none
 | c+1,d =>
 bif decide (d < (a.length:Int)) then (idx a d).bind fun e =>
 (Zb6 N e b).bind fun f =>
 bif f then some d
 else (Mt N a b c) (Yh (d+1))
 else Zb5
def Zb4 (N:Nat) (a:List Ys) (b:Yj):Option Int :=
 Mt N a b N 0
abbrev X4:=List (be × Int)
abbrev WI:=Int × List YU
/-- A round of a send. -/
def P6 (N:Nat) (roles:List be) (x:Yj) (label:Int) (a:Nat) (i:Nat) (t:be) (b:WI):Option WI :=
  (TK N roles x.ZB).bind fun f=>(TK N roles t).bind fun q =>
    bif aY (a+b.2.length+1) lim then some (((a+b.2.length:Nat):Int),b.2++[⟨[],[⟨⟨f,q,label⟩,b.1,decide ((i:Int) > 0)⟩],[]⟩]) else none
/-- The branches of a choice. -/
def QD (N:Nat) (lst:List Yj->Int->X4->Nat->Option WI) (x:Yj) (lF:Int) (loops:X4) (a:Nat):Nat->Int->Int->List Int->List YU->Option (Int × List Int × List YU)
  | 0,_,_,_,_=>none
  | n+1,i,o,D,ns=>bif decide (i < (x.ZD.length:Int)) then ((idx x.ZD i).bind fun b=>(lst b lF loops (a+1+ns.length)).bind fun r=>(Y7 D [r.1]).bind fun D' =>
      QD N lst x lF loops a n (Yh (i+1)) r.1 D' (ns++r.2)) else some (o,D,ns)
def PM (N:Nat) (roles:List be) (msgs:List Ys) (lst:List Yj->Int->X4->Nat->Option WI) (x:Yj) (lF:Int) (loops:X4) (a:Nat):Option WI :=
  bif x.Zt==4 then some ((YT loops x.Zu).getD 0,[])
  else bif x.Zt==1 then
    (Zb4 N msgs x).bind fun label=>TU (P6 N roles x label a) x.To (lF,[])
  else bif aY (a+1) lim then (bif x.Zt==3 then
      ((idx x.ZD 0).bind fun b=>(lst b lF (Xd loops x.Zu (a:Int)) (a+1)).bind fun r=>some ((a:Int),⟨[r.1],[],[]⟩::r.2))
    else ((TK N roles x.ZB).bind fun ro=>(QD N lst x lF loops a N 0 0 [] []).bind fun r =>
      some ((a:Int),⟨r.2.1,[],[⟨ro,x.ZC,r.1⟩]⟩::r.2.2))) else none
def Dk (itm:Yj->Int->X4->Nat->Option WI) (l:List Yj) (lF:Int) (loops:X4) (a:Nat):Option WI :=
  TU (fun _ x (b:WI)=>(itm x b.1 loops (a+b.2.length)).bind fun r=>some (r.1,b.2++r.2)) l (lF,[])
def Ts (N:Nat) (roles:List be) (msgs:List Ys):Nat->List Yj->Int->X4->Nat->Option WI
  | 0=>fun _ _ _ _=>none
  | n+1=>Dk (PM N roles msgs (Ts N roles msgs n))
def GK (N:Nat) (roles:List be) (msgs:List Ys) (nodes:List YU) (l:List Yj) (lF:Int):Option WI :=
 (Ts N roles msgs N l lF [] nodes.length).bind fun r=>some (r.1,nodes++r.2)
def ZbZ (N:Nat) (a:List Int):Option (List Int) :=
 (Y7 ([]:List Int) a).bind fun b =>
 some b
def Zb0 (N:Nat) (a:List Int):Option (List Int):=bif decide ((a.length:Int)<=4611686018427387903) then some (R7 a) else none
def Zdp (N:Nat) (a:List Int):Option (List Int) :=
 (Zb0 N a).bind fun b =>
 some b
def Qk (N:Nat) (a:X5):Nat->(List (Int × Bool))->(List Int)->(List Int)->Option (List Int)
 | 0,_,_,_=>none
 | b+1,c,d,e =>
 bif decide ((e.length:Int) > 0) then (idx e (Yh ((e.length:Int)-1))).bind fun f =>
 (lsl e none (some (Yh ((e.length:Int)-1)))).bind fun g =>
 (some ((YT c f).getD false)).bind fun h =>
 bif h then (Qk N a b) c d g
 else (Y7 d ([f]:List Int)).bind fun i =>
 (idx a.Ye f).bind fun j =>
 (Y7 g j.Yb).bind fun k =>
 (Qk N a b) (Xd c f true) i k
 else Zdp N d
def MZ (N:Nat) (a:X5) (b:List Int):Option (List Int) :=
 (ZbZ N b).bind fun c =>
 Qk N a N ([]:(List (Int × Bool))) ([]:List Int) c
def ZcE (N:Nat) (a:be):Option be :=
 some ao
def H3 (a:be) (b:Int) (c:Bool):Option be :=
 bif c then (XN .shr .i32 b 12).bind fun d =>
 (XN .or .u8 224 (wk .u8 (d))).bind fun e =>
 (XN .shr .i32 b 6).bind fun f =>
 (XN .and .u8 (wk .u8 (f)) 63).bind fun g =>
 (XN .or .u8 128 g).bind fun h =>
 (XN .and .u8 (wk .u8 (b)) 63).bind fun i =>
 (XN .or .u8 128 i).bind fun j =>
 (TR a ([e,h,j]:List Int)).bind fun k =>
 some k
 else bif decide ((wk .u32 (b)) > 65535) then bif decide ((wk .u32 (b))<=1114111) then (XN .shr .i32 b 18).bind fun l =>
 (XN .or .u8 240 (wk .u8 (l))).bind fun m =>
 (XN .shr .i32 b 12).bind fun o =>
 (XN .and .u8 (wk .u8 (o)) 63).bind fun p =>
 (XN .or .u8 128 p).bind fun q =>
 (XN .shr .i32 b 6).bind fun r =>
 (XN .and .u8 (wk .u8 (r)) 63).bind fun s =>
 (XN .or .u8 128 s).bind fun t =>
 (XN .and .u8 (wk .u8 (b)) 63).bind fun u =>
 (XN .or .u8 128 u).bind fun v =>
 (TR a ([m,q,t,v]:List Int)).bind fun w =>
 some w
 else (TR a ([239,191,189]:List Int)).bind fun x =>
 some x
 else (TR a ([239,191,189]:List Int)).bind fun y =>
 some y
def ZcO (N:Nat) (a:be) (b:Int):Option be :=
 bif decide ((wk .u32 (b))<=2047) then (XN .shr .i32 b 6).bind fun c =>
 (XN .or .u8 192 (wk .u8 (c))).bind fun d =>
 (XN .and .u8 (wk .u8 (b)) 63).bind fun e =>
 (XN .or .u8 128 e).bind fun f =>
 (TR a ([d,f]:List Int)).bind fun g =>
 some g
 else bif decide ((wk .u32 (b)) < 55296) then H3 a b true
 else bif decide (57343 < (wk .u32 (b))) then H3 a b (decide ((wk .u32 (b))<=65535))
 else H3 a b false
def HX (N:Nat) (a:be) (b:Int):Option be :=
 bif decide ((wk .u32 (b))<=127) then (TR a ([(wk .u8 (b))]:List Int)).bind fun c =>
 some c
 else (ZcO N a b).bind fun d =>
 some d
def HO (N:Nat) (a:Int) (b:be):Option (Int × Unit × be) :=
 (ZcE N ao).bind fun c =>
 (HX N c a).bind fun d =>
 some ((Yh ((d.size:Int)-(c.size:Int))),(),d)
def ZcG (N:Nat) (a:be):Option Unit :=
 some ()
def Mp (N:Nat) (a:Int) (b:be):Option (Int × Unit × be) :=
 (ZcG N b).bind fun c =>
 (HX N b a).bind fun d =>
 some ((Yh ((d.size:Int)-(b.size:Int))),(),d)
def Gz (N:Nat) (a:be):Option be :=
 (SP a).bind fun b =>
 (SP a).bind fun c =>
 some a
def Zhe (N:Nat) (a:be):Option be :=
 some ao
def M5 (N:Nat) (a:List Int):Nat->be->Int->Option be
 | 0,_,_=>none
 | b+1,c,d =>
 bif decide (d < (a.length:Int)) then (idx a d).bind fun e =>
 (Mp N (wk .i32 (e)) c).bind fun f =>
 (M5 N a b) f.2.2 (Yh (d+1))
 else (Gz N c).bind fun g =>
 some g
def M3 (N:Nat) (a:List Int):Option be :=
 bif decide (0 < (a.length:Int)) then (idx a 0).bind fun b =>
 (HO N (wk .i32 (b)) ao).bind fun c =>
 M5 N a N c.2.2 (Yh (0+1))
 else (Zhe N ao).bind fun d =>
 some d
def H4 (N:Nat) (a:Int):Option Bool :=
 some (a != a)
def MK (N:Nat) (a:Int) (b:Int):Option Int :=
 (H4 N a).bind fun c =>
 (H4 N b).bind fun d =>
 bif c then bif d then some 0
 else some (-1)
 else bif d then some 1
 else bif decide (a < b) then some (-1)
 else bif decide (a > b) then some 1
 else some 0
def ZcQ:Option Int :=
 some 0
def Rf (a:List Int):Nat->Int->Option Int
 | 0,_=>none
 | b+1,c =>
 bif decide (c < (a.length:Int)) then (idx a c).bind fun d =>
 bif d != 0 then some d
 else (Rf a b) (Yh (c+1))
 else ZcQ
def ZcP (N:Nat) (a:List Int):Option Int :=
 Rf a N 0
def z164 (N:Nat) (a:T6) (b:T6):Option Int :=
 (MK N a.ZB b.ZB).bind fun c =>
 (MK N a.To b.To).bind fun d =>
 (MK N a.ZP b.ZP).bind fun e =>
 (ZcP N ([c,d,e]:List Int)).bind fun f =>
 some f
def ZcI (N:Nat) (a:List T6) (b:T6) (c:Int):Option (Int × Bool) :=
 bif decide (c < (a.length:Int)) then (idx a c).bind fun d =>
 (z164 N d b).bind fun e =>
 some (c,(e==0))
 else some (c,false)
def Sq (N:Nat) (a:List T6) (b:T6):Nat->Int->Int->Option (Int × Bool)
 | 0,_,_=>none
 | c+1,d,e =>
 bif decide (d < e) then (XN .shr .u64 (wk .u64 ((Yh (d+e)))) 1).bind fun f =>
 (idx a (Yh (f))).bind fun g =>
 (z164 N g b).bind fun h =>
 bif decide (h < 0) then (Sq N a b c) (Yh ((Yh (f))+1)) e
 else (Sq N a b c) d (Yh (f))
 else ZcI N a b d
def Bf (N:Nat) (a:List T6) (b:T6):Option (Int × Bool) :=
 Sq N a b N 0 (a.length:Int)
def W6 {α:Type} (xs:List α) (i:Nat) (x:α):List α:=xs.take i++[x]++xs.drop i
abbrev Lp:=List T6 × List (List Int) × Int × Int
/-- The arcs of a node. -/
def RT (N:Nat) (arcs:List T9):Nat->Int->List T6->List (List Int)->Int->Int->Option Lp
  | 0,_,_,_,_,_=>none
  | n+1,k,A,T,g,p=>bif decide (k < (arcs.length:Int)) then ((idx arcs k).bind fun a=>(Bf N A a.Z8).bind fun r =>
      bif decide (0<=r.1) && aY r.1.toNat A.length && aY (A.length+1) lim && aF T.length A.length then
        ((bif r.2 then T else W6 T r.1.toNat [])[r.1.toNat]?).bind fun t=>(Y7 t [a.to']).bind fun t' =>
          RT N arcs n (Yh (k+1)) (bif r.2 then A else W6 A r.1.toNat a.Z8) ((bif r.2 then T else W6 T r.1.toNat []).set r.1.toNat t') (bif a.again' then Yh (g+1) else g) (bif a.again' then p else Yh (p+1))
      else none) else some (A,T,g,p)
def PT (N:Nat) (nodes:List YU) (set:List Int):Nat->Int->List T6->List (List Int)->Int->Int->Option Lp
  | 0,_,_,_,_,_=>none
  | n+1,k,A,T,g,p=>bif decide (k < (set.length:Int)) then ((idx set k).bind fun m=>(idx nodes m).bind fun nd=>(RT N nd.Yc N 0 A T g p).bind fun q =>
      PT N nodes set n (Yh (k+1)) q.1 q.2.1 q.2.2.1 q.2.2.2) else some (A,T,g,p)
def Do (N:Nat) (nodes:List YU) (set:List Int):Option Lp:=PT N nodes set N 0 [] [] 0 0
def GJ (N:Nat) (a:X5) (b:List Int):Option Lp:=Do N a.Ye b
def Zdq (a:List T6 × (List (List Int)) × Int × Int) (b:List YW):Option ((List (List Int)) × Bool × (List YW)) :=
 some (a.2.1,true,b)
def Zdr (a:Int) (b:List YW->Int->Option ((List (List Int)) × Bool × (List YW))) (c:List YW):Option ((List (List Int)) × Bool × (List YW)) :=
 b c (Yh (a+1))
def Rk (N:Nat) (a:X5) (b:Int) (c:List T6 × (List (List Int)) × Int × Int) (d:Int) (e:List YW->Int->Option ((List (List Int)) × Bool × (List YW))) (f:YU):Nat->(List YW)->Int->Option ((List (List Int)) × Bool × (List YW))
 | 0,_,_=>none
 | g+1,h,i =>
 bif decide (i < (f.Yd.length:Int)) then (idx f.Yd i).bind fun j =>
 (idx h b).bind fun k =>
 bif (c.1.length:Int)==0 then some (c.2.1,false,h)
 else (idx c.1 0).bind fun l =>
 bif l.ZB != j.Z9 then some (c.2.1,false,h)
 else bif j.ticks'==0 then (Rk N a b c d e f g) h (Yh (i+1))
 else (MZ N a ([j.Ya]:List Int)).bind fun m =>
 (GJ N a m).bind fun o =>
 bif (o.1.length:Int) != 1 then some (c.2.1,false,h)
 else (idx m 0).bind fun p =>
 bif p==0 then some (c.2.1,false,h)
 else bif decide (k.ticks' > 0) then bif k.ticks' != j.ticks' then some (c.2.1,false,h)
 else (idx o.1 0).bind fun q =>
 bif !((k.other'.ZB==q.ZB) && ((k.other'.To==q.To) && ((k.other'.ZP==q.ZP) && true))) then some (c.2.1,false,h)
 else (idx o.1 0).bind fun r =>
 (idx (YA h b (⟨k.set',k.end',k.again',j.ticks',k.other',k.acts',k.to'⟩:YW)) b).bind fun s =>
 (Rk N a b c d e f g) (YA (YA h b (⟨k.set',k.end',k.again',j.ticks',k.other',k.acts',k.to'⟩:YW)) b (⟨s.set',s.end',s.again',s.ticks',r,s.acts',s.to'⟩:YW)) (Yh (i+1))
 else (idx o.1 0).bind fun t =>
 (idx (YA h b (⟨k.set',k.end',k.again',j.ticks',k.other',k.acts',k.to'⟩:YW)) b).bind fun u =>
 (Rk N a b c d e f g) (YA (YA h b (⟨k.set',k.end',k.again',j.ticks',k.other',k.acts',k.to'⟩:YW)) b (⟨u.set',u.end',u.again',u.ticks',t,u.acts',u.to'⟩:YW)) (Yh (i+1))
 else Zdr d e h
def Tb (N:Nat) (a:X5) (b:Int) (c:List T6 × (List (List Int)) × Int × Int) (d:YW):Nat->(List YW)->Int->Option ((List (List Int)) × Bool × (List YW))
 | 0,_,_=>none
 | e+1,f,g =>
 bif decide (g < (d.set'.length:Int)) then (idx d.set' g).bind fun h =>
 (idx a.Ye h).bind fun i =>
 Rk N a b c g (Tb N a b c d e) i N f 0
 else Zdq c f
def Vt (N:Nat) (a:X5) (b:List YW) (c:Int) (d:YW) (e:List T6 × (List (List Int)) × Int × Int) (f:Int) (g:YW) (h:YW) (i:Bool):Option ((List (List Int)) × Bool × (List YW)) :=
 bif i then some (e.2.1,false,(YA (YA (YA b c (⟨d.set',d.end',d.again',d.ticks',d.other',e.1,d.to'⟩:YW)) c (⟨g.set',g.end',(decide (e.2.2.1 > 0)),g.ticks',g.other',g.acts',g.to'⟩:YW)) c (⟨h.set',(f==0),h.again',h.ticks',h.other',h.acts',h.to'⟩:YW)))
 else (idx (YA (YA (YA b c (⟨d.set',d.end',d.again',d.ticks',d.other',e.1,d.to'⟩:YW)) c (⟨g.set',g.end',(decide (e.2.2.1 > 0)),g.ticks',g.other',g.acts',g.to'⟩:YW)) c (⟨h.set',(f==0),h.again',h.ticks',h.other',h.acts',h.to'⟩:YW)) c).bind fun j =>
 Tb N a c e j N (YA (YA (YA b c (⟨d.set',d.end',d.again',d.ticks',d.other',e.1,d.to'⟩:YW)) c (⟨g.set',g.end',(decide (e.2.2.1 > 0)),g.ticks',g.other',g.acts',g.to'⟩:YW)) c (⟨h.set',(f==0),h.again',h.ticks',h.other',h.acts',h.to'⟩:YW)) 0
def M6 (N:Nat) (a:X5) (b:List YW) (c:Int):Option ((List (List Int)) × Bool × (List YW)) :=
 (idx b c).bind fun d =>
 (GJ N a d.set').bind fun e =>
 (idx d.set' 0).bind fun f =>
 (idx (YA b c (⟨d.set',d.end',d.again',d.ticks',d.other',e.1,d.to'⟩:YW)) c).bind fun g =>
 (idx (YA (YA b c (⟨d.set',d.end',d.again',d.ticks',d.other',e.1,d.to'⟩:YW)) c (⟨g.set',g.end',(decide (e.2.2.1 > 0)),g.ticks',g.other',g.acts',g.to'⟩:YW)) c).bind fun h =>
 (idx (YA (YA (YA b c (⟨d.set',d.end',d.again',d.ticks',d.other',e.1,d.to'⟩:YW)) c (⟨g.set',g.end',(decide (e.2.2.1 > 0)),g.ticks',g.other',g.acts',g.to'⟩:YW)) c (⟨h.set',(f==0),h.again',h.ticks',h.other',h.acts',h.to'⟩:YW)) c).bind fun i =>
 bif i.end' then bif decide ((e.1.length:Int) > 0) then Vt N a b c d e f g h true
 else bif i.again' then bif decide (e.2.2.2 > 0) then Vt N a b c d e f g h true
 else bif decide ((e.1.length:Int) > 1) then Vt N a b c d e f g h true
 else bif decide ((e.1.length:Int) > 0) then (idx e.1 0).bind fun j =>
 (idx e.1 (Yh ((e.1.length:Int)-1))).bind fun k =>
 Vt N a b c d e f g h (j.ZB != k.ZB)
 else Vt N a b c d e f g h false
 else bif decide ((e.1.length:Int) > 0) then (idx e.1 0).bind fun l =>
 (idx e.1 (Yh ((e.1.length:Int)-1))).bind fun m =>
 Vt N a b c d e f g h (l.ZB != m.ZB)
 else Vt N a b c d e f g h false
 else bif i.again' then bif decide (e.2.2.2 > 0) then Vt N a b c d e f g h true
 else bif decide ((e.1.length:Int) > 1) then Vt N a b c d e f g h true
 else bif decide ((e.1.length:Int) > 0) then (idx e.1 0).bind fun o =>
 (idx e.1 (Yh ((e.1.length:Int)-1))).bind fun p =>
 Vt N a b c d e f g h (o.ZB != p.ZB)
 else Vt N a b c d e f g h false
 else bif decide ((e.1.length:Int) > 0) then (idx e.1 0).bind fun q =>
 (idx e.1 (Yh ((e.1.length:Int)-1))).bind fun r =>
 Vt N a b c d e f g h (q.ZB != r.ZB)
 else Vt N a b c d e f g h false
def WB (set:List Int):YW:=⟨set,false,false,0,⟨0,0,0⟩,[],none⟩
def HC (s:YW):YR:=⟨s.set',s.end',s.again',s.ticks',s.other',s.acts',s.to'.getD []⟩
def DN (s:YW) (D:List Int):YW:=⟨s.set',s.end',s.again',s.ticks',s.other',s.acts',some D⟩
/-- The z20 behind a state. -/
def S7 (N:Nat) (a:X5) (T:List (List Int)):Nat->Int->List YW->X4->List Int->Option (List YW × X4 × List Int)
  | 0,_,_,_,_=>none
  | n+1,k,l,kn,D=>bif decide (k < (T.length:Int)) then ((idx T k).bind fun t=>(MZ N a t).bind fun set=>(M3 N set).bind fun ks =>
      bif (YT kn ks).isSome then ((Y7 D [(YT kn ks).getD 0]).bind fun D'=>S7 N a T n (Yh (k+1)) l kn D')
      else ((Y7 l [WB set]).bind fun l'=>(Y7 D [(l.length:Int)]).bind fun D'=>S7 N a T n (Yh (k+1)) l' (Xd kn ks (l.length:Int)) D')) else some (l,kn,D)
def P7 (N:Nat) (a:X5):Nat->Int->Bool->List YW->X4->Option (List YR × Int)
  | 0,_,_,_,_=>none
  | n+1,i,right,l,kn=>bif decide (i < (l.length:Int)) then ((M6 N a l i).bind fun r=>(idx r.2.2 i).bind fun x=>bif x.to'.isSome then none else
      (S7 N a r.1 N 0 r.2.2 kn []).bind fun q=>bif decide ((q.1.length:Int) > 1000) then some ([],6) else
        P7 N a n (Yh (i+1)) (bif right then r.2.1 else false) (YA q.1 i (DN x q.2.2)) q.2.1)
    else bif !right then some ([],13) else some (l.map HC,0)
def sgG (N:Nat) (a:X5) (b:Int):Option (List YR × Int) :=
  (MZ N a [b]).bind fun set=>(M3 N set).bind fun ks=>P7 N a N 0 true [WB set] (Xd [] ks 0)
def Zad (N:Nat) (a:X5) (b:Int):Option ((List YR) × Int):=sgG N a b
def Gr (N:Nat) (a:Int) (b:List Bool):Option Bool :=
 (idx b a).bind fun c =>
 some c
def Zcb:Option Int :=
 some (-1)
def Mu (N:Nat) (a:List Int) (b:List Bool):Nat->Int->Option Int
 | 0,_=>none
 | c+1,d =>
 bif decide (d < (a.length:Int)) then (idx a d).bind fun e =>
 (Gr N e b).bind fun f =>
 bif f then some d
 else (Mu N a b c) (Yh (d+1))
 else Zcb
def Zca (N:Nat) (a:List Int) (b:List Bool):Option Int :=
 Mu N a b N 0
def Zds (N:Nat) (a:List Int) (b:List Bool):Option Bool :=
 (Zca N a b).bind fun c =>
 some (decide (c>=0))
def Zcd:Option Int :=
 some (-1)
def Mv (a:List Bool) (b:Bool):Nat->Int->Option Int
 | 0,_=>none
 | c+1,d =>
 bif decide (d < (a.length:Int)) then (idx a d).bind fun e =>
 bif b==e then some d
 else (Mv a b c) (Yh (d+1))
 else Zcd
def Zcc (N:Nat) (a:List Bool) (b:Bool):Option Int :=
 Mv a b N 0
def BT (N:Nat) (a:List Bool) (b:Bool):Option Bool :=
 (Zcc N a b).bind fun c =>
 some (decide (c>=0))
def PF (N:Nat) (l:List YR) (i:Nat) (b:List Bool × Bool):Option (List Bool × Bool) :=
  (idx l (i:Int)).bind fun s=>(bif s.end' then some true else Zds N s.to' b.1).bind fun ok =>
    bif ok then ((idx b.1 (i:Int)).bind fun g=>bif g then some b else some (YA b.1 (i:Int) true,true)) else some b
def G8 (N:Nat) (l:List YR):Nat->List Bool × Bool->Option Bool
  | 0,_=>none
  | n+1,b=>bif b.2 then ((TU (fun i (_:YR) b=>PF N l i b) l (b.1,false)).bind fun b'=>G8 N l n b') else ((BT N b.1 false).bind fun c=>some (!c))
def ZaM (N:Nat) (l:List YR):Option Bool:=(W8 false (l.length:Int) (l.length:Int)).bind fun g=>G8 N l N (g,true)
def ZaS (N:Nat) (a:List YR):Option Bool:=ZaM N a
def Bl (N:Nat) (a:List be):Option (List be) :=
 (Y7 ([]:List be) a).bind fun b =>
 some b
def MG (N:Nat) (a:List Int):Nat->be->Int->Option be
 | 0,_,_=>none
 | b+1,c,d =>
 bif decide (d < (a.length:Int)) then (idx a d).bind fun e =>
 (Mp N (wk .i32 (e)) c).bind fun f =>
 (MG N a b) f.2.2 (Yh (d+1))
 else some c
def Bg (N:Nat) (a:List Int) (b:be):Option be :=
 bif decide (0 < (a.length:Int)) then (idx a 0).bind fun c =>
 (HO N (wk .i32 (c)) ao).bind fun d =>
 MG N a N d.2.2 (Yh (0+1))
 else ZaA 0
def ZcJ (a:be):Option be :=
 some a
def MH (N:Nat) (a:List Int):Nat->be->Int->Option be
 | 0,_,_=>none
 | b+1,c,d =>
 bif decide (d < (a.length:Int)) then (idx a d).bind fun e =>
 (Mp N (wk .i32 (e)) c).bind fun f =>
 (MH N a b) f.2.2 (Yh (d+1))
 else ZcJ c
def Bh (N:Nat) (a:List Int) (b:be):Option be :=
 MH N a N b 0
def Zce (N:Nat) (a:be):Option be :=
 (Gz N a).bind fun b =>
 some b
def Mw (N:Nat) (a:YR) (b:List Int):Nat->be->Int->Option be
 | 0,_,_=>none
 | c+1,d,e =>
 bif decide (e < (a.acts'.length:Int)) then (idx a.acts' e).bind fun f =>
 (idx a.to' e).bind fun g =>
 (idx b g).bind fun h =>
 (Bh N ([f.ZB,f.To,f.ZP,h]:List Int) d).bind fun i =>
 (Mw N a b c) i (Yh (e+1))
 else Zce N d
def HP (N:Nat) (a:YR) (b:List Int) (c:Int):Option be :=
 (Bg N ([c,a.ticks',a.other'.ZB,a.other'.To,a.other'.ZP]:List Int) ao).bind fun d =>
 Mw N a b N d 0
def D9 (N:Nat) (a:YR) (b:List Int) (c:Int):Option be :=
 bif a.again' then HP N a b (Yh (c+2))
 else HP N a b c
def D8 (N:Nat) (a:YR) (b:List Int):Option be :=
 bif a.end' then D9 N a b 1
 else D9 N a b 0
def M7 (a:Int) (b:List Int->Int->Option (List Int)) (c:(List (be × Int))) (d:List Int):Option (List Int) :=
 bif (c.length:Int)==a then some d
 else b d (c.length:Int)
def Rm (N:Nat) (a:List YR) (b:List Int) (c:Int) (d:List Int->Int->Option (List Int)):Nat->(List (be × Int))->(List Int)->Int->Option (List Int)
 | 0,_,_,_=>none
 | e+1,f,g,h =>
 bif decide (h < (a.length:Int)) then (idx a h).bind fun i =>
 (D8 N i b).bind fun j =>
 (some ((YT f j).getD 0)).bind fun k =>
 bif !((YT f j).isSome) then (some ((YT (Xd f j (f.length:Int)) j).getD 0)).bind fun l =>
 (idx g h).bind fun m =>
 (Rm N a b c d e) (Xd f j (f.length:Int)) (YA g h l) (Yh (h+1))
 else (some ((YT f j).getD 0)).bind fun o =>
 (idx g h).bind fun p =>
 (Rm N a b c d e) f (YA g h o) (Yh (h+1))
 else M7 c d f g
def M8 (N:Nat) (a:List YR):Nat->(List Int)->Int->Option (List Int)
 | 0,_,_=>none
 | b+1,c,d =>
 (W8 0 (a.length:Int) (a.length:Int)).bind fun e =>
 Rm N a c d (M8 N a b) N ([]:(List (be × Int))) e 0
def z70 (N:Nat) (a:List YR):Option (List Int) :=
 (W8 0 (a.length:Int) (a.length:Int)).bind fun b =>
 M8 N a N b 1
def ZcY (a:T4) (b:Int) (c:Int) (d:List T2) (e:List T8):Option T4 :=
 some (⟨a.Zu,a.ZE,a.ZS,b,a.ZU,c,d,e⟩:T4)
def Bn (a:Int) (b:Int->Int->(List T2)->(List T8)->(List (Int × Int))->(List Int)->Option T4) (c:Int) (d:List T2) (e:List T8) (f:(List (Int × Int))) (g:List Int):Option T4 :=
 b (Yh (a+1)) c d e f g
def H5 (a:Int) (b:YR) (c:List T2) (d:Int) (e:List T2->(List T8)->(List (Int × Int))->(List Int)->Int->Option T4) (f:T6) (g:Int) (h:(List (Int × Int))) (i:List Int) (j:List T8):Option T4 :=
 (some ((YT h g).getD 0)).bind fun k =>
 (Y7 c ([(⟨a,f,k,b.again'⟩:T2)]:List T2)).bind fun l =>
 e l j h i (Yh (d+1))
def Bo (a:Int) (b:YR) (c:List T2) (d:List T8) (e:Int) (f:List T2->(List T8)->(List (Int × Int))->(List Int)->Int->Option T4) (g:T6) (h:Int) (i:(List (Int × Int))) (j:List Int) (k:Bool):Option T4 :=
 bif k then (Y7 d ([(⟨a,b.ticks',(c.length:Int)⟩:T8)]:List T8)).bind fun l =>
 H5 a b c e f g h i j l
 else H5 a b c e f g h i j d
def H6 (a:Int) (b:YR) (c:List T2) (d:List T8) (e:Int) (f:List T2->(List T8)->(List (Int × Int))->(List Int)->Int->Option T4) (g:T6) (h:Int) (i:(List (Int × Int))) (j:List Int):Option T4 :=
 bif decide (b.ticks' > 0) then Bo a b c d e f g h i j ((g.ZB==b.other'.ZB) && ((g.To==b.other'.To) && ((g.ZP==b.other'.ZP) && true)))
 else Bo a b c d e f g h i j false
def VD (a:List Int) (b:Int) (c:Int->Int->(List T2)->(List T8)->(List (Int × Int))->(List Int)->Option T4) (d:YR) (e:Int):Nat->(List T2)->(List T8)->(List (Int × Int))->(List Int)->Int->Option T4
 | 0,_,_,_,_,_=>none
 | f+1,g,h,i,j,k =>
 bif decide (k < (d.acts'.length:Int)) then (idx d.acts' k).bind fun l =>
 (idx d.to' k).bind fun m =>
 (idx a m).bind fun o =>
 (some ((YT i o).getD 0)).bind fun p =>
 bif !((YT i o).isSome) then (idx d.to' k).bind fun q =>
 (Y7 j ([q]:List Int)).bind fun r =>
 H6 b d g h k (VD a b c d e f) l o (Xd i o (j.length:Int)) r
 else H6 b d g h k (VD a b c d e f) l o i j
 else Bn b c e g h i j
def H7 (N:Nat) (a:List Int) (b:Int) (c:List T2) (d:List T8) (e:(List (Int × Int))) (f:List Int) (g:Int->Int->(List T2)->(List T8)->(List (Int × Int))->(List Int)->Option T4) (h:YR) (i:Int):Option T4 :=
 VD a b g h i N c d e f 0
def VC (N:Nat) (a:T4) (b:List YR) (c:List Int):Nat->Int->Int->(List T2)->(List T8)->(List (Int × Int))->(List Int)->Option T4
 | 0,_,_,_,_,_,_=>none
 | d+1,e,f,g,h,i,j =>
 bif decide (e < (j.length:Int)) then (idx j e).bind fun k =>
 (idx b k).bind fun l =>
 bif l.end' then H7 N c e g h i j (VC N a b c d) l e
 else H7 N c e g h i j (VC N a b c d) l f
 else ZcY a e f g h
def Bm (N:Nat) (a:T4) (b:List YR):Option T4 :=
 (z70 N b).bind fun c =>
 (idx c 0).bind fun d =>
 VC N a b c N a.ZT a.ZV a.ZW a.ZX (Xd ([]:(List (Int × Int))) d 0) ([0]:List Int)
def HI (N:Nat) (a:Ym):Option (T4 × Int) :=
 (Pb N ([a]:List Ym)).bind fun b =>
 bif b.ZZ != 0 then some ((⟨(str []),([]:List be),([]:List T0),0,0,0,([]:List T2),([]:List T8)⟩:T4),1)
 else (z18 N a.ZG).bind fun c =>
 bif !c then some ((⟨(str []),([]:List be),([]:List T0),0,0,0,([]:List T2),([]:List T8)⟩:T4),1)
 else (H2 N a.ZF).bind fun d =>
 bif d.2.2 != 0 then some ((⟨(str []),([]:List be),([]:List T0),0,0,0,([]:List T2),([]:List T8)⟩:T4),d.2.2)
 else (W8 (⟨([]:List Int),([]:List T9),([]:List VY)⟩:YU) 1 1).bind fun e =>
 (GK N a.ZE a.ZF e a.ZG 0).bind fun f =>
 (Zad N (⟨a,f.2⟩:X5) f.1).bind fun g =>
 bif g.2 != 0 then some ((⟨(str []),([]:List be),([]:List T0),0,0,0,([]:List T2),([]:List T8)⟩:T4),g.2)
 else (ZaS N g.1).bind fun h =>
 bif !h then some ((⟨(str []),([]:List be),([]:List T0),0,0,0,([]:List T2),([]:List T8)⟩:T4),15)
 else (Bl N a.ZE).bind fun i =>
 (Bm N (⟨a.Zu,i,d.1,0,0,0,([]:List T2),([]:List T8)⟩:T4) g.1).bind fun j =>
 bif decide (j.ZT > 200) then some ((⟨(str []),([]:List be),([]:List T0),0,0,0,([]:List T2),([]:List T8)⟩:T4),6)
 else bif decide ((j.ZW.length:Int) > 400) then some ((⟨(str []),([]:List be),([]:List T0),0,0,0,([]:List T2),([]:List T8)⟩:T4),6)
 else some (j,0)
def z5 (N:Nat):Option Bool :=
 (z9 N (str [112,114,111,116,111,99,111,108,32,80,40,65,44,32,66,41,32,123,32,109,101,115,115,97,103,101,32,120,40,41,59,32,109,101,115,115,97,103,101,32,121,40,41,59,32,108,111,111,112,32,76,32,123,32,99,104,111,105,99,101,32,97,116,32,65,32,123,32,65,32,45,62,32,66,58,32,120,59,32,97,103,97,105,110,32,76,59,32,125,32,111,114,32,123,32,65,32,45,62,32,66,58,32,121,59,32,125,32,125,32,125])).bind fun a =>
 bif a.2.2 != 0 then some false
 else bif (a.1.length:Int) != 1 then some false
 else (idx a.1 0).bind fun b =>
 (HI N b).bind fun c =>
 bif c.2==0 then bif c.1.ZT==2 then bif c.1.ZU==0 then bif c.1.ZV==1 then bif (c.1.ZW.length:Int)==2 then (idx c.1.ZW 0).bind fun d =>
 bif d.To==0 then (idx c.1.ZW 1).bind fun e =>
 some (e.To==1)
 else some false
 else some false
 else some false
 else some false
 else some false
 else some false
def Zb7 (a:Int):Option Int :=
 some a
def Zb8 (a:Int) (b:Int->Int->Option Int) (c:Int):Option Int :=
 b c (Yh (a+1))
def Q8 (rc:List Xq->Option Int) (a:List Xq) (b:Int) (c:Int->Int->Option Int):Nat->Int->Int->Option Int
 | 0,_,_=>none
 | d+1,e,f =>
 (idx a b).bind fun g =>
 bif decide (f < (g.ZD.length:Int)) then (idx a b).bind fun h =>
 (idx h.ZD f).bind fun i =>
 (rc i).bind fun j =>
 (Q8 rc a b c d) (Yh (e+j)) (Yh (f+1))
 else Zb8 b c e
def Qe (N:Nat) (rc:List Xq->Option Int) (a:List Xq):Nat->Int->Int->Option Int
 | 0,_,_=>none
 | b+1,c,d =>
 bif decide (d < (a.length:Int)) then Q8 rc a d (Qe N rc a b) N (Yh (c+1)) 0
 else Zb7 c
def D6 (N:Nat) (rc:List Xq->Option Int) (a:List Xq):Option Int :=
 Qe N rc a N 0 0
def Zb9:Nat->(List Xq)->Option Int
 | 0,_=>none
 | N+1,a0=>D6 N (Zb9 N) a0
def Q7 (N:Nat) (a:List Xq):Option Int:=Zb9 N a
def ZbX (a:List Xp) (b:Int) (c:Int):Option Bool :=
 bif decide ((a.length:Int)<=12) then bif decide (b<=320) then some (decide (c<=60))
 else some false
 else some false
def ZbY (a:Int) (b:Int) (c:Int) (d:Int->Int->Int->Option Bool) (e:Int) (f:Xp):Option Bool :=
 d (Yh (a+e)) (Yh (b+(f.ZF.length:Int))) (Yh (c+1))
def Mo (a:List Xp) (b:Int) (c:Int) (d:Int) (e:Int->Int->Int->Option Bool) (f:Int) (g:Xp):Nat->Int->Option Bool
 | 0,_=>none
 | h+1,i =>
 (idx a d).bind fun j =>
 bif decide (i < (j.ZF.length:Int)) then (idx a d).bind fun k =>
 (idx k.ZF i).bind fun l =>
 bif decide ((l.Zz.length:Int) > 8) then some false
 else (idx a d).bind fun m =>
 (idx m.ZF i).bind fun o =>
 bif decide ((o.ZA.length:Int) > 10) then some false
 else (Mo a b c d e f g h) (Yh (i+1))
 else ZbY b c d e f g
def S9 (N:Nat) (a:List Xp):Nat->Int->Int->Int->Option Bool
 | 0,_,_,_=>none
 | b+1,c,d,e =>
 bif decide (e < (a.length:Int)) then (idx a e).bind fun f =>
 (Q7 N f.ZG).bind fun g =>
 (idx a e).bind fun h =>
 Mo a c d e (S9 N a b) g h N 0
 else ZbX a c d
def DW (N:Nat) (a:List Xp):Option Bool :=
 S9 N a N 0 0 0
def z6 (N:Nat) (a:Xp):Option Bool :=
 (DW N ([a]:List Xp)).bind fun b =>
 bif b then (Q7 N a.ZG).bind fun c =>
 bif decide (c<=60) then some (decide ((a.ZF.length:Int)<=20))
 else some false
 else some false
def ZcZ (a:List Yj):Option (List Yj) :=
 some a
def Bq (a:List Yj) (b:Int) (c:List Yj->Int->Option (List Yj)) (d:Xq) (e:(List (List Yj))):Option (List Yj) :=
 (Y7 a ([(⟨d.Zt,d.ZB,d.To,d.Zu,d.As,d.ZC,e⟩:Yj)]:List Yj)).bind fun f =>
 c f (Yh (b+1))
def Ph (rc:List Xq->Option (List Yj)) (a:List Yj) (b:Int) (c:List Yj->Int->Option (List Yj)) (d:Xq):Nat->(List (List Yj))->Int->Option (List Yj)
 | 0,_,_=>none
 | e+1,f,g =>
 bif decide (g < (d.ZD.length:Int)) then (idx d.ZD g).bind fun h =>
 (rc h).bind fun i =>
 (Y7 f ([i]:List (List Yj))).bind fun j =>
 (Ph rc a b c d e) j (Yh (g+1))
 else Bq a b c d f
def Qi (N:Nat) (rc:List Xq->Option (List Yj)) (a:List Xq):Nat->(List Yj)->Int->Option (List Yj)
 | 0,_,_=>none
 | b+1,c,d =>
 bif decide (d < (a.length:Int)) then (idx a d).bind fun e =>
 Ph rc c d (Qi N rc a b) e N ([]:List (List Yj)) 0
 else ZcZ c
def Bp (N:Nat) (rc:List Xq->Option (List Yj)) (a:List Xq):Option (List Yj) :=
 Qi N rc a N ([]:List Yj) 0
def Zc0:Nat->(List Xq)->Option (List Yj)
 | 0,_=>none
 | N+1,a0=>Bp N (Zc0 N) a0
def MM (N:Nat) (a:List Xq):Option (List Yj):=Zc0 N a
def Zck (a:List Ym):Option (List Ym) :=
 some a
def Bb (a:List Ym) (b:Int) (c:List Ym->Int->Option (List Ym)) (d:Xp) (e:List Yj) (f:List Ys):Option (List Ym) :=
 (Y7 a ([(⟨d.Zu,d.ZE,f,e⟩:Ym)]:List Ym)).bind fun g =>
 c g (Yh (b+1))
def Bc (a:List Ys) (b:Int) (c:List Ys->Int->Option (List Ym)) (d:Ve) (e:List Xw):Option (List Ym) :=
 (Y7 a ([(⟨d.Zu,d.Zz,e⟩:Ys)]:List Ys)).bind fun f =>
 c f (Yh (b+1))
def Q9 (a:List Ys) (b:Int) (c:List Ys->Int->Option (List Ym)) (d:Ve):Nat->(List Xw)->Int->Option (List Ym)
 | 0,_,_=>none
 | e+1,f,g =>
 bif decide (g < (d.ZA.length:Int)) then (idx d.ZA g).bind fun h =>
 (Y7 f ([(⟨h.Zx,h.Op,h.Zy⟩:Xw)]:List Xw)).bind fun i =>
 (Q9 a b c d e) i (Yh (g+1))
 else Bc a b c d f
def Rc (N:Nat) (a:List Ym) (b:Int) (c:List Ym->Int->Option (List Ym)) (d:Xp) (e:List Yj):Nat->(List Ys)->Int->Option (List Ym)
 | 0,_,_=>none
 | f+1,g,h =>
 bif decide (h < (d.ZF.length:Int)) then (idx d.ZF h).bind fun i =>
 Q9 g h (Rc N a b c d e f) i N ([]:List Xw) 0
 else Bb a b c d e g
def Sp (N:Nat) (a:List Xp):Nat->(List Ym)->Int->Option (List Ym)
 | 0,_,_=>none
 | b+1,c,d =>
 bif decide (d < (a.length:Int)) then (idx a d).bind fun e =>
 (MM N e.ZG).bind fun f =>
 Rc N c d (Sp N a b) e f N ([]:List Ys) 0
 else Zck c
def D7 (N:Nat) (a:List Xp):Option (List Ym) :=
 Sp N a N ([]:List Ym) 0
def z7 (N:Nat) (a:Xp):Option (T4 × Int) :=
 (D7 N ([a]:List Xp)).bind fun b =>
 (idx b 0).bind fun c =>
 (HI N c).bind fun d =>
 some (d.1,d.2)
def Za4:Option Bool :=
 some true
def PQ (a:T4 × Int) (b:List Bool) (c:List Bool) (d:List Int):Nat->Int->Option Bool
 | 0,_=>none
 | e+1,f =>
 bif decide (f < a.1.ZT) then (idx b f).bind fun g =>
 bif !g then some false
 else (idx c f).bind fun h =>
 bif !h then some false
 else (idx d f).bind fun i =>
 bif !((i==0)==(f==a.1.ZV)) then some false
 else (PQ a b c d e) (Yh (f+1))
 else Za4
def Dg (N:Nat) (a:T4 × Int) (b:List Bool) (c:List Bool) (d:List Int):Option Bool :=
 PQ a b c d N 0
def QO (a:List Int) (b:Int) (c:List Int->Int->Option Bool) (d:T2) (e:Int):Option Bool :=
 c (YA a d.ZB (Yh (e+1))) (Yh (b+1))
def RN (a:T4 × Int) (b:List Int) (c:Int) (d:List Int->Int->Option Bool) (e:T2) (f:Int):Nat->Int->Option Bool
 | 0,_=>none
 | g+1,h =>
 bif decide (h < (a.1.ZW.length:Int)) then (idx a.1.ZW h).bind fun i =>
 bif e.Again then bif i.To==e.ZB then bif i.Act.ZB != e.Act.ZB then some false
 else bif i.Act.ZP != e.Act.ZP then some false
 else (RN a b c d e f g) (Yh (h+1))
 else (RN a b c d e f g) (Yh (h+1))
 else (RN a b c d e f g) (Yh (h+1))
 else QO b c d e f
def Dh (N:Nat) (a:T4 × Int) (b:List Int) (c:Int) (d:List Int->Int->Option Bool) (e:T2) (f:Int):Option Bool :=
 RN a b c d e f N 0
def RO (N:Nat) (a:T4 × Int) (b:List Int) (c:Int) (d:List Int->Int->Option Bool) (e:T2) (f:Int) (g:List T2):Nat->Int->Option Bool
 | 0,_=>none
 | h+1,i =>
 bif decide (i < (g.length:Int)) then (idx g i).bind fun j =>
 bif e.ZB==j.ZB then bif (e.Act.ZB==j.Act.ZB) && ((e.Act.To==j.Act.To) && ((e.Act.ZP==j.Act.ZP) && true)) then some false
 else bif e.Act.ZB != j.Act.ZB then some false
 else bif e.Again then some false
 else bif j.Again then some false
 else (RO N a b c d e f g h) (Yh (i+1))
 else (RO N a b c d e f g h) (Yh (i+1))
 else Dh N a b c d e f
def Sc (N:Nat) (a:T4 × Int) (b:List Bool) (c:List Bool):Nat->(List Int)->Int->Option Bool
 | 0,_,_=>none
 | d+1,e,f =>
 bif decide (f < (a.1.ZW.length:Int)) then (idx a.1.ZW f).bind fun g =>
 (idx e g.ZB).bind fun h =>
 (idx e g.ZB).bind fun i =>
 (lsl a.1.ZW none (some f)).bind fun j =>
 RO N a e f (Sc N a b c d) g h j N 0
 else Dg N a b c e
def Di (N:Nat) (a:T4 × Int) (b:List Bool) (c:List Bool):Option Bool :=
 (W8 0 a.1.ZT a.1.ZT).bind fun d =>
 Sc N a b c N d 0
def Za5 (a:Int) (b:List Bool->(List Bool)->Int->Option Bool) (c:List Bool) (d:List Bool):Option Bool :=
 b c d (Yh (a+1))
def UU (a:T4 × Int) (b:Int) (c:List Bool->(List Bool)->Int->Option Bool):Nat->(List Bool)->(List Bool)->Int->Option Bool
 | 0,_,_,_=>none
 | d+1,e,f,g =>
 bif decide (g < (a.1.ZW.length:Int)) then (idx a.1.ZW g).bind fun h =>
 bif decide (h.ZB < 0) then some false
 else bif decide (h.ZB>=a.1.ZT) then some false
 else bif decide (h.To < 0) then some false
 else bif decide (h.To>=a.1.ZT) then some false
 else (idx e h.To).bind fun i =>
 bif i then (idx e h.To).bind fun j =>
 (idx f h.ZB).bind fun k =>
 bif k then (idx f h.ZB).bind fun l =>
 (UU a b c d) (YA e h.To true) (YA f h.ZB true) (Yh (g+1))
 else (idx f h.To).bind fun m =>
 (idx f h.ZB).bind fun o =>
 (UU a b c d) (YA e h.To true) (YA f h.ZB m) (Yh (g+1))
 else (idx e h.ZB).bind fun p =>
 (idx e h.To).bind fun q =>
 (idx f h.ZB).bind fun r =>
 bif r then (idx f h.ZB).bind fun s =>
 (UU a b c d) (YA e h.To p) (YA f h.ZB true) (Yh (g+1))
 else (idx f h.To).bind fun t =>
 (idx f h.ZB).bind fun u =>
 (UU a b c d) (YA e h.To p) (YA f h.ZB t) (Yh (g+1))
 else Za5 b c e f
def SY (N:Nat) (a:T4 × Int):Nat->(List Bool)->(List Bool)->Int->Option Bool
 | 0,_,_,_=>none
 | b+1,c,d,e =>
 bif decide (e < a.1.ZT) then UU a e (SY N a b) N c d 0
 else Di N a c d
def RM (N:Nat) (a:Xp):Option Bool :=
 (z5 N).bind fun b =>
 bif !b then (z5 N).bind fun c =>
 some c
 else (z6 N a).bind fun d =>
 bif !d then (z5 N).bind fun e =>
 some e
 else (z7 N a).bind fun f =>
 bif f.2 != 0 then bif f.1.ZT==0 then some ((f.1.ZW.length:Int)==0)
 else some false
 else (W8 false f.1.ZT f.1.ZT).bind fun g =>
 (W8 false f.1.ZT f.1.ZT).bind fun h =>
 bif f.1.ZU != 0 then some false
 else bif decide (f.1.ZV < 0) then some false
 else bif decide (f.1.ZV>=f.1.ZT) then some false
 else (idx g 0).bind fun i =>
 (idx h f.1.ZV).bind fun j =>
 SY N f N (YA g 0 true) (YA h f.1.ZV true) 0
end Gx
end
