/- What each function of the statement computes, as plain definitions. -/
import Derived.Test.YtpkbkcejjnemaaaGreatDoorExplainSuggestCore3
set_option linter.all false
section
open Go Go.Kx
namespace Gx
def MI:Nat->Nat->List UInt8
 | 0,_=>[]
 | f+1,u=>bif Nat.blt u 10 then [UInt8.ofNat (48+u)] else MI f (u / 10)++[UInt8.ofNat (48+u % 10)]
def BM (n:Int):ByteArray:=⟨(bif decide (n < 0) then 45::MI 25 n.natAbs else MI 25 n.toNat).toArray⟩
def Pa (sep:List UInt8):List (List UInt8)->List UInt8
 | []=>[]
 | x::r=>x++(r.map (sep++·)).flatten
structure YV where
  Zt:Int
  Lo:Int
  Hi:Int
structure T4 where
  Zu:ByteArray
  Zv:YV
structure T1 where
  X:Int
  Y:Int
  C:Int
structure T6 where
  Zw:List T1
  Zy:(List (Int × Int))
structure T0 where
  Zu:ByteArray
  Zz:List T4
  ZA:Int
  ZB:T6
structure T7 where
  ZC:Int
  To:Int
  ZD:Int
structure T2 where
  ZC:Int
  Act:T7
  To:Int
  ZE:Bool
structure XB where
  ZF:Int
  ZG:Int
  ZH:Int
structure T5 where
  Zu:ByteArray
  ZI:List ByteArray
  ZJ:List T0
  ZL:Int
  ZM:Int
  ZN:Int
  ZO:List T2
  ZP:List XB
structure T9 where
  ZC:Int
  ZQ:Bool
  ZR:Int
  ZD:Int
  To:Int
  ZE:Bool
structure T8 where
  ZS:Int
  ZL:Int
  ZM:Int
  ZT:List Bool
  ZU:List T9
  ZP:List XB
structure T12 where
  Zt:Int
  N:Int
  S:ByteArray
structure T3 where
  ZS:Int
  ZQ:Bool
  ZR:Int
  ZD:Int
  ZV:List T12
structure Yt where
  At:Int
  ZW:List T12
  ZX:List T12
structure Xw where
  ZY:T8
  out':(List (List Int))
structure S9 where
  send':Bool
  peer':Int
  label':Int
structure TC where
  At:Int
  Zt:Int
  ZZ:Int
  ZS:Int
structure Yi where
  N:Int
  B:List Int
def L3 (N:Nat) (a:Int):Option Bool :=
 bif decide (97<=a) then bif decide (a<=122) then some true
 else bif decide (65<=a) then some (decide (a<=90))
 else some false
 else bif decide (65<=a) then some (decide (a<=90))
 else some false
def ZbU (N:Nat) (a:Int):Option Bool :=
 bif decide (48<=a) then some (decide (a<=57))
 else some false
def DH (N:Nat) (a:Int):Option Bool :=
 (L3 N a).bind fun b =>
 bif b then some true
 else (ZbU N a).bind fun c =>
 bif c then some true
 else some (a==95)
def ZbD:Option Bool :=
 some true
def SO (N:Nat) (a:ByteArray):Nat->Int->Option Bool
 | 0,_=>none
 | b+1,c =>
 bif decide (c < (a.size:Int)) then (X7 a c).bind fun d =>
 (DH N d).bind fun e =>
 bif !e then some false
 else (SO N a b) (Z1 (c+1))
 else ZbD
def Dy (N:Nat) (a:ByteArray):Option Bool :=
 bif a.toList==(str []).toList then some false
 else bif decide ((a.size:Int) > 16) then some false
 else (X7 a 0).bind fun b =>
 (L3 N b).bind fun c =>
 bif !c then some false
 else SO N a N 0
def ZbL:Option Int :=
 some (-1)
def P5 (a:List ByteArray) (b:ByteArray):Nat->Int->Option Int
 | 0,_=>none
 | c+1,d =>
 bif decide (d < (a.length:Int)) then (Z5 a d).bind fun e =>
 bif b.toList==e.toList then some d
 else (P5 a b c) (Z1 (d+1))
 else ZbL
def DD (N:Nat) (a:List ByteArray) (b:ByteArray):Option Int :=
 P5 a b N 0
def LW (N:Nat) (a:List ByteArray) (b:ByteArray):Option Bool :=
 (DD N a b).bind fun c =>
 some (decide (c>=0))
def Qs (N:Nat) (a:ByteArray):Option Bool :=
 (Dy N a).bind fun b =>
 bif b then (LW N ([(str [97,103,97,105,110]),(str [97,110,100]),(str [97,115]),(str [97,116]),(str [99,97,108,108]),(str [99,104,111,105,99,101]),(str [101,108,115,101]),(str [102,114,111,109]),(str [105,102]),(str [105,110,116]),(str [108,101,110]),(str [108,111,111,112]),(str [109,101,115,115,97,103,101]),(str [111,102]),(str [111,102,102,101,114]),(str [111,110]),(str [111,114]),(str [112,97,114]),(str [112,108,97,121,115]),(str [112,114,111,116,111,99,111,108]),(str [115,101,114,118,105,99,101]),(str [116,101,120,116]),(str [116,105,109,101,115]),(str [116,111]),(str [118,97,114]),(str [119,104,101,114,101]),(str [119,104,105,108,101]),(str [119,105,116,104,105,110])]:List ByteArray) a).bind fun c =>
 some (!c)
 else some false
def Za4:Option Bool :=
 some true
def PM (N:Nat) (a:T5):Nat->Int->Option Bool
 | 0,_=>none
 | b+1,c =>
 bif decide (c < (a.ZI.length:Int)) then (Z5 a.ZI c).bind fun d =>
 (Qs N d).bind fun e =>
 bif !e then some false
 else (lsl a.ZI none (some c)).bind fun f =>
 (LW N f d).bind fun g =>
 bif g then some false
 else (PM N a b) (Z1 (c+1))
 else Za4
def GW (N:Nat) (a:T5):Option Bool :=
 (Qs N a.Zu).bind fun b =>
 bif !b then some false
 else bif decide ((a.ZI.length:Int) < 1) then some false
 else bif decide ((a.ZI.length:Int) > 6) then some false
 else PM N a N 0
def Za5:Option Bool :=
 some true
def PN (a:T5):Nat->Int->Option Bool
 | 0,_=>none
 | b+1,c =>
 bif decide (c < (a.ZO.length:Int)) then (Z5 a.ZO c).bind fun d =>
 bif decide ((YG (YG (YG (YG d.ZC d.To) d.Act.ZC) d.Act.To) d.Act.ZD) < 0) then some false
 else bif decide ((Yy d.ZC d.To)>=a.ZL) then some false
 else bif decide ((Yy d.Act.ZC d.Act.To)>=(a.ZI.length:Int)) then some false
 else bif d.Act.ZC==d.Act.To then some false
 else bif decide (d.Act.ZD>=(a.ZJ.length:Int)) then some false
 else (PN a b) (Z1 (c+1))
 else Za5
def GX (N:Nat) (a:T5):Option Bool :=
 bif decide (a.ZL < 1) then some false
 else bif decide (a.ZL > 200) then some false
 else bif decide ((YG a.ZM a.ZN) < 0) then some false
 else bif decide ((Yy a.ZM a.ZN)>=a.ZL) then some false
 else bif decide ((a.ZO.length:Int) > 400) then some false
 else PN a N 0
def ZaR (a:List T4):Option (List T4) :=
 some a
def PG (a:List T0):Nat->(List T4)->Int->Option (List T4)
 | 0,_,_=>none
 | b+1,c,d =>
 bif decide (d < (a.length:Int)) then (Z5 a d).bind fun e =>
 (YT c e.Zz).bind fun f =>
 (PG a b) f (Z1 (d+1))
 else ZaR c
def Ls (N:Nat) (a:List T0):Option (List T4) :=
 PG a N ([]:List T4) 0
def ZfP (a:Int) (b:Nat):Option Int :=
 some a
def ZbW (a:ByteArray):Nat->Int->Nat->Option Int
 | 0,_,_=>none
 | b+1,c,d =>
 bif decide (d < a.size) then (ZbW a b) (Z1 (c+1)) (d+(Utf8.decode a d).2)
 else ZfP c d
def ZbV (N:Nat) (a:ByteArray):Option Int :=
 ZbW a N 0 (0:Nat)
def ZbY (N:Nat) (a:ByteArray):Option (Int × Int) :=
 bif decide ((a.size:Int) < 1) then some (65533,0)
 else (X7 a 0).bind fun b =>
 Q0 0
def ZfQ (N:Nat) (a:ByteArray):Option (Int × Int) :=
 bif !(a.toList==(str []).toList) then (X7 a 0).bind fun b =>
 bif decide (b < 128) then (X7 a 0).bind fun c =>
 some ((wk .i32 (c)),1)
 else (ZbY N a).bind fun d =>
 some (d.1,d.2)
 else (ZbY N a).bind fun e =>
 some (e.1,e.2)
def ZfN (a:Int) (b:ByteArray) (c:List ByteArray):Option (List ByteArray) :=
 bif decide (a > 0) then (Z5 c (Z1 (a-1))).bind fun d =>
 some (YA c (Z1 (a-1)) b)
 else some c
def ZbS (N:Nat) (a:Int):Nat->ByteArray->(List ByteArray)->Int->Option (List ByteArray)
 | 0,_,_,_=>none
 | b+1,c,d,e =>
 bif decide (e < (Z1 (a-1))) then (ZfQ N c).bind fun f =>
 (ssl c none (some f.2)).bind fun g =>
 (Z5 d e).bind fun h =>
 (ssl c (some f.2) none).bind fun i =>
 (ZbS N a b) i (YA d e g) (Z1 (e+1))
 else ZfN a c d
def ZbQ (N:Nat) (a:ByteArray) (b:Int):Option (List ByteArray) :=
 (Xs (str []) b b).bind fun c =>
 ZbS N b N a c 0
def ZbR (N:Nat) (a:ByteArray) (b:Int) (c:Int) (d:Bool):Option (List ByteArray) :=
 bif d then ZbQ N a c
 else ZbQ N a b
def ZfM (N:Nat) (a:ByteArray) (b:Int):Option (List ByteArray) :=
 (ZbV N a).bind fun c =>
 bif decide (b < 0) then ZbR N a b c true
 else ZbR N a b c (decide (b > c))
def ZbZ (N:Nat) (a:ByteArray) (b:Int):Option Int :=
 some (Zdm a b)
def ZbX (N:Nat) (a:ByteArray) (b:ByteArray):Option Int :=
 bif (b.size:Int)==0 then some 0
 else bif b.toList==a.toList then some 0
 else bif (b.size:Int)==1 then (X7 b 0).bind fun c =>
 (ZbZ N a c).bind fun d =>
 some d
 else bif decide ((b.size:Int)>=(a.size:Int)) then some (-1)
 else Q0 0
def L5 (N:Nat) (a:ByteArray) (b:ByteArray):Option Int :=
 (ZbX N a b).bind fun c =>
 some c
def ZbT (N:Nat) (a:ByteArray):Nat->ByteArray->Int->Option Int
 | 0,_,_=>none
 | b+1,c,d =>
 (L5 N c a).bind fun e =>
 bif e==(-1) then some d
 else (ssl c (some (Z1 (e+(a.size:Int)))) none).bind fun f =>
 (ZbT N a b) f (Z1 (d+1))
def DJ (N:Nat) (a:ByteArray) (b:ByteArray):Option Int :=
 bif (b.size:Int)==0 then (ZbV N a).bind fun c =>
 some (Z1 (c+1))
 else bif (b.size:Int)==1 then (X7 b 0).bind fun d =>
 some (Bq a d)
 else ZbT N b N a 0
def L2 (a:ByteArray) (b:List ByteArray) (c:Int):Option (List ByteArray) :=
 (Z5 b c).bind fun d =>
 (lsl (YA b c a) none (some (Z1 (c+1)))).bind fun e =>
 some e
def Qy (N:Nat) (a:ByteArray) (b:ByteArray) (c:Int) (d:Int):Nat->ByteArray->(List ByteArray)->Int->Option (List ByteArray)
 | 0,_,_,_=>none
 | e+1,f,g,h =>
 bif decide (h < (Z1 ((YG d (Z1 ((a.size:Int)+1)))-1))) then (L5 N f b).bind fun i =>
 bif decide (i < 0) then L2 f g h
 else (ssl f none (some (Z1 (i+c)))).bind fun j =>
 (Z5 g h).bind fun k =>
 (ssl f (some (Z1 (i+(b.size:Int)))) none).bind fun l =>
 (Qy N a b c d e) l (YA g h j) (Z1 (h+1))
 else L2 f g h
def DG (N:Nat) (a:ByteArray) (b:ByteArray) (c:Int) (d:Int):Option (List ByteArray) :=
 (Xs (str []) (YG d (Z1 ((a.size:Int)+1))) (YG d (Z1 ((a.size:Int)+1)))).bind fun e =>
 Qy N a b c d N a e 0
def ZbO (N:Nat) (a:ByteArray) (b:ByteArray) (c:Int) (d:Int):Option (List ByteArray) :=
 bif d==0 then some ([]:List ByteArray)
 else bif b.toList==(str []).toList then (ZfM N a d).bind fun e =>
 some e
 else bif decide (d < 0) then (DJ N a b).bind fun f =>
 DG N a b c (Z1 (f+1))
 else DG N a b c d
def Dx (N:Nat) (a:ByteArray) (b:ByteArray):Option (List ByteArray) :=
 (ZbO N a b 0 (-1)).bind fun c =>
 some c
def ZbA (N:Nat) (a:ByteArray):Option Bool :=
 (Qs N a).bind fun b =>
 some (!b)
def ZbN:Option Int :=
 some (-1)
def P6 (N:Nat) (a:List ByteArray):Nat->Int->Option Int
 | 0,_=>none
 | b+1,c =>
 bif decide (c < (a.length:Int)) then (Z5 a c).bind fun d =>
 (ZbA N d).bind fun e =>
 bif e then some c
 else (P6 N a b) (Z1 (c+1))
 else ZbN
def ZbM (N:Nat) (a:List ByteArray):Option Int :=
 P6 N a N 0
def Zbz (N:Nat) (a:List ByteArray):Option Bool :=
 (ZbM N a).bind fun b =>
 some (decide (b>=0))
def Dc (N:Nat) (a:ByteArray):Option Bool :=
 bif decide ((a.size:Int)<=50) then (Dx N a (str [46])).bind fun b =>
 (Zbz N b).bind fun c =>
 some (!c)
 else some false
def Zbi (N:Nat) (a:T0) (b:T0):Option Bool :=
 some (a.Zu.toList==b.Zu.toList)
def ZbC:Option Int :=
 some (-1)
def P3 (N:Nat) (a:List T0) (b:T0):Nat->Int->Option Int
 | 0,_=>none
 | c+1,d =>
 bif decide (d < (a.length:Int)) then (Z5 a d).bind fun e =>
 (Zbi N e b).bind fun f =>
 bif f then some d
 else (P3 N a b c) (Z1 (d+1))
 else ZbC
def ZbB (N:Nat) (a:List T0) (b:T0):Option Int :=
 P3 N a b N 0
def Dd (N:Nat) (a:List T0) (b:T0):Option Bool :=
 (ZbB N a b).bind fun c =>
 some (decide (c>=0))
def De (N:Nat) (a:YV):Option Bool :=
 bif a.Zt==1 then bif decide (a.Lo>=(-1000)) then bif decide (a.Lo<=a.Hi) then some (decide (a.Hi<=1000))
 else some false
 else some false
 else bif a.Zt==2 then bif decide (a.Lo>=0) then bif decide (a.Lo<=a.Hi) then some (decide (a.Hi<=40))
 else some false
 else some false
 else some false
def Zbk (N:Nat) (a:T4) (b:T4):Option Bool :=
 some (a.Zu.toList==b.Zu.toList)
def ZbF:Option Int :=
 some (-1)
def P4 (N:Nat) (a:List T4) (b:T4):Nat->Int->Option Int
 | 0,_=>none
 | c+1,d =>
 bif decide (d < (a.length:Int)) then (Z5 a d).bind fun e =>
 (Zbk N e b).bind fun f =>
 bif f then some d
 else (P4 N a b c) (Z1 (d+1))
 else ZbF
def ZbE (N:Nat) (a:List T4) (b:T4):Option Int :=
 P4 N a b N 0
def Df (N:Nat) (a:List T4) (b:T4):Option Bool :=
 (ZbE N a b).bind fun c =>
 some (decide (c>=0))
def Zbl:Option Bool :=
 some true
def Dh (a:Int) (b:Int->Option Bool):Option Bool :=
 b (Z1 (a+1))
def LP (a:List T4) (b:Int) (c:Int->Option Bool) (d:(Int × Int)):Nat->Int->Option Bool
 | 0,_=>none
 | e+1,f =>
 bif decide (f < 2) then (Z5 ([d.1,d.2]:List Int) f).bind fun g =>
 bif decide (g < 0) then some false
 else bif decide (g>=(a.length:Int)) then some false
 else (Z5 a g).bind fun h =>
 bif h.Zv.Zt != 2 then some false
 else (LP a b c d e) (Z1 (f+1))
 else Dh b c
def Sa (N:Nat) (a:T6) (b:List T4):Nat->Int->Option Bool
 | 0,_=>none
 | c+1,d =>
 bif decide (d < (a.Zy.length:Int)) then (Z5 a.Zy d).bind fun e =>
 LP b d (Sa N a b c) e N 0
 else Zbl
def Di (N:Nat) (a:T6) (b:List T4):Option Bool :=
 Sa N a b N 0
def PS (N:Nat) (a:T6) (b:List T4):Nat->Int->Option Bool
 | 0,_=>none
 | c+1,d =>
 bif decide (d < (a.Zw.length:Int)) then (Z5 a.Zw d).bind fun e =>
 bif decide ((YG e.X e.Y) < (-1)) then some false
 else bif decide ((Yy e.X e.Y)>=(b.length:Int)) then some false
 else bif decide (e.C < (-20000)) then some false
 else bif decide (e.C > 20000) then some false
 else (PS N a b c) (Z1 (d+1))
 else Di N a b
def Dg (N:Nat) (a:T6) (b:List T4):Option Bool :=
 bif decide ((a.Zw.length:Int) > 20) then some false
 else bif decide ((a.Zy.length:Int) > 20) then some false
 else PS N a b N 0
def ZaQ:Option Bool :=
 some true
def GG (N:Nat) (a:List T4) (b:Int) (c:Int) (d:Int->Int->Option Bool) (e:T0):Option Bool :=
 (Dg N e.ZB a).bind fun f =>
 bif !f then some false
 else d (Z1 (b+(e.Zz.length:Int))) (Z1 (c+1))
def PF (N:Nat) (a:List T4) (b:Int) (c:Int) (d:Int->Int->Option Bool) (e:T0):Nat->Int->Option Bool
 | 0,_=>none
 | f+1,g =>
 bif decide (g < (e.Zz.length:Int)) then (Z5 e.Zz g).bind fun h =>
 (Qs N h.Zu).bind fun i =>
 bif !i then some false
 else (De N h.Zv).bind fun j =>
 bif !j then some false
 else (lsl e.Zz none (some g)).bind fun k =>
 (Df N k h).bind fun l =>
 bif l then some false
 else (PF N a b c d e f) (Z1 (g+1))
 else GG N a b c d e
def Uj (N:Nat) (a:List T0) (b:List T4):Nat->Int->Int->Option Bool
 | 0,_,_=>none
 | c+1,d,e =>
 bif decide (e < (a.length:Int)) then (Z5 a e).bind fun f =>
 (Dc N f.Zu).bind fun g =>
 bif !g then some false
 else bif decide ((f.Zz.length:Int) > 4) then some false
 else bif f.ZA != d then some false
 else (lsl a none (some e)).bind fun h =>
 (Dd N h f).bind fun i =>
 bif i then some false
 else PF N b d e (Uj N a b c) f N 0
 else ZaQ
def Lr (N:Nat) (a:List T0):Option Bool :=
 bif decide ((a.length:Int) > 40) then some false
 else (Ls N a).bind fun b =>
 bif decide ((b.length:Int) > 24) then some false
 else Uj N a b N 0 0
def DR (a:List T1):Option (List T1) :=
 some a
def UT (a:T0):Nat->(List T1)->Int->Option (List T1)
 | 0,_,_=>none
 | b+1,c,d =>
 bif decide (d < (a.ZB.Zy.length:Int)) then (Z5 a.ZB.Zy d).bind fun e =>
 (YT c ([(⟨e.1,e.2,0⟩:T1),(⟨e.2,e.1,0⟩:T1)]:List T1)).bind fun f =>
 (UT a b) f (Z1 (d+1))
 else DR c
def Hd (N:Nat) (a:T0) (b:List T1):Option (List T1) :=
 (YT b a.ZB.Zw).bind fun c =>
 UT a N c 0
def UU (N:Nat) (a:T0):Nat->(List T1)->Int->Option (List T1)
 | 0,_,_=>none
 | b+1,c,d =>
 bif decide (d < (a.Zz.length:Int)) then (Z5 a.Zz d).bind fun e =>
 (YT c ([(⟨(Z1 (a.ZA+d)),(-1),e.Zv.Hi⟩:T1),(⟨(-1),(Z1 (a.ZA+d)),(Z1 (0-e.Zv.Lo))⟩:T1)]:List T1)).bind fun f =>
 (UU N a b) f (Z1 (d+1))
 else Hd N a c
def RC (N:Nat) (a:T0):Option (List T1) :=
 UU N a N ([]:List T1) 0
def LG (N:Nat) (a:List T0) (b:Int):Option ((List T1) × Int) :=
 bif decide (b < 0) then some (([]:List T1),1)
 else bif decide (b>=(a.length:Int)) then some (([]:List T1),1)
 else (Lr N a).bind fun c =>
 bif !c then some (([]:List T1),1)
 else (Z5 a b).bind fun d =>
 (RC N d).bind fun e =>
 some (e,0)
def GY (N:Nat) (a:List T0):Option Bool :=
 bif (a.length:Int)==0 then some true
 else (LG N a 0).bind fun b =>
 some (b.2==0)
def Za6:Option Bool :=
 some true
def G2 (a:Int) (b:Int->Option Bool):Option Bool :=
 b (Z1 (a+1))
def Qq (a:T2) (b:Int) (c:Int->Option Bool) (d:T2) (e:Bool):Option Bool :=
 bif e then some false
 else bif a.ZE then bif d.To==a.ZC then bif a.Act.ZC != d.Act.ZC then some false
 else bif a.Act.ZD != d.Act.ZD then some false
 else c (Z1 (b+1))
 else c (Z1 (b+1))
 else c (Z1 (b+1))
def Tm (a:T5) (b:Int) (c:Int->Option Bool) (d:T2):Nat->Int->Option Bool
 | 0,_=>none
 | e+1,f =>
 bif decide (f < (a.ZO.length:Int)) then (Z5 a.ZO f).bind fun g =>
 bif b != f then bif d.ZC==g.ZC then bif (d.Act.ZC==g.Act.ZC) && ((d.Act.To==g.Act.To) && ((d.Act.ZD==g.Act.ZD) && true)) then Qq d f (Tm a b c d e) g true
 else bif d.Act.ZC != g.Act.ZC then Qq d f (Tm a b c d e) g true
 else Qq d f (Tm a b c d e) g d.ZE
 else Qq d f (Tm a b c d e) g false
 else Qq d f (Tm a b c d e) g false
 else G2 b c
def LJ (N:Nat) (a:T5) (b:Int) (c:Int->Option Bool) (d:T2) (e:Bool):Option Bool :=
 bif e then some false
 else Tm a b c d N 0
def Uk (N:Nat) (a:T5):Nat->Int->Option Bool
 | 0,_=>none
 | b+1,c =>
 bif decide (c < (a.ZO.length:Int)) then (Z5 a.ZO c).bind fun d =>
 bif d.ZC==a.ZN then LJ N a c (Uk N a b) d true
 else bif d.ZE then LJ N a c (Uk N a b) d (d.ZC==a.ZM)
 else LJ N a c (Uk N a b) d false
 else Za6
def GZ (N:Nat) (a:T5):Option Bool :=
 Uk N a N 0
def Za7:Option Bool :=
 some true
def TX (a:T5):Nat->Int->Int->Option Bool
 | 0,_,_=>none
 | b+1,c,d =>
 bif decide (d < (a.ZP.length:Int)) then (Z5 a.ZP d).bind fun e =>
 bif decide (e.ZF<=c) then some false
 else bif decide (e.ZG < 1) then some false
 else bif decide (e.ZG > 1000) then some false
 else bif decide (e.ZH < 0) then some false
 else bif decide (e.ZH>=(a.ZO.length:Int)) then some false
 else (Z5 a.ZO e.ZH).bind fun f =>
 bif f.ZC != e.ZF then some false
 else (Z5 a.ZO e.ZH).bind fun g =>
 bif g.ZE then some false
 else (TX a b) e.ZF (Z1 (d+1))
 else Za7
def G3 (N:Nat) (a:T5):Option Bool :=
 TX a N (-1) 0
def Zfr (N:Nat) (a:Int) (b:Int):Option (Int × Int) :=
 (U1 .and .u64 a 4294967295).bind fun c =>
 (U1 .shr .u64 a 32).bind fun d =>
 (U1 .and .u64 b 4294967295).bind fun e =>
 (U1 .shr .u64 b 32).bind fun f =>
 (U1 .shr .u64 (wk .u64 (c * e)) 32).bind fun g =>
 (U1 .and .u64 (wk .u64 ((wk .u64 (d * e))+g)) 4294967295).bind fun h =>
 (U1 .shr .u64 (wk .u64 ((wk .u64 (d * e))+g)) 32).bind fun i =>
 (U1 .shr .u64 (wk .u64 (h+(wk .u64 (c * f)))) 32).bind fun j =>
 some ((wk .u64 ((wk .u64 ((wk .u64 (d * f))+i))+j)),(wk .u64 (a * b)))
def GM (N:Nat) (a:Int) (b:Int):Option (Int × Int) :=
 (Zfr N a b).bind fun c =>
 some (c.1,c.2)
def Zbv (a:List Int):Option (List Int) :=
 some a
def P1:Nat->(List Int)->Int->Option (List Int)
 | 0,_,_=>none
 | a+1,b,c =>
 bif decide (c < (b.length:Int)) then (lsl b (some c) none).bind fun d =>
 (lsl b none (some c)).bind fun e =>
 (Vf b (some c) none e).bind fun f =>
 (P1 a) f.1 (Z1 (c+f.2))
 else Zbv b
def Dt (N:Nat) (a:List Int) (b:Int × Int) (c:Bool):Option (List Int) :=
 bif c then Q0 0
 else (Xs 0 (Z1 (b.2)) (Z1 (b.2))).bind fun d =>
 (Vf d none none a).bind fun e =>
 P1 N e.1 e.2
def Ds (N:Nat) (a:List Int) (b:Int):Option (List Int) :=
 bif decide (b < 0) then Q0 0
 else (GM N (wk .u64 ((a.length:Int))) (wk .u64 (b))).bind fun c =>
 bif decide (c.1 > 0) then Dt N a c true
 else Dt N a c (decide (c.2 > 9223372036854775807))
def Zfm (a:List Int):Option (List Int) :=
 some a
def G4 (a:List Int->(List Int)->Option (List Int)) (b:List Int) (c:List Int):Option (List Int) :=
 (lsl c (some 1) none).bind fun d =>
 a b d
def LM (a:List Int) (b:List Int) (c:Int) (d:List Int->(List Int)->Int->Option (List Int)) (e:Int) (f:Int):Option (List Int) :=
 (Z5 b 0).bind fun g =>
 bif e==g then (Z5 a f).bind fun h =>
 bif decide (h < 0) then (Z5 a e).bind fun i =>
 (Z5 a f).bind fun j =>
 (YT b ([f]:List Int)).bind fun k =>
 d (YA a f (Z1 (i+1))) k (Z1 (c+1))
 else d a b (Z1 (c+1))
 else d a b (Z1 (c+1))
def TY (a:T5) (b:Bool) (c:List Int->(List Int)->Option (List Int)):Nat->(List Int)->(List Int)->Int->Option (List Int)
 | 0,_,_,_=>none
 | d+1,e,f,g =>
 bif decide (g < (a.ZO.length:Int)) then (Z5 a.ZO g).bind fun h =>
 bif b then LM e f g (TY a b c d) h.To h.ZC
 else LM e f g (TY a b c d) h.ZC h.To
 else G4 c e f
def SH (N:Nat) (a:T5) (b:Bool):Nat->(List Int)->(List Int)->Option (List Int)
 | 0,_,_=>none
 | c+1,d,e =>
 bif decide ((e.length:Int) > 0) then TY a b (SH N a b c) N d e 0
 else Zfm d
def LL (N:Nat) (a:T5) (b:Int) (c:Bool):Option (List Int) :=
 (Ds N ([(-1)]:List Int) a.ZL).bind fun d =>
 (Z5 d b).bind fun e =>
 SH N a c N (YA d b 0) ([b]:List Int)
def Zbu:Option Int :=
 some (-1)
def P0 (a:List Int) (b:Int):Nat->Int->Option Int
 | 0,_=>none
 | c+1,d =>
 bif decide (d < (a.length:Int)) then (Z5 a d).bind fun e =>
 bif b==e then some d
 else (P0 a b c) (Z1 (d+1))
 else Zbu
def Zbt (N:Nat) (a:List Int) (b:Int):Option Int :=
 P0 a b N 0
def LK (N:Nat) (a:List Int) (b:Int):Option Bool :=
 (Zbt N a b).bind fun c =>
 some (decide (c>=0))
def Mq (N:Nat) (a:T5):Option Bool :=
 (GW N a).bind fun b =>
 bif b then (GX N a).bind fun c =>
 bif c then (GY N a.ZJ).bind fun d =>
 bif d then (GZ N a).bind fun e =>
 bif e then (G3 N a).bind fun f =>
 bif f then (LL N a a.ZM false).bind fun g =>
 (LK N g (-1)).bind fun h =>
 bif !h then (LL N a a.ZN true).bind fun i =>
 (LK N i (-1)).bind fun j =>
 some (!j)
 else some false
 else some false
 else some false
 else some false
 else some false
 else some false
def z173 (N:Nat) (a:T8) (b:Int):Option Bool :=
 bif decide (b>=0) then some (decide (b < a.ZL))
 else some false
def ZeR:Option Bool :=
 some true
def Qf (N:Nat) (a:T8):Nat->Int->Option Bool
 | 0,_=>none
 | b+1,c =>
 bif decide (c < (a.ZU.length:Int)) then (Z5 a.ZU c).bind fun d =>
 (z173 N a d.ZC).bind fun e =>
 bif !e then some false
 else (z173 N a d.To).bind fun f =>
 bif !f then some false
 else bif decide (d.ZR < 0) then some false
 else bif decide (d.ZR>=6) then some false
 else bif d.ZR==a.ZS then some false
 else bif decide (d.ZD < 0) then some false
 else bif decide (d.ZD>=40) then some false
 else (Qf N a b) (Z1 (c+1))
 else ZeR
def GD (N:Nat) (a:T8):Option Bool :=
 bif decide (a.ZS < 0) then some false
 else bif decide (a.ZS>=6) then some false
 else bif decide (a.ZL < 1) then some false
 else bif decide (a.ZL > 200) then some false
 else (z173 N a a.ZM).bind fun b =>
 bif !b then some false
 else bif (a.ZT.length:Int) != a.ZL then some false
 else bif decide ((a.ZU.length:Int) > 400) then some false
 else Qf N a N 0
def Ry (N:Nat) (a:T9):Option S9 :=
 some (⟨a.ZQ,a.ZR,a.ZD⟩:S9)
def DB (N:Nat) (a:Int):Option Bool :=
 some (a != a)
def Rz (N:Nat) (a:Int) (b:Int):Option Int :=
 (DB N a).bind fun c =>
 (DB N b).bind fun d =>
 bif c then bif d then some 0
 else some (-1)
 else bif d then some 1
 else bif decide (a < b) then some (-1)
 else bif decide (a > b) then some 1
 else some 0
def Zfs:Option Int :=
 some 0
def VN (a:List Int):Nat->Int->Option Int
 | 0,_=>none
 | b+1,c =>
 bif decide (c < (a.length:Int)) then (Z5 a c).bind fun d =>
 bif d != 0 then some d
 else (VN a b) (Z1 (c+1))
 else Zfs
def SN (N:Nat) (a:List Int):Option Int :=
 VN a N 0
def Db (N:Nat) (a:S9) (b:S9):Option Int :=
 bif !(a.send'==b.send') then bif a.send' then some (-1)
 else some 1
 else (Rz N a.peer' b.peer').bind fun c =>
 (Rz N a.label' b.label').bind fun d =>
 (SN N ([c,d]:List Int)).bind fun e =>
 some e
def PR (N:Nat) (a:Int) (b:Int) (c:T8):Option Int :=
 (Z5 c.ZU a).bind fun d =>
 (Ry N d).bind fun e =>
 (Z5 c.ZU b).bind fun f =>
 (Ry N f).bind fun g =>
 (Db N e g).bind fun h =>
 some h
def WK (N:Nat) (a:T8) (i k:Int):Int:=(PR N i k a).getD 0
def HP (N:Nat) (c:T8) (xs:List Int):Bool:=(xs.all fun i=>xs.all fun k=>(PR N i k c).isSome) && (Gd (fun a b=>decide (WK N c a b < 0)) xs && decide (xs.length < 4611686018427387904))
def SB (N:Nat) (a:T8):Nat->List (List Int)->Int->Option Xw
 | 0,_,_=>none
 | n+1,xss,j=>bif decide (j < (xss.length:Int)) then (Z5 xss j).bind fun xs =>
   bif HP N a xs then SB N a n (xss.set j.toNat (WR (WK N a) xs)) (Z1 (j+1)) else none
   else some ⟨a,xss⟩
def Qg (N:Nat) (a:T8):Nat->List (List Int)->Int->Option Xw
 | 0,_,_=>none
 | n+1,xss,i=>bif decide (i < (a.ZU.length:Int)) then (Z5 a.ZU i).bind fun x=>(Z5 xss x.ZC).bind fun xs=>(YT xs [i]).bind fun ys =>
   Qg N a n (xss.set x.ZC.toNat ys) (Z1 (i+1))
   else SB N a N xss 0
def GF (N:Nat) (a:T8):Option Xw:=(Xs () a.ZL a.ZL).bind fun us=>bif us.isEmpty then none else Qg N a N (List.replicate us.length []) 0
def ZeS:Option Bool :=
 some true
def PD (a:Int) (b:Int->Option Bool):Option Bool :=
 b (Z1 (a+1))
def SD (N:Nat) (a:Xw) (b:Int) (c:Int->Option Bool) (d:List Int):Nat->Int->Option Bool
 | 0,_=>none
 | e+1,f =>
 bif decide (f < (d.length:Int)) then (Z5 d (Z1 (f-1))).bind fun g =>
 (Z5 a.ZY.ZU g).bind fun h =>
 (Z5 d f).bind fun i =>
 (Z5 a.ZY.ZU i).bind fun j =>
 (Ry N h).bind fun k =>
 (Ry N j).bind fun l =>
 bif (k.send'==l.send') && ((k.peer'==l.peer') && ((k.label'==l.label') && true)) then some false
 else bif !(h.ZQ==j.ZQ) then some false
 else (SD N a b c d e) (Z1 (f+1))
 else PD b c
def Vv (N:Nat) (a:Xw):Nat->Int->Option Bool
 | 0,_=>none
 | b+1,c =>
 bif decide (c < (a.out'.length:Int)) then (Z5 a.out' c).bind fun d =>
 SD N a c (Vv N a b) d N 1
 else ZeS
def Lm (N:Nat) (a:Xw):Option Bool :=
 Vv N a N 0
def ZeT (a:Xw) (b:List Int):Option Bool :=
 some ((b.length:Int)==a.ZY.ZL)
def ZeU (a:Int) (b:List Bool->(List Int)->Int->Option Bool) (c:List Bool) (d:List Int):Option Bool :=
 b c d (Z1 (a+1))
def TT (a:Xw) (b:Int) (c:List Bool->(List Int)->Int->Option Bool) (d:List Int):Nat->(List Bool)->(List Int)->Int->Option Bool
 | 0,_,_,_=>none
 | e+1,f,g,h =>
 bif decide (h < (d.length:Int)) then (Z5 d h).bind fun i =>
 (Z5 a.ZY.ZU i).bind fun j =>
 (Z5 f j.To).bind fun k =>
 bif !k then (Z5 f j.To).bind fun l =>
 (YT g ([j.To]:List Int)).bind fun m =>
 (TT a b c d e) (YA f j.To true) m (Z1 (h+1))
 else (TT a b c d e) f g (Z1 (h+1))
 else ZeU b c f g
def Ui (N:Nat) (a:Xw):Nat->(List Bool)->(List Int)->Int->Option Bool
 | 0,_,_,_=>none
 | b+1,c,d,e =>
 bif decide (e < (d.length:Int)) then (Z5 d e).bind fun f =>
 (Z5 a.out' f).bind fun g =>
 TT a e (Ui N a b) g N c d 0
 else ZeT a d
def PE (N:Nat) (a:Xw):Option Bool :=
 (Xs false a.ZY.ZL a.ZY.ZL).bind fun b =>
 (Z5 b a.ZY.ZM).bind fun c =>
 Ui N a N (YA b a.ZY.ZM true) ([a.ZY.ZM]:List Int) 0
def ZeV:Option Bool :=
 some true
def Lp (a:Int) (b:Int->Option Bool):Option Bool :=
 b (Z1 (a+1))
def TU (a:Xw) (b:Int) (c:Int->Option Bool) (d:T9):Nat->Int->Option Bool
 | 0,_=>none
 | e+1,f =>
 bif decide (f < (a.ZY.ZU.length:Int)) then (Z5 a.ZY.ZU f).bind fun g =>
 bif g.To==d.ZC then bif !g.ZQ then some false
 else bif g.ZD != d.ZD then some false
 else (TU a b c d e) (Z1 (f+1))
 else (TU a b c d e) (Z1 (f+1))
 else Lp b c
def VL (N:Nat) (a:Xw):Nat->Int->Option Bool
 | 0,_=>none
 | b+1,c =>
 bif decide (c < (a.ZY.ZU.length:Int)) then (Z5 a.ZY.ZU c).bind fun d =>
 bif !d.ZE then (VL N a b) (Z1 (c+1))
 else bif !d.ZQ then some false
 else (Z5 a.out' d.ZC).bind fun e =>
 bif (e.length:Int) != 1 then some false
 else bif d.ZC==a.ZY.ZM then some false
 else (Z5 a.ZY.ZT d.ZC).bind fun f =>
 bif f then some false
 else TU a c (VL N a b) d N 0
 else ZeV
def Ln (N:Nat) (a:Xw):Option Bool :=
 VL N a N 0
def ZeW:Option Bool :=
 some true
def Wy (a:Xw) (b:Int) (c:Int->Option Bool) (d:XB) (e:Bool):Option Bool :=
 bif e then some false
 else (Z5 a.ZY.ZU d.ZH).bind fun f =>
 bif f.ZC != d.ZF then some false
 else bif !f.ZQ then some false
 else bif f.ZE then some false
 else c (Z1 (b+1))
def XP (a:Xw):Nat->Int->Option Bool
 | 0,_=>none
 | b+1,c =>
 bif decide (c < (a.ZY.ZP.length:Int)) then (Z5 a.ZY.ZP c).bind fun d =>
 bif decide (c > 0) then (Z5 a.ZY.ZP (Z1 (c-1))).bind fun e =>
 bif decide (e.ZF>=d.ZF) then Wy a c (XP a b) d true
 else bif decide (d.ZG < 1) then Wy a c (XP a b) d true
 else bif decide (d.ZG > 1000) then Wy a c (XP a b) d true
 else bif decide (d.ZH < 0) then Wy a c (XP a b) d true
 else Wy a c (XP a b) d (decide (d.ZH>=(a.ZY.ZU.length:Int)))
 else bif decide (d.ZG < 1) then Wy a c (XP a b) d true
 else bif decide (d.ZG > 1000) then Wy a c (XP a b) d true
 else bif decide (d.ZH < 0) then Wy a c (XP a b) d true
 else Wy a c (XP a b) d (decide (d.ZH>=(a.ZY.ZU.length:Int)))
 else ZeW
def Lq (N:Nat) (a:Xw):Option Bool :=
 XP a N 0
def z53 (N:Nat) (a:T8):Option ((Option Xw) × Bool) :=
 (GD N a).bind fun b =>
 bif !b then some (none,false)
 else (GF N a).bind fun c =>
 (Lm N c).bind fun d =>
 bif d then (PE N c).bind fun e =>
 bif e then (Ln N c).bind fun f =>
 bif f then (Lq N c).bind fun g =>
 some ((some c),g)
 else some ((some c),false)
 else some ((some c),false)
 else some ((some c),false)
def RJ (N:Nat) (a:T8):Option Bool :=
 (z53 N a).bind fun b =>
 Pk b.1 (some b.2) fun q2 =>
 some b.2
def Mp (N:Nat) (a:T9) (b:T5):Option Bool :=
 bif decide (a.ZR>=(b.ZI.length:Int)) then some true
 else some (decide (a.ZD>=(b.ZJ.length:Int)))
def Zgk:Option Int :=
 some (-1)
def S5 (N:Nat) (a:List T9) (b:T5):Nat->Int->Option Int
 | 0,_=>none
 | c+1,d =>
 bif decide (d < (a.length:Int)) then (Z5 a d).bind fun e =>
 (Mp N e b).bind fun f =>
 bif f then some d
 else (S5 N a b c) (Z1 (d+1))
 else Zgk
def DZ (N:Nat) (a:List T9) (b:T5):Option Int :=
 S5 N a b N 0
def D2 (N:Nat) (a:List T9) (b:T5):Option Bool :=
 (DZ N a b).bind fun c =>
 some (decide (c>=0))
def UR (N:Nat) (a:T5) (b:T8):Option Bool :=
 (Mq N a).bind fun c =>
 bif c then (RJ N b).bind fun d =>
 bif d then bif decide (b.ZS < (a.ZI.length:Int)) then (D2 N b.ZU a).bind fun e =>
 some (!e)
 else some false
 else some false
 else some false
def Zb4 (a:List T4):Option (List T4) :=
 some a
def P9 (a:T5):Nat->(List T4)->Int->Option (List T4)
 | 0,_,_=>none
 | b+1,c,d =>
 bif decide (d < (a.ZJ.length:Int)) then (Z5 a.ZJ d).bind fun e =>
 (YT c e.Zz).bind fun f =>
 (P9 a b) f (Z1 (d+1))
 else Zb4 c
def DM (N:Nat) (a:T5):Option (List T4) :=
 P9 a N ([]:List T4) 0
def Ql (N:Nat) (a:T5) (b:T8):Option Yt :=
 (UR N a b).bind fun c =>
 bif !c then some (⟨0,([]:List T12),([]:List T12)⟩:Yt)
 else (DM N a).bind fun d =>
 (Xs (⟨0,0,(str [])⟩:T12) (d.length:Int) (d.length:Int)).bind fun e =>
 some (⟨b.ZM,e,([]:List T12)⟩:Yt)
def Lk (N:Nat) (a:T12):Option Int :=
 bif a.Zt==1 then some a.N
 else bif a.Zt==2 then some (a.S.size:Int)
 else some 0
def GC (a:YV) (b:Int) (c:Int):Option Bool :=
 bif decide (b<=a.Lo) then bif decide (a.Lo<=a.Hi) then some (decide (a.Hi<=c))
 else some false
 else some false
def GB (N:Nat) (a:YV):Option Bool :=
 bif a.Zt==1 then GC a (-1000) 1000
 else bif a.Zt==2 then GC a 0 40
 else some false
def Zby (N:Nat) (a:Int):Option Bool :=
 bif decide (a < 32) then some true
 else some (decide (a > 126))
def ZfI (a:Nat):Option Int :=
 some (-1)
def P7 (N:Nat) (a:ByteArray) (b:Bool):Nat->Nat->Option Int
 | 0,_=>none
 | c+1,d =>
 bif decide (d < a.size) then (Zby N ((Utf8.decode a d).1:Int)).bind fun e =>
 bif e==b then some ((d:Nat):Int)
 else (P7 N a b c) (d+(Utf8.decode a d).2)
 else ZfI d
def ZbP (N:Nat) (a:ByteArray) (b:Bool):Option Int :=
 P7 N a b N (0:Nat)
def ZbG (N:Nat) (a:ByteArray):Option Int :=
 (ZbP N a true).bind fun b =>
 some b
def Dj (N:Nat) (a:ByteArray):Option Bool :=
 (ZbG N a).bind fun b =>
 some (decide (b>=0))
def Zbf (N:Nat) (a:ByteArray):Option Bool :=
 (Dj N a).bind fun b =>
 some (!b)
def Ll (N:Nat) (a:T12):Option Bool :=
 bif a.Zt==1 then bif decide (a.N>=(-1000)) then bif decide (a.N<=1000) then some (a.S.toList==(str []).toList)
 else some false
 else some false
 else bif a.Zt==2 then bif a.N==0 then bif decide ((a.S.size:Int)<=40) then (Zbf N a.S).bind fun b =>
 some b
 else some false
 else some false
 else some false
def z51 (N:Nat) (a:YV) (b:T12):Option Bool :=
 (Lk N b).bind fun c =>
 (GB N a).bind fun d =>
 bif d then (Ll N b).bind fun e =>
 bif e then bif a.Zt==b.Zt then bif decide (c>=a.Lo) then some (decide (c<=a.Hi))
 else some false
 else some false
 else some false
 else some false
def z50 (N:Nat) (a:T4) (b:T12):Option Bool :=
 bif (b.Zt==0) && ((b.N==0) && ((b.S.toList==(str []).toList) && true)) then some true
 else (z51 N a.Zv b).bind fun c =>
 some c
def ZfY:Option Bool :=
 some true
def Mc (N:Nat) (a:List T4) (b:List T12):Nat->Int->Option Bool
 | 0,_=>none
 | c+1,d =>
 bif decide (d < (a.length:Int)) then (Z5 a d).bind fun e =>
 (Z5 b d).bind fun f =>
 (z50 N e f).bind fun g =>
 bif !g then some false
 else (Mc N a b c) (Z1 (d+1))
 else ZfY
def DQ (N:Nat) (a:List T4) (b:List T12):Option Bool :=
 bif (a.length:Int) != (b.length:Int) then some false
 else Mc N a b N 0
def UB (N:Nat) (a:T5) (b:T8) (c:Yt):Option Bool :=
 (UR N a b).bind fun d =>
 bif d then bif decide (c.At>=0) then bif decide (c.At < b.ZL) then (DM N a).bind fun e =>
 (DQ N e c.ZW).bind fun f =>
 some f
 else some false
 else some false
 else some false
def z34 (N:Nat) (a:T5) (b:T8):Option Bool :=
 (Ql N a b).bind fun c =>
 (UB N a b c).bind fun d =>
 some d
def z24 (N:Nat) (a:T8) (b:Int):Option (List Int) :=
 (z53 N a).bind fun c =>
 Pk c.1 (bif !c.2 then some ([]:List Int)
 else bif decide (b < 0) then some ([]:List Int)
 else bif decide (b>=a.ZL) then some ([]:List Int)
 else Q0 0) fun q2 =>
 bif !c.2 then some ([]:List Int)
 else bif decide (b < 0) then some ([]:List Int)
 else bif decide (b>=a.ZL) then some ([]:List Int)
 else (Z5 q2.out' b).bind fun d =>
 some d
def Um (N:Nat) (a:Int):Option ByteArray:=bif decide ((-9223372036854775808)<=a) && decide (a<=9223372036854775807) then some (BM a) else none
def ZaW (N:Nat) (a:T4) (b:ByteArray):Option ByteArray :=
 (YK a.Zu (str [58,32])).bind fun c =>
 (YK c b).bind fun d =>
 (YK d (str [32])).bind fun e =>
 (Um N a.Zv.Lo).bind fun f =>
 (YK e f).bind fun g =>
 (YK g (str [32,46,46,32])).bind fun h =>
 (Um N a.Zv.Hi).bind fun i =>
 (YK h i).bind fun j =>
 some j
def Ze6 (N:Nat) (a:T4):Option ByteArray :=
 bif a.Zv.Zt==2 then ZaW N a (str [116,101,120,116])
 else ZaW N a (str [105,110,116])
def ZfF:Option (T0 × T4 × Bool) :=
 some ((⟨(str []),([]:List T4),0,(⟨([]:List T1),([]:List (Int × Int))⟩:T6)⟩:T0),(⟨(str []),(⟨0,0,0⟩:YV)⟩:T4),false)
def DC (a:List T0):Nat->Int->Int->Option (T0 × T4 × Bool)
 | 0,_,_=>none
 | b+1,c,d =>
 bif decide (d < (a.length:Int)) then (Z5 a d).bind fun e =>
 bif decide (c>=0) then bif decide (c < (e.Zz.length:Int)) then (Z5 e.Zz c).bind fun f =>
 some (e,f,true)
 else (DC a b) (Z1 (c-(e.Zz.length:Int))) (Z1 (d+1))
 else (DC a b) (Z1 (c-(e.Zz.length:Int))) (Z1 (d+1))
 else ZfF
def ZbI (N:Nat) (a:List T0) (b:Int):Option (T0 × T4 × Bool) :=
 DC a N b 0
def LU (N:Nat) (a:List T0) (b:Int):Option ByteArray :=
 (ZbI N a b).bind fun c =>
 (YK c.1.Zu (str [46])).bind fun d =>
 (YK d c.2.1.Zu).bind fun e =>
 some e
def z233 (N:Nat) (a:List T0) (b:Int):Option ByteArray :=
 (ZbI N a b).bind fun c =>
 bif c.2.1.Zv.Zt==2 then (LU N a b).bind fun d =>
 (YK (str [108,101,110,40]) d).bind fun e =>
 (YK e (str [41])).bind fun f =>
 some f
 else (LU N a b).bind fun g =>
 some g
def Zbo (N:Nat) (a:List T0) (b:T1) (c:Bool):Option ByteArray :=
 bif c then (Um N b.C).bind fun d =>
 (YK (str [48,32,60,61,32]) d).bind fun e =>
 some e
 else bif decide (b.Y < 0) then (z233 N a b.X).bind fun f =>
 (YK f (str [32,60,61,32])).bind fun g =>
 (Um N b.C).bind fun h =>
 (YK g h).bind fun i =>
 some i
 else bif decide (b.X < 0) then (z233 N a b.Y).bind fun j =>
 (YK j (str [32,62,61,32])).bind fun k =>
 (Um N (Z1 (0-b.C))).bind fun l =>
 (YK k l).bind fun m =>
 some m
 else (z233 N a b.X).bind fun o =>
 (YK o (str [32,60,61,32])).bind fun p =>
 (z233 N a b.Y).bind fun q =>
 (YK p q).bind fun r =>
 bif decide (b.C > 0) then (YK r (str [32,43,32])).bind fun s =>
 (Um N b.C).bind fun t =>
 (YK s t).bind fun u =>
 some u
 else bif decide (b.C < 0) then (YK r (str [32,45,32])).bind fun v =>
 (Um N (Z1 (0-b.C))).bind fun w =>
 (YK v w).bind fun x =>
 some x
 else some r
def Zfu (N:Nat) (a:List T0) (b:T1):Option ByteArray :=
 bif decide (b.X < 0) then Zbo N a b (decide (b.Y < 0))
 else Zbo N a b false
def z146 (N:Nat) (a:List T0) (b:Int) (c:Int):Option ByteArray :=
 (LG N a b).bind fun d =>
 bif d.2 != 0 then some (str [])
 else bif decide (c < 0) then some (str [])
 else (Z5 a b).bind fun e =>
 bif decide (c < (e.ZB.Zw.length:Int)) then (Z5 e.ZB.Zw c).bind fun f =>
 (Zfu N a f).bind fun g =>
 some g
 else bif decide ((Z1 (c-(e.ZB.Zw.length:Int))) < (e.ZB.Zy.length:Int)) then (Z5 e.ZB.Zy (Z1 (c-(e.ZB.Zw.length:Int)))).bind fun h =>
 (LU N a h.1).bind fun i =>
 (YK i (str [32,61,61,32])).bind fun j =>
 (Z5 e.ZB.Zy (Z1 (c-(e.ZB.Zw.length:Int)))).bind fun k =>
 (LU N a k.2).bind fun l =>
 (YK j l).bind fun m =>
 some m
 else some (str [])
def z39 (N:Nat) (a:List ByteArray) (b:ByteArray):Option ByteArray:=bif decide (a.length<=140737488355328) && decide ((Pa b.data.toList (a.map (·.data.toList))).length<=140737488355328) then some ⟨(Pa b.data.toList (a.map (·.data.toList))).toArray⟩ else none
def Zgm (N:Nat) (a:T0) (b:List ByteArray) (c:List ByteArray):Option ByteArray :=
 (YK a.Zu (str [40])).bind fun d =>
 (z39 N b (str [44,32])).bind fun e =>
 (YK d e).bind fun f =>
 (YK f (str [41])).bind fun g =>
 bif decide ((c.length:Int) > 0) then (z39 N c (str [32,97,110,100,32])).bind fun h =>
 (YK (str [32,119,104,101,114,101,32]) h).bind fun i =>
 (YK g i).bind fun j =>
 some j
 else some g
def Zcn (N:Nat) (a:List T0) (b:Int) (c:T0) (d:List ByteArray):Nat->(List ByteArray)->Int->Option ByteArray
 | 0,_,_=>none
 | e+1,f,g =>
 bif decide (g < (Z1 ((c.ZB.Zw.length:Int)+(c.ZB.Zy.length:Int)))) then (z146 N a b g).bind fun h =>
 (YT f ([h]:List ByteArray)).bind fun i =>
 (Zcn N a b c d e) i (Z1 (g+1))
 else Zgm N c d f
def Zgn (N:Nat) (a:List T0) (b:Int) (c:T0) (d:List ByteArray):Option ByteArray :=
 Zcn N a b c d N ([]:List ByteArray) 0
def Zco (N:Nat) (a:List T0) (b:Int) (c:T0):Nat->(List ByteArray)->Int->Option ByteArray
 | 0,_,_=>none
 | d+1,e,f =>
 bif decide (f < (c.Zz.length:Int)) then (Z5 c.Zz f).bind fun g =>
 (Ze6 N g).bind fun h =>
 (YT e ([h]:List ByteArray)).bind fun i =>
 (Zco N a b c d) i (Z1 (f+1))
 else Zgn N a b c e
def z87 (N:Nat) (a:List T0) (b:Int):Option ByteArray :=
 (LG N a b).bind fun c =>
 bif c.2 != 0 then some (str [])
 else (Z5 a b).bind fun d =>
 Zco N a b d N ([]:List ByteArray) 0
def Ze9 (N:Nat) (a:XB) (b:Int):Option Bool :=
 some (a.ZF==b)
def Ze8:Option Int :=
 some (-1)
def ZaX (N:Nat) (a:List XB) (b:Int):Nat->Int->Option Int
 | 0,_=>none
 | c+1,d =>
 bif decide (d < (a.length:Int)) then (Z5 a d).bind fun e =>
 (Ze9 N e b).bind fun f =>
 bif f then some d
 else (ZaX N a b c) (Z1 (d+1))
 else Ze8
def Ze7 (N:Nat) (a:List XB) (b:Int):Option Int :=
 ZaX N a b N 0
def z88 (N:Nat) (a:T8) (b:Int):Option (XB × Bool) :=
 (RJ N a).bind fun c =>
 bif !c then some ((⟨0,0,0⟩:XB),false)
 else (Ze7 N a.ZP b).bind fun d =>
 bif decide (d < 0) then some ((⟨0,0,0⟩:XB),false)
 else (Z5 a.ZP d).bind fun e =>
 some (e,true)
def ZfS (N:Nat) (a:T5) (b:T8) (c:Int) (d:List ByteArray):Option (List ByteArray) :=
 (z88 N b c).bind fun e =>
 bif e.2 then (Z5 b.ZU e.1.ZH).bind fun f =>
 (Um N e.1.ZG).bind fun g =>
 (YK (str [119,105,116,104,105,110,32]) g).bind fun h =>
 (YK h (str [32,116,105,99,107,115,44,32,111,116,104,101,114,119,105,115,101,32])).bind fun i =>
 (Z5 a.ZJ f.ZD).bind fun j =>
 (YK i j.Zu).bind fun k =>
 (YK k (str [32,116,111,32])).bind fun l =>
 (Z5 a.ZI f.ZR).bind fun m =>
 (YK l m).bind fun o =>
 (YT d ([o]:List ByteArray)).bind fun p =>
 (Z5 b.ZT c).bind fun q =>
 bif q then (YT p ([(str [116,104,101,32,101,110,100])]:List ByteArray)).bind fun r =>
 some r
 else some p
 else (Z5 b.ZT c).bind fun s =>
 bif s then (YT d ([(str [116,104,101,32,101,110,100])]:List ByteArray)).bind fun t =>
 some t
 else some d
def Ha (N:Nat) (a:T5) (b:T8) (c:Int) (d:List Int):Nat->(List ByteArray)->Int->Option (List ByteArray)
 | 0,_,_=>none
 | e+1,f,g =>
 bif decide (g < (d.length:Int)) then (Z5 d g).bind fun h =>
 (Z5 b.ZU h).bind fun i =>
 (Z5 a.ZI i.ZR).bind fun j =>
 bif i.ZE then (Z5 a.ZJ i.ZD).bind fun k =>
 (YK (str [115,101,110,100,32]) k.Zu).bind fun l =>
 (YK l (str [32,97,103,97,105,110,32,116,111,32])).bind fun m =>
 (YK m j).bind fun o =>
 (YT f ([o]:List ByteArray)).bind fun p =>
 (Ha N a b c d e) p (Z1 (g+1))
 else bif i.ZQ then (z87 N a.ZJ i.ZD).bind fun q =>
 (YK (str [115,101,110,100,32]) q).bind fun r =>
 (YK r (str [32,116,111,32])).bind fun s =>
 (YK s j).bind fun t =>
 (YT f ([t]:List ByteArray)).bind fun u =>
 (Ha N a b c d e) u (Z1 (g+1))
 else (z87 N a.ZJ i.ZD).bind fun v =>
 (YK (str [114,101,99,101,105,118,101,32]) v).bind fun w =>
 (YK w (str [32,102,114,111,109,32])).bind fun x =>
 (YK x j).bind fun y =>
 (YT f ([y]:List ByteArray)).bind fun z =>
 (Ha N a b c d e) z (Z1 (g+1))
 else ZfS N a b c f
def z35 (N:Nat) (a:T5) (b:T8) (c:Int):Option (List ByteArray) :=
 (z24 N b c).bind fun d =>
 Ha N a b c d N ([]:List ByteArray) 0
def z11 (N:Nat) (a:T5) (b:T8) (c:Int):Option ((List ByteArray) × Int) :=
 (z34 N a b).bind fun d =>
 bif !d then some (([]:List ByteArray),1)
 else bif decide (c < 0) then some (([]:List ByteArray),1)
 else bif decide (c>=b.ZL) then some (([]:List ByteArray),1)
 else (z35 N a b c).bind fun e =>
 some (e,0)
def Mn (N:Nat) (a:T9) (b:Yt) (c:T3):Option Bool :=
 bif a.ZC==b.At then bif a.ZQ==c.ZQ then bif a.ZR==c.ZR then some (a.ZD==c.ZD)
 else some false
 else some false
 else some false
def Zgl:Option Int :=
 some (-1)
def S6 (N:Nat) (a:List T9) (b:Yt) (c:T3):Nat->Int->Option Int
 | 0,_=>none
 | d+1,e =>
 bif decide (e < (a.length:Int)) then (Z5 a e).bind fun f =>
 (Mn N f b c).bind fun g =>
 bif g then some e
 else (S6 N a b c d) (Z1 (e+1))
 else Zgl
def Ho (N:Nat) (a:List T9) (b:Yt) (c:T3):Option Int :=
 S6 N a b c N 0
def ZaV (N:Nat) (a:T4) (b:T12):Option Bool :=
 (z51 N a.Zv b).bind fun c =>
 some c
def ZfZ:Option Bool :=
 some true
def Md (N:Nat) (a:List T4) (b:List T12):Nat->Int->Option Bool
 | 0,_=>none
 | c+1,d =>
 bif decide (d < (a.length:Int)) then (Z5 a d).bind fun e =>
 (Z5 b d).bind fun f =>
 (ZaV N e f).bind fun g =>
 bif !g then some false
 else (Md N a b c) (Z1 (d+1))
 else ZfZ
def Zb8 (N:Nat) (a:List T4) (b:List T12):Option Bool :=
 bif (a.length:Int) != (b.length:Int) then some false
 else Md N a b N 0
def Hp (N:Nat) (a:List T4) (b:List T12):Option Bool :=
 (Zb8 N a b).bind fun c =>
 some c
def RD (N:Nat) (a:T12):Option Int :=
 bif a.Zt==2 then some (a.S.size:Int)
 else some a.N
def Zbm (N:Nat) (a:Int):Option Bool :=
 bif decide (a < 32) then some true
 else some (decide (a > 126))
def ZfJ (a:Nat):Option Int :=
 some (-1)
def P8 (N:Nat) (a:ByteArray) (b:Bool):Nat->Nat->Option Int
 | 0,_=>none
 | c+1,d =>
 bif decide (d < a.size) then (Zbm N ((Utf8.decode a d).1:Int)).bind fun e =>
 bif e==b then some ((d:Nat):Int)
 else (P8 N a b c) (d+(Utf8.decode a d).2)
 else ZfJ d
def DI (N:Nat) (a:ByteArray) (b:Bool):Option Int :=
 P8 N a b N (0:Nat)
def Dz (N:Nat) (a:ByteArray):Option Int :=
 (DI N a true).bind fun b =>
 some b
def LQ (N:Nat) (a:ByteArray):Option Bool :=
 (Dz N a).bind fun b =>
 some (decide (b>=0))
def Qh (N:Nat) (a:YV) (b:T12):Option Bool :=
 bif b.Zt != a.Zt then some false
 else (RD N b).bind fun c =>
 bif decide (c < a.Lo) then some false
 else (RD N b).bind fun d =>
 bif decide (d > a.Hi) then some false
 else bif b.Zt==1 then some (b.S.toList==(str []).toList)
 else bif b.N==0 then (LQ N b.S).bind fun e =>
 some (!e)
 else some false
def Zf1:Option Bool :=
 some true
def RB (N:Nat) (a:List T12) (b:List T4):Nat->Int->Option Bool
 | 0,_=>none
 | c+1,d =>
 bif decide (d < (a.length:Int)) then (Z5 a d).bind fun e =>
 bif !((e.Zt==0) && ((e.N==0) && ((e.S.toList==(str []).toList) && true))) then (Z5 b d).bind fun f =>
 (Qh N f.Zv e).bind fun g =>
 bif !g then some false
 else (RB N a b c) (Z1 (d+1))
 else (RB N a b c) (Z1 (d+1))
 else Zf1
def US (N:Nat) (a:List T0) (b:Int) (c:List T12):Option Bool :=
 bif decide (b < 0) then some false
 else bif decide (b>=(a.length:Int)) then some false
 else (Lr N a).bind fun d =>
 bif !d then some false
 else (Ls N a).bind fun e =>
 bif (e.length:Int) != (c.length:Int) then some false
 else RB N c e N 0
def Zf8:Option Bool :=
 some true
def S2 (N:Nat) (a:List T4) (b:List T12):Nat->Int->Option Bool
 | 0,_=>none
 | c+1,d =>
 bif decide (d < (a.length:Int)) then (Z5 a d).bind fun e =>
 (Z5 b d).bind fun f =>
 (Qh N e.Zv f).bind fun g =>
 bif !g then some false
 else (S2 N a b c) (Z1 (d+1))
 else Zf8
def RG (N:Nat) (a:List T4) (b:List T12):Option Bool :=
 bif (a.length:Int) != (b.length:Int) then some false
 else S2 N a b N 0
def SR (N:Nat) (a:List T12):Option (List T12) :=
 (YT ([]:List T12) a).bind fun b =>
 some b
def RE (N:Nat) (a:T0) (b:List T12) (c:List T12):Option (List T12) :=
 (SR N c).bind fun d =>
 (lsl d (some a.ZA) none).bind fun e =>
 (Vf d (some a.ZA) none b).bind fun f =>
 some f.1
def Zf6:Option Bool :=
 some true
def QF (a:T6) (b:List T12):Nat->Int->Option Bool
 | 0,_=>none
 | c+1,d =>
 bif decide (d < (a.Zy.length:Int)) then (Z5 a.Zy d).bind fun e =>
 (Z5 b e.1).bind fun f =>
 bif f.Zt==0 then some false
 else (Z5 b e.2).bind fun g =>
 bif g.Zt==0 then some false
 else (Z5 b e.1).bind fun h =>
 (Z5 b e.2).bind fun i =>
 bif !(h.S.toList==i.S.toList) then some false
 else (QF a b c) (Z1 (d+1))
 else Zf6
def Zb9 (N:Nat) (a:T6) (b:List T12):Option Bool :=
 QF a b N 0
def Zca (a:Int) (b:Int->Option Bool) (c:T1) (d:Int) (e:Int):Option Bool :=
 bif decide ((Z1 (d-e)) > c.C) then some false
 else b (Z1 (a+1))
def Tt (N:Nat) (a:List T12) (b:Int) (c:Int->Option Bool) (d:T1):Nat->Int->Int->Int->Option Bool
 | 0,_,_,_=>none
 | e+1,f,g,h =>
 bif decide (h < 2) then (Z5 ([d.X,d.Y]:List Int) h).bind fun i =>
 bif decide (i < 0) then (Tt N a b c d e) f g (Z1 (h+1))
 else (Z5 a i).bind fun j =>
 bif j.Zt==0 then some false
 else (Z5 a i).bind fun k =>
 (RD N k).bind fun l =>
 bif h==0 then (Tt N a b c d e) l g (Z1 (h+1))
 else bif h==1 then (Tt N a b c d e) f l (Z1 (h+1))
 else none
 else Zca b c d f g
def SZ (N:Nat) (a:T6) (b:List T12):Nat->Int->Option Bool
 | 0,_=>none
 | c+1,d =>
 bif decide (d < (a.Zw.length:Int)) then (Z5 a.Zw d).bind fun e =>
 Tt N b d (SZ N a b c) e N 0 0 0
 else Zb9 N a b
def He (N:Nat) (a:T6) (b:List T12):Option Bool :=
 SZ N a b N 0
def L4 (N:Nat) (a:List T0) (b:Int) (c:List T12) (d:List T12):Option Bool :=
 (US N a b d).bind fun e =>
 bif !e then some false
 else (Z5 a b).bind fun f =>
 (RG N f.Zz c).bind fun g =>
 bif !g then some false
 else (Z5 a b).bind fun h =>
 (RE N h c d).bind fun i =>
 (He N h.ZB i).bind fun j =>
 some j
def z232 (N:Nat) (a:ByteArray):Option Bool :=
 some (!(a.toList==a.toList))
def PY (N:Nat) (a:ByteArray) (b:ByteArray):Option Int :=
 (z232 N a).bind fun c =>
 (z232 N b).bind fun d =>
 bif c then bif d then some 0
 else some (-1)
 else bif d then some 1
 else bif Op.bytesLess a.toList b.toList then some (-1)
 else bif !((Op.bytesLess a.toList b.toList) || (a.toList==b.toList)) then some 1
 else some 0
def LF (N:Nat) (a:T12) (b:T12):Option Int :=
 (Rz N a.Zt b.Zt).bind fun c =>
 (Rz N a.N b.N).bind fun d =>
 (Rz N (a.S.size:Int) (b.S.size:Int)).bind fun e =>
 (PY N a.S b.S).bind fun f =>
 (SN N ([c,d,e,f]:List Int)).bind fun g =>
 some g
def UA (N:Nat) (a:T12) (b:T12):Option Bool :=
 (LF N a b).bind fun c =>
 some (c==0)
def Ze4:Option Bool :=
 some true
def SG (N:Nat) (a:List T12) (b:List T12):Nat->Int->Option Bool
 | 0,_=>none
 | c+1,d =>
 bif decide (d < (a.length:Int)) then (Z5 a d).bind fun e =>
 (Z5 b d).bind fun f =>
 (UA N e f).bind fun g =>
 bif !g then some false
 else (SG N a b c) (Z1 (d+1))
 else Ze4
def GV (N:Nat) (a:List T12) (b:List T12):Option Bool :=
 bif (a.length:Int) != (b.length:Int) then some false
 else SG N a b N 0
def QO (N:Nat) (a:List T12) (b:List T12):Option Bool :=
 (GV N a b).bind fun c =>
 some c
def RI (N:Nat) (a:List T0) (b:Int) (c:List T12) (d:List T12):Option ((List T12) × Int) :=
 (US N a b d).bind fun e =>
 bif !e then some (([]:List T12),1)
 else (Z5 a b).bind fun f =>
 (RG N f.Zz c).bind fun g =>
 bif !g then some (([]:List T12),11)
 else (Z5 a b).bind fun h =>
 (RE N h c d).bind fun i =>
 some (i,0)
def RA (N:Nat) (a:T5) (b:T8) (c:Yt) (d:T3) (e:Int) (f:Bool):Option (Yt × Int) :=
 bif f then some ((⟨0,([]:List T12),([]:List T12)⟩:Yt),17)
 else (Z5 b.ZU e).bind fun g =>
 (RI N a.ZJ d.ZD d.ZV c.ZW).bind fun h =>
 bif d.ZQ then (SR N d.ZV).bind fun i =>
 some ((⟨g.To,h.1,i⟩:Yt),0)
 else some ((⟨g.To,h.1,([]:List T12)⟩:Yt),0)
def SX (N:Nat) (a:T5) (b:T8) (c:Yt) (d:T3):Option (Yt × Int) :=
 (Ho N b.ZU c d).bind fun e =>
 bif d.ZS != b.ZS then some ((⟨0,([]:List T12),([]:List T12)⟩:Yt),12)
 else bif decide (e < 0) then some ((⟨0,([]:List T12),([]:List T12)⟩:Yt),23)
 else (Z5 a.ZJ d.ZD).bind fun f =>
 (Hp N f.Zz d.ZV).bind fun g =>
 bif !g then some ((⟨0,([]:List T12),([]:List T12)⟩:Yt),11)
 else (L4 N a.ZJ d.ZD d.ZV c.ZW).bind fun h =>
 bif !h then RA N a b c d e true
 else (Z5 b.ZU e).bind fun i =>
 bif i.ZE then (QO N d.ZV c.ZX).bind fun j =>
 RA N a b c d e (!j)
 else RA N a b c d e false
def ZfT (a:List T3) (b:Int) (c:List T12) (d:List T12):Option (Yt × Int × Int) :=
 some ((⟨b,c,d⟩:Yt),(a.length:Int),0)
def Zb2 (N:Nat) (a:T5) (b:T8) (c:List T3):Nat->Int->(List T12)->(List T12)->Int->Option (Yt × Int × Int)
 | 0,_,_,_,_=>none
 | d+1,e,f,g,h =>
 bif decide (h < (c.length:Int)) then (Z5 c h).bind fun i =>
 (SX N a b (⟨e,f,g⟩:Yt) i).bind fun j =>
 bif j.2 != 0 then some ((⟨e,f,g⟩:Yt),h,j.2)
 else (Zb2 N a b c d) j.1.At j.1.ZW j.1.ZX (Z1 (h+1))
 else ZfT c e f g
def Hb (N:Nat) (a:T5) (b:T8) (c:List T3):Option (Yt × Int × Int) :=
 (Ql N a b).bind fun d =>
 (UB N a b d).bind fun e =>
 bif !e then some ((⟨0,([]:List T12),([]:List T12)⟩:Yt),0,1)
 else Zb2 N a b c N d.At d.ZW d.ZX 0
def z38 (N:Nat) (a:List T3):Option (List T3) :=
 (YT ([]:List T3) a).bind fun b =>
 some b
def Zfy (N:Nat) (a:List T0) (b:Int) (c:List T12) (d:List T12):Option (List T12) :=
 (YT ([]:List T12) d).bind fun e =>
 (Z5 a b).bind fun f =>
 (lsl e (some f.ZA) none).bind fun g =>
 (Vf e (some f.ZA) none c).bind fun h =>
 some h.1
def ZbJ (N:Nat) (a:List T12) (b:Int):Option (Int × Bool) :=
 bif decide (b < 0) then some (0,true)
 else (Z5 a b).bind fun c =>
 (Lk N c).bind fun d =>
 (Z5 a b).bind fun e =>
 some (d,(e.Zt != 0))
def Zfw:Option (Int × Bool) :=
 some (0,false)
def Zbq (a:T6) (b:List T12):Nat->Int->Option (Int × Bool)
 | 0,_=>none
 | c+1,d =>
 bif decide (d < (a.Zy.length:Int)) then (Z5 a.Zy d).bind fun e =>
 (Z5 b e.1).bind fun f =>
 (Z5 b e.2).bind fun g =>
 bif f.Zt==0 then some ((Z1 ((a.Zw.length:Int)+d)),true)
 else bif g.Zt==0 then some ((Z1 ((a.Zw.length:Int)+d)),true)
 else bif !(f.S.toList==g.S.toList) then some ((Z1 ((a.Zw.length:Int)+d)),true)
 else (Zbq a b c) (Z1 (d+1))
 else Zfw
def Zfx (N:Nat) (a:T6) (b:List T12):Option (Int × Bool) :=
 Zbq a b N 0
def Zbr (N:Nat) (a:T6) (b:List T12):Nat->Int->Option (Int × Bool)
 | 0,_=>none
 | c+1,d =>
 bif decide (d < (a.Zw.length:Int)) then (Z5 a.Zw d).bind fun e =>
 (ZbJ N b e.X).bind fun f =>
 (ZbJ N b e.Y).bind fun g =>
 bif !f.2 then some (d,true)
 else bif !g.2 then some (d,true)
 else bif decide ((Z1 (f.1-g.1)) > e.C) then some (d,true)
 else (Zbr N a b c) (Z1 (d+1))
 else Zfx N a b
def Zfv (N:Nat) (a:T6) (b:List T12):Option (Int × Bool) :=
 Zbr N a b N 0
def ZfA (a:List T12):Option Int :=
 some (a.length:Int)
def Zbs (N:Nat) (a:List T12) (b:List T12):Nat->Int->Option Int
 | 0,_=>none
 | c+1,d =>
 bif decide (d < (a.length:Int)) then bif decide (d>=(b.length:Int)) then some d
 else (Z5 a d).bind fun e =>
 (Z5 b d).bind fun f =>
 (LF N e f).bind fun g =>
 bif g != 0 then some d
 else (Zbs N a b c) (Z1 (d+1))
 else ZfA a
def Zfz (N:Nat) (a:List T12) (b:List T12):Option Int :=
 Zbs N a b N 0
def Zfc (N:Nat) (a:T5) (b:Yt) (c:T3) (d:T0):Option (Int × Int) :=
 (Zfy N a.ZJ c.ZD c.ZV b.ZW).bind fun e =>
 (Zfv N d.ZB e).bind fun f =>
 bif f.2 then some (5,f.1)
 else (Zfz N c.ZV b.ZX).bind fun g =>
 some (6,g)
def ZaZ (N:Nat) (a:T5) (b:Yt) (c:T3) (d:T0):Nat->Int->Option (Int × Int)
 | 0,_=>none
 | e+1,f =>
 bif decide (f < (d.Zz.length:Int)) then (Z5 d.Zz f).bind fun g =>
 (Z5 c.ZV f).bind fun h =>
 (z51 N g.Zv h).bind fun i =>
 bif !i then some (4,f)
 else (ZaZ N a b c d e) (Z1 (f+1))
 else Zfc N a b c d
def Zfb (N:Nat) (a:T5) (b:Yt) (c:T3) (d:Int):Option (Int × Int) :=
 bif d==12 then some (1,0)
 else bif d==23 then some (2,0)
 else (Z5 a.ZJ c.ZD).bind fun e =>
 bif (c.ZV.length:Int) != (e.Zz.length:Int) then some (3,0)
 else ZaZ N a b c e N 0
def Zcp (N:Nat) (a:T5) (b:T8) (c:List T3) (d:Yt × Int × Int) (e:Bool):Option (TC × Bool × Int) :=
 bif e then some ((⟨0,0,0,0⟩:TC),false,d.2.2)
 else (Z5 c d.2.1).bind fun f =>
 (Zfb N a d.1 f d.2.2).bind fun g =>
 bif g.1==1 then some ((⟨d.2.1,g.1,g.2,f.ZS⟩:TC),true,0)
 else bif f.ZQ then some ((⟨d.2.1,g.1,g.2,b.ZS⟩:TC),true,0)
 else some ((⟨d.2.1,g.1,g.2,f.ZR⟩:TC),true,0)
def z90 (N:Nat) (a:T5) (b:T8) (c:List T3):Option (TC × Bool × Int) :=
 (Hb N a b c).bind fun d =>
 bif d.2.2==0 then Zcp N a b c d true
 else Zcp N a b c d (d.2.2==1)
def LH (N:Nat) (a:List ByteArray) (b:Int):Option ByteArray :=
 bif decide (b < 0) then some (str [63])
 else bif decide (b>=(a.length:Int)) then some (str [63])
 else (Z5 a b).bind fun c =>
 some c
def Zfe (a:List ByteArray):Option (List ByteArray) :=
 some a
def Za1 (a:List T0):Nat->(List ByteArray)->Int->Option (List ByteArray)
 | 0,_,_=>none
 | b+1,c,d =>
 bif decide (d < (a.length:Int)) then (Z5 a d).bind fun e =>
 (YT c ([e.Zu]:List ByteArray)).bind fun f =>
 (Za1 a b) f (Z1 (d+1))
 else Zfe c
def Zfd (N:Nat) (a:List T0):Option (List ByteArray) :=
 Za1 a N ([]:List ByteArray) 0
def Zfi (N:Nat) (a:ByteArray):Option ByteArray :=
 some ByteArray.empty
def ZfB (N:Nat) (a:Int) (b:ByteArray):Option (Unit × ByteArray) :=
 (Zfi N ByteArray.empty).bind fun c =>
 (Hz c ([a]:List Int)).bind fun d =>
 some ((),d)
def Zfj (N:Nat) (a:ByteArray):Option Unit :=
 some ()
def Qu (N:Nat) (a:Int) (b:ByteArray):Option (Unit × ByteArray) :=
 (Zfj N b).bind fun c =>
 (Hz b ([a]:List Int)).bind fun d =>
 some ((),d)
def Zgt (N:Nat) (a:ByteArray):Option ByteArray :=
 (BF a).bind fun b =>
 (BF a).bind fun c =>
 some a
def Zfh (N:Nat) (a:ByteArray):Option ByteArray :=
 (Qu N 34 a).bind fun b =>
 (Zgt N b.2).bind fun c =>
 some c
def LI (N:Nat) (a:T12):Nat->ByteArray->Int->Option ByteArray
 | 0,_,_=>none
 | b+1,c,d =>
 bif decide (d < (a.S.size:Int)) then (X7 a.S d).bind fun e =>
 bif e==34 then (Qu N 92 c).bind fun f =>
 (X7 a.S d).bind fun g =>
 (Qu N g f.2).bind fun h =>
 (LI N a b) h.2 (Z1 (d+1))
 else (X7 a.S d).bind fun i =>
 bif i==92 then (Qu N 92 c).bind fun j =>
 (X7 a.S d).bind fun k =>
 (Qu N k j.2).bind fun l =>
 (LI N a b) l.2 (Z1 (d+1))
 else (X7 a.S d).bind fun m =>
 (Qu N m c).bind fun o =>
 (LI N a b) o.2 (Z1 (d+1))
 else Zfh N c
def Za3 (N:Nat) (a:T12):Option ByteArray :=
 (Ll N a).bind fun b =>
 bif !b then some (str [63])
 else bif a.Zt==1 then (Um N a.N).bind fun c =>
 some c
 else (ZfB N 34 ByteArray.empty).bind fun d =>
 LI N a N d.2 0
def Zfg (N:Nat) (a:List ByteArray):Option ByteArray :=
 (z39 N a (str [44,32])).bind fun b =>
 (YK (str [40]) b).bind fun c =>
 (YK c (str [41])).bind fun d =>
 some d
def Za2 (N:Nat) (a:List T12):Nat->(List ByteArray)->Int->Option ByteArray
 | 0,_,_=>none
 | b+1,c,d =>
 bif decide (d < (a.length:Int)) then (Z5 a d).bind fun e =>
 (Za3 N e).bind fun f =>
 (YT c ([f]:List ByteArray)).bind fun g =>
 (Za2 N a b) g (Z1 (d+1))
 else Zfg N c
def Zff (N:Nat) (a:List T12):Option ByteArray :=
 Za2 N a N ([]:List ByteArray) 0
def Zcq (N:Nat) (a:T5) (b:T3) (c:ByteArray) (d:ByteArray):Option ByteArray :=
 (LH N a.ZI b.ZS).bind fun e =>
 (YK e c).bind fun f =>
 (Zfd N a.ZJ).bind fun g =>
 (LH N g b.ZD).bind fun h =>
 (YK f h).bind fun i =>
 (Zff N b.ZV).bind fun j =>
 (YK i j).bind fun k =>
 (YK k d).bind fun l =>
 (LH N a.ZI b.ZR).bind fun m =>
 (YK l m).bind fun o =>
 some o
def z91 (N:Nat) (a:T5) (b:T3):Option ByteArray :=
 bif b.ZQ then Zcq N a b (str [32,115,101,110,100,115,32]) (str [32,116,111,32])
 else Zcq N a b (str [32,103,101,116,115,32]) (str [32,102,114,111,109,32])
def z92 (N:Nat) (a:T5) (b:T8) (c:TC) (d:T3):Option ByteArray :=
 bif c.Zt==1 then (LH N a.ZI b.ZS).bind fun e =>
 (YK (str [105,115,32,110,111,116,32,97,110,32,101,118,101,110,116,32,111,102,32]) e).bind fun f =>
 some f
 else bif c.Zt==2 then some (str [105,115,32,110,111,116,32,112,101,114,109,105,116,116,101,100,32,104,101,114,101])
 else bif c.Zt==3 then (Um N (d.ZV.length:Int)).bind fun g =>
 (YK (str [104,97,115,32]) g).bind fun h =>
 (YK h (str [32,118,97,108,117,101,115,32,105,110,115,116,101,97,100,32,111,102,32])).bind fun i =>
 (Z5 a.ZJ d.ZD).bind fun j =>
 (Um N (j.Zz.length:Int)).bind fun k =>
 (YK i k).bind fun l =>
 some l
 else bif c.Zt==4 then (Z5 a.ZJ d.ZD).bind fun m =>
 (Z5 m.Zz c.ZZ).bind fun o =>
 (Z5 d.ZV c.ZZ).bind fun p =>
 (Za3 N p).bind fun q =>
 (YK (str [104,97,115,32,116,104,101,32,118,97,108,117,101,32]) q).bind fun r =>
 (YK r (str [32,102,111,114,32])).bind fun s =>
 (YK s o.Zu).bind fun t =>
 (YK t (str [44,32,119,104,105,99,104,32,105,115,32,110,111,116,32,102,114,111,109,32])).bind fun u =>
 (Um N o.Zv.Lo).bind fun v =>
 (YK u v).bind fun w =>
 (YK w (str [32,116,111,32])).bind fun x =>
 (Um N o.Zv.Hi).bind fun y =>
 (YK x y).bind fun z =>
 some z
 else bif c.Zt==5 then (z146 N a.ZJ d.ZD c.ZZ).bind fun A =>
 (YK (str [100,111,101,115,32,110,111,116,32,107,101,101,112,32,116,104,101,32,103,117,97,114,100,32]) A).bind fun B =>
 some B
 else some (str [100,111,101,115,32,110,111,116,32,104,97,118,101,32,116,104,101,32,115,97,109,101,32,118,97,108,117,101,115,32,97,115,32,116,104,101,32,109,101,115,115,97,103,101,32,97,104,101,97,100])
def z37 (N:Nat) (a:T5) (b:T8) (c:List T3):Option (ByteArray × Int) :=
 (z90 N a b c).bind fun d =>
 bif d.2.2 != 0 then some ((str []),d.2.2)
 else bif !d.2.1 then some ((str []),d.2.2)
 else (Z5 c d.1.At).bind fun e =>
 (z91 N a e).bind fun f =>
 (YK f (str [32])).bind fun g =>
 (z92 N a b d.1 e).bind fun h =>
 (YK g h).bind fun i =>
 some (i,0)
def z12 (N:Nat) (a:T5) (b:T8) (c:List T3) (d:T3):Option (ByteArray × Int) :=
 (Hb N a b c).bind fun e =>
 bif e.2.2==1 then some ((str []),1)
 else bif e.2.2 != 0 then some ((str []),7)
 else (z38 N c).bind fun f =>
 (YT f ([d]:List T3)).bind fun g =>
 (z37 N a b g).bind fun h =>
 bif h.2 != 0 then some ((str []),h.2)
 else bif h.1.toList==(str []).toList then some ((str []),h.2)
 else (z35 N a b e.1.At).bind fun i =>
 (z39 N i (str [59,32])).bind fun j =>
 bif j.toList==(str []).toList then (YK h.1 (str [59,32,112,101,114,109,105,116,116,101,100,58,32])).bind fun k =>
 (YK k (str [110,111,116,104,105,110,103])).bind fun l =>
 some (l,0)
 else (YK h.1 (str [59,32,112,101,114,109,105,116,116,101,100,58,32])).bind fun m =>
 (YK m j).bind fun o =>
 some (o,0)
def Qt (N:Nat) (a:Int) (b:Int):Option Int :=
 bif a==b then some 0
 else bif a==0 then some 10000
 else bif b==0 then some 10000
 else some 20000
def ZeY (a:Int) (b:List Int):Option Yi :=
 some (⟨a,b⟩:Yi)
def GH (a:Int) (b:List Int->Int->Option Yi) (c:List Int):Option Yi :=
 b c (Z1 (a+1))
def SE (N:Nat) (a:Int) (b:Int) (c:List Int->Int->Option Yi):Nat->(List Int)->Int->Option Yi
 | 0,_,_=>none
 | d+1,e,f =>
 bif decide (f < (Z1 (a+1))) then (Qt N b f).bind fun g =>
 (Z5 e (Z1 ((Z1 (b * (Z1 (a+1))))+f))).bind fun h =>
 (SE N a b c d) (YA e (Z1 ((Z1 (b * (Z1 (a+1))))+f)) g) (Z1 (f+1))
 else GH b c e
def VM (N:Nat) (a:Int):Nat->(List Int)->Int->Option Yi
 | 0,_,_=>none
 | b+1,c,d =>
 bif decide (d < (Z1 (a+1))) then SE N a d (VM N a b) N c 0
 else ZeY a c
def Lu (N:Nat) (a:Int):Option Yi :=
 (Xs 0 (Z1 ((Z1 (a+1)) * (Z1 (a+1)))) (Z1 ((Z1 (a+1)) * (Z1 (a+1))))).bind fun b =>
 VM N a N b 0
def z55 (N:Nat) (a:Int):Option (Yi × Int) :=
 bif decide (a < 0) then some ((⟨0,([]:List Int)⟩:Yi),2)
 else bif decide (a > 24) then some ((⟨0,([]:List Int)⟩:Yi),2)
 else (Lu N a).bind fun b =>
 some (b,0)
def Zfp (a:Int):Option Int :=
 some a
def SK (a:List Int):Nat->Int->Int->Option Int
 | 0,_,_=>none
 | b+1,c,d =>
 bif decide (d < (a.length:Int)) then (Z5 a d).bind fun e =>
 (SK a b) (YG c e) (Z1 (d+1))
 else Zfp c
def PT (N:Nat) (a:List Int):Option Int :=
 bif decide ((a.length:Int) < 1) then Q0 0
 else (Z5 a 0).bind fun b =>
 SK a N b 1
def Zfq (a:Int):Option Int :=
 some a
def SL (a:List Int):Nat->Int->Int->Option Int
 | 0,_,_=>none
 | b+1,c,d =>
 bif decide (d < (a.length:Int)) then (Z5 a d).bind fun e =>
 (SL a b) (Yy c e) (Z1 (d+1))
 else Zfq c
def PU (N:Nat) (a:List Int):Option Int :=
 bif decide ((a.length:Int) < 1) then Q0 0
 else (Z5 a 0).bind fun b =>
 SL a N b 1
def Rv (N:Nat) (a:Yi):Option Bool :=
 bif decide (a.N>=0) then bif decide (a.N<=24) then bif (a.B.length:Int)==(Z1 ((Z1 (a.N+1)) * (Z1 (a.N+1)))) then (PT N a.B).bind fun b =>
 bif decide (b>=(-20001)) then (PU N a.B).bind fun c =>
 some (decide (c<=20000))
 else some false
 else some false
 else some false
 else some false
def Qi (N:Nat) (a:Yi) (b:Int):Option Bool :=
 bif decide (b>=(-1)) then some (decide (b < a.N))
 else some false
def Qj (N:Nat) (a:List Int):Option (List Int) :=
 (YT ([]:List Int) a).bind fun b =>
 some b
def V6 (N:Nat) (a:Yi) (b:T1):Option (Yi × Int) :=
 (Rv N a).bind fun c =>
 bif !c then some ((⟨0,([]:List Int)⟩:Yi),1)
 else (Qi N a b.X).bind fun d =>
 bif !d then some ((⟨0,([]:List Int)⟩:Yi),2)
 else (Qi N a b.Y).bind fun e =>
 bif !e then some ((⟨0,([]:List Int)⟩:Yi),2)
 else (Qj N a.B).bind fun f =>
 (Z5 f (Z1 ((Z1 ((Z1 ((Z1 (b.X+1)) * (Z1 (a.N+1))))+b.Y))+1))).bind fun g =>
 (Z5 f (Z1 ((Z1 ((Z1 ((Z1 (b.X+1)) * (Z1 (a.N+1))))+b.Y))+1))).bind fun h =>
 some ((⟨a.N,(YA f (Z1 ((Z1 ((Z1 ((Z1 (b.X+1)) * (Z1 (a.N+1))))+b.Y))+1)) (YG g (Yy b.C (-20001))))⟩:Yi),0)
def GI (a:Yi) (b:List Int):Option (Yi × Bool) :=
 some ((⟨a.N,b⟩:Yi),true)
def GK (a:Int) (b:List Int->Int->Option (Yi × Bool)) (c:List Int):Option (Yi × Bool) :=
 b c (Z1 (a+1))
def Tj (a:Yi) (b:Int) (c:List Int->Int->Option (Yi × Bool)) (d:List Int):Nat->Int->Option (Yi × Bool)
 | 0,_=>none
 | e+1,f =>
 bif decide (f < (Z1 (a.N+1))) then (Z5 d (Z1 ((Z1 (f * (Z1 (a.N+1))))+f))).bind fun g =>
 bif decide (g < 0) then some ((⟨0,([]:List Int)⟩:Yi),false)
 else (Tj a b c d e) (Z1 (f+1))
 else GK b c d
def Ti (N:Nat) (a:Yi) (b:Int) (c:List Int->Int->Option (Yi × Bool)) (d:List Int):Option (Yi × Bool) :=
 Tj a b c d N 0
def Lv (a:Int) (b:List Int->Int->Option (Yi × Bool)) (c:List Int):Option (Yi × Bool) :=
 b c (Z1 (a+1))
def UQ (a:Yi) (b:Int) (c:Int) (d:List Int->Int->Option (Yi × Bool)):Nat->(List Int)->Int->Option (Yi × Bool)
 | 0,_,_=>none
 | e+1,f,g =>
 bif decide (g < (Z1 (a.N+1))) then (Z5 f (Z1 ((Z1 (c * (Z1 (a.N+1))))+g))).bind fun h =>
 (Z5 f (Z1 ((Z1 (c * (Z1 (a.N+1))))+b))).bind fun i =>
 (Z5 f (Z1 ((Z1 (b * (Z1 (a.N+1))))+g))).bind fun j =>
 (Z5 f (Z1 ((Z1 (c * (Z1 (a.N+1))))+g))).bind fun k =>
 (UQ a b c d e) (YA f (Z1 ((Z1 (c * (Z1 (a.N+1))))+g)) (YG h (Z1 (i+j)))) (Z1 (g+1))
 else Lv c d f
def Wn (N:Nat) (a:Yi) (b:Int) (c:List Int->Int->Option (Yi × Bool)):Nat->(List Int)->Int->Option (Yi × Bool)
 | 0,_,_=>none
 | d+1,e,f =>
 bif decide (f < (Z1 (a.N+1))) then UQ a b f (Wn N a b c d) N e 0
 else Ti N a b c e
def Wu (N:Nat) (a:Yi):Nat->(List Int)->Int->Option (Yi × Bool)
 | 0,_,_=>none
 | b+1,c,d =>
 bif decide (d < (Z1 (a.N+1))) then Wn N a d (Wu N a b) N c 0
 else GI a c
def GL (N:Nat) (a:Yi) (b:List Int):Option (Yi × Bool) :=
 Wu N a N b 0
def GJ (a:Int) (b:List Int->Int->Option (Yi × Bool)) (c:List Int):Option (Yi × Bool) :=
 b c (Z1 (a+1))
def SF (N:Nat) (a:Yi) (b:Int) (c:List Int->Int->Option (Yi × Bool)):Nat->(List Int)->Int->Option (Yi × Bool)
 | 0,_,_=>none
 | d+1,e,f =>
 bif decide (f < (Z1 (a.N+1))) then (Z5 e (Z1 ((Z1 (b * (Z1 (a.N+1))))+f))).bind fun g =>
 (Qt N b f).bind fun h =>
 (Z5 e (Z1 ((Z1 (b * (Z1 (a.N+1))))+f))).bind fun i =>
 (SF N a b c d) (YA e (Z1 ((Z1 (b * (Z1 (a.N+1))))+f)) (YG g h)) (Z1 (f+1))
 else GJ b c e
def Vw (N:Nat) (a:Yi):Nat->(List Int)->Int->Option (Yi × Bool)
 | 0,_,_=>none
 | b+1,c,d =>
 bif decide (d < (Z1 (a.N+1))) then SF N a d (Vw N a b) N c 0
 else GL N a c
def z127 (N:Nat) (a:Yi):Option (Yi × Bool) :=
 (Rv N a).bind fun b =>
 bif !b then some ((⟨0,([]:List Int)⟩:Yi),false)
 else (Qj N a.B).bind fun c =>
 Vw N a N c 0
def Qk (N:Nat) (a:Yi) (b:Int) (c:Int):Option Int :=
 (Z5 a.B (Z1 ((Z1 (b * (Z1 (a.N+1))))+c))).bind fun d =>
 some d
def Zf2 (a:List Int):Option ((List Int) × Bool) :=
 some (a,true)
def Me (a:List Int) (b:Int) (c:List Int->Int->Option ((List Int) × Bool)) (d:Int):Option ((List Int) × Bool) :=
 (YT a ([d]:List Int)).bind fun e =>
 c e (Z1 (b+1))
def Ts (N:Nat) (a:Yi × Bool) (b:List Int) (c:Int) (d:List Int->Int->Option ((List Int) × Bool)):Nat->Int->Int->Option ((List Int) × Bool)
 | 0,_,_=>none
 | e+1,f,g =>
 bif decide (g < (b.length:Int)) then (Z5 b g).bind fun h =>
 (Qk N a.1 (Z1 (g+1)) (Z1 (c+1))).bind fun i =>
 (Ts N a b c d e) (Yy f (Z1 (h-i))) (Z1 (g+1))
 else Me b c d f
def Vy (N:Nat) (a:Yi) (b:Yi × Bool):Nat->(List Int)->Int->Option ((List Int) × Bool)
 | 0,_,_=>none
 | c+1,d,e =>
 bif decide (e < a.N) then (Qk N b.1 0 (Z1 (e+1))).bind fun f =>
 Ts N b d e (Vy N a b c) N (Z1 (0-f)) 0
 else Zf2 d
def UV (N:Nat) (a:Yi):Option ((List Int) × Bool) :=
 (z127 N a).bind fun b =>
 bif !b.2 then some (([]:List Int),false)
 else Vy N a b N ([]:List Int) 0
def Te (l:List UInt8):Nat->List UInt8
 | 0=>[]
 | n+1=>l++Te l n
def Mf (N:Nat) (a:ByteArray) (b:Int):Option ByteArray :=
 bif (decide (0<=b) && decide (b<=140737488355328)) && decide (a.size * b.toNat<=140737488355328) then some ⟨(Te a.data.toList b.toNat).toArray⟩ else none
def Zf4 (a:List T12):Option (List T12) :=
 some a
def Zf5 (a:List T12->(List Bool)->Bool->Option (List T12)) (b:List T12) (c:List Bool) (d:Bool):Option (List T12) :=
 a b c d
def DT (a:Int) (b:List T12->(List Bool)->Bool->Int->Option (List T12)) (c:List T12) (d:List Bool) (e:Bool):Option (List T12) :=
 b c d e (Z1 (a+1))
def QE (a:List T12) (b:List Bool) (c:Bool) (d:Int) (e:List T12->(List Bool)->Bool->Int->Option (List T12)) (f:Int) (g:Int):Option (List T12) :=
 (Z5 b g).bind fun h =>
 bif h then (Z5 b f).bind fun i =>
 bif !i then (Z5 a g).bind fun j =>
 (Z5 a f).bind fun k =>
 (Z5 b f).bind fun l =>
 e (YA a f (⟨k.Zt,k.N,j.S⟩:T12)) (YA b f true) true (Z1 (d+1))
 else e a b c (Z1 (d+1))
 else e a b c (Z1 (d+1))
def Vz (a:Int) (b:List T12->(List Bool)->Bool->Int->Option (List T12)) (c:(Int × Int)):Nat->(List T12)->(List Bool)->Bool->Int->Option (List T12)
 | 0,_,_,_,_=>none
 | d+1,e,f,g,h =>
 bif decide (h < 2) then (Z5 ([c.1,c.2]:List Int) h).bind fun i =>
 bif (Z1 (1-h))==0 then QE e f g h (Vz a b c d) i c.1
 else bif (Z1 (1-h))==1 then QE e f g h (Vz a b c d) i c.2
 else none
 else DT a b e f g
def Vn (N:Nat) (a:T0) (b:List T12->(List Bool)->Bool->Option (List T12)):Nat->(List T12)->(List Bool)->Bool->Int->Option (List T12)
 | 0,_,_,_,_=>none
 | c+1,d,e,f,g =>
 bif decide (g < (a.ZB.Zy.length:Int)) then (Z5 a.ZB.Zy g).bind fun h =>
 Vz g (Vn N a b c) h N d e f 0
 else Zf5 b d e f
def WN (N:Nat) (a:T0):Nat->(List T12)->(List Bool)->Bool->Option (List T12)
 | 0,_,_,_=>none
 | b+1,c,d,e =>
 bif e then Vn N a (WN N a b) N c d false 0
 else Zf4 c
def RF (N:Nat) (a:T0) (b:List T12) (c:List Bool):Option (List T12) :=
 WN N a N b c true
def UC (N:Nat) (a:T0) (b:List T12):Nat->(List Bool)->Int->Option (List T12)
 | 0,_,_=>none
 | c+1,d,e =>
 bif decide (e < (b.length:Int)) then bif decide (e < a.ZA) then (Z5 b e).bind fun f =>
 (Z5 d e).bind fun g =>
 (UC N a b c) (YA d e (f.Zt != 0)) (Z1 (e+1))
 else bif decide (e>=(Z1 (a.ZA+(a.Zz.length:Int)))) then (Z5 b e).bind fun h =>
 (Z5 d e).bind fun i =>
 (UC N a b c) (YA d e (h.Zt != 0)) (Z1 (e+1))
 else (Z5 d e).bind fun j =>
 (UC N a b c) (YA d e false) (Z1 (e+1))
 else RF N a b d
def QD (N:Nat) (a:T0) (b:List T12):Option (List T12) :=
 (Xs false (b.length:Int) (b.length:Int)).bind fun c =>
 UC N a b N c 0
def Sb (N:Nat) (a:List T12) (b:T0) (c:List T12):Option ((List T12) × Bool) :=
 (RE N b c a).bind fun d =>
 (QD N b d).bind fun e =>
 (lsl e (some b.ZA) (some (Z1 (b.ZA+(b.Zz.length:Int))))).bind fun f =>
 (Vf c none none f).bind fun g =>
 (He N b.ZB e).bind fun h =>
 bif !h then some (([]:List T12),false)
 else (RG N b.Zz g.1).bind fun i =>
 bif !i then some (([]:List T12),false)
 else some (g.1,true)
def Tq (N:Nat) (a:List T12) (b:T0) (c:List Int × Bool):Nat->(List T12)->Int->Option ((List T12) × Bool)
 | 0,_,_=>none
 | d+1,e,f =>
 bif decide (f < (b.Zz.length:Int)) then (Z5 b.Zz f).bind fun g =>
 (Z5 c.1 f).bind fun h =>
 (Z5 e f).bind fun i =>
 bif g.Zv.Zt==2 then (Z5 c.1 f).bind fun j =>
 (Mf N (str [97]) j).bind fun k =>
 (Z5 (YA e f (⟨g.Zv.Zt,h,(str [])⟩:T12)) f).bind fun l =>
 (Tq N a b c d) (YA (YA e f (⟨g.Zv.Zt,h,(str [])⟩:T12)) f (⟨2,0,k⟩:T12)) (Z1 (f+1))
 else (Tq N a b c d) (YA e f (⟨g.Zv.Zt,h,(str [])⟩:T12)) (Z1 (f+1))
 else Sb N a b e
def SQ (N:Nat) (a:List T12) (b:T0) (c:Int) (d:List Int):Option ((List T12) × Bool) :=
 (UV N (⟨c,d⟩:Yi)).bind fun e =>
 bif !e.2 then some (([]:List T12),false)
 else (Xs (⟨0,0,(str [])⟩:T12) (b.Zz.length:Int) (b.Zz.length:Int)).bind fun f =>
 Tq N a b e N f 0
def ZfK (N:Nat) (a:Int) (b:List Int) (c:Int) (d:Int->(List Int)->Int->Option ((List T12) × Bool)) (e:Int) (f:Int) (g:Int):Option ((List T12) × Bool) :=
 (V6 N (⟨a,b⟩:Yi) (⟨f,g,e⟩:T1)).bind fun h =>
 d h.1.N h.1.B (Z1 (c+1))
def V4 (N:Nat) (a:List T12) (b:T0) (c:Int) (d:Int) (e:Int) (f:Int) (g:Int->Int->Int->Int->Option ((List T12) × Bool)) (h:Int) (i:Bool):Option ((List T12) × Bool) :=
 bif i then bif f==0 then g c (Z1 (h-b.ZA)) e (Z1 (f+1))
 else bif f==1 then g c d (Z1 (h-b.ZA)) (Z1 (f+1))
 else none
 else (Z5 a h).bind fun j =>
 bif j.Zt==0 then some (([]:List T12),false)
 else bif f==0 then (Z5 a h).bind fun k =>
 (RD N k).bind fun l =>
 g (Z1 (c-l)) d e (Z1 (f+1))
 else (Z5 a h).bind fun m =>
 (RD N m).bind fun o =>
 g (Z1 (c+o)) d e (Z1 (f+1))
def WM (N:Nat) (a:List T12) (b:T0) (c:Int) (d:List Int) (e:Int) (f:Int->(List Int)->Int->Option ((List T12) × Bool)) (g:T1):Nat->Int->Int->Int->Int->Option ((List T12) × Bool)
 | 0,_,_,_,_=>none
 | h+1,i,j,k,l =>
 bif decide (l < 2) then (Z5 ([g.X,g.Y]:List Int) l).bind fun m =>
 bif decide (m < 0) then (WM N a b c d e f g h) i j k (Z1 (l+1))
 else bif decide (m>=b.ZA) then V4 N a b i j k l (WM N a b c d e f g h) m (decide (m < (Z1 (b.ZA+(b.Zz.length:Int)))))
 else V4 N a b i j k l (WM N a b c d e f g h) m false
 else ZfK N c d e f i j k
def Vm (N:Nat) (a:List T12) (b:T0) (c:List T1):Nat->Int->(List Int)->Int->Option ((List T12) × Bool)
 | 0,_,_,_=>none
 | d+1,e,f,g =>
 bif decide (g < (c.length:Int)) then (Z5 c g).bind fun h =>
 WM N a b e f g (Vm N a b c d) h N h.C (-1) (-1) 0
 else SQ N a b e f
def z25 (N:Nat) (a:List T0) (b:Int) (c:List T12):Option ((List T12) × Bool) :=
 (US N a b c).bind fun d =>
 bif !d then some (([]:List T12),false)
 else (Z5 a b).bind fun e =>
 (z55 N (e.Zz.length:Int)).bind fun f =>
 (RC N e).bind fun g =>
 Vm N c e g N f.1.N f.1.B 0
def Zck (a:List T3):Option (List T3) :=
 some a
def DY (a:T8) (b:List T3) (c:Int) (d:List T3->Int->Option (List T3)) (e:T9) (f:List T12) (g:Bool):Option (List T3) :=
 bif g then (YT b ([(⟨a.ZS,e.ZQ,e.ZR,e.ZD,f⟩:T3)]:List T3)).bind fun h =>
 d h (Z1 (c+1))
 else d b (Z1 (c+1))
def Sf (N:Nat) (a:T5) (b:T8) (c:Yt) (d:List Int):Nat->(List T3)->Int->Option (List T3)
 | 0,_,_=>none
 | e+1,f,g =>
 bif decide (g < (d.length:Int)) then (Z5 d g).bind fun h =>
 (Z5 b.ZU h).bind fun i =>
 (z25 N a.ZJ i.ZD c.ZW).bind fun j =>
 bif i.ZE then (SR N c.ZX).bind fun k =>
 (L4 N a.ZJ i.ZD c.ZX c.ZW).bind fun l =>
 DY b f g (Sf N a b c d e) i k l
 else DY b f g (Sf N a b c d e) i j.1 j.2
 else Zck f
def z7 (N:Nat) (a:T5) (b:T8) (c:Yt):Option (List T3) :=
 (UB N a b c).bind fun d =>
 bif !d then some ([]:List T3)
 else (z24 N b c.At).bind fun e =>
 Sf N a b c e N ([]:List T3) 0
def Zfa:Option Bool :=
 some true
def ZaY (a:List ByteArray) (b:List ByteArray):Nat->Int->Option Bool
 | 0,_=>none
 | c+1,d =>
 bif decide (d < (a.length:Int)) then (Z5 a d).bind fun e =>
 (Z5 b d).bind fun f =>
 bif !(e.toList==f.toList) then some false
 else (ZaY a b c) (Z1 (d+1))
 else Zfa
def z14 (N:Nat) (a:List ByteArray) (b:List ByteArray):Option Bool :=
 bif (a.length:Int) != (b.length:Int) then some false
 else ZaY a b N 0
def z16 (N:Nat) (a:Int):Option T12 :=
 some (⟨1,a,(str [])⟩:T12)
def Zfk:Option Bool :=
 some true
def PO (a:List T12) (b:List T12):Nat->Int->Option Bool
 | 0,_=>none
 | c+1,d =>
 bif decide (d < (a.length:Int)) then (Z5 a d).bind fun e =>
 (Z5 b d).bind fun f =>
 bif !((e.Zt==f.Zt) && ((e.N==f.N) && ((e.S.toList==f.S.toList) && true))) then some false
 else (PO a b c) (Z1 (d+1))
 else Zfk
def Qp (N:Nat) (a:List T12) (b:List T12):Option Bool :=
 bif (a.length:Int) != (b.length:Int) then some false
 else PO a b N 0
def z4 (N:Nat):Option Bool :=
 (z11 N (⟨(str [80]),([(str [97]),(str [98])]:List ByteArray),([(⟨(str [97,115,107]),([(⟨(str [110]),(⟨1,0,9⟩:YV)⟩:T4)]:List T4),0,(⟨([]:List T1),([]:List (Int × Int))⟩:T6)⟩:T0)]:List T0),2,0,1,([(⟨0,(⟨0,1,0⟩:T7),1,false⟩:T2)]:List T2),([]:List XB)⟩:T5) (⟨0,2,0,([false,true]:List Bool),([(⟨0,true,1,0,1,false⟩:T9)]:List T9),([]:List XB)⟩:T8) 0).bind fun a =>
 (z12 N (⟨(str [80]),([(str [97]),(str [98])]:List ByteArray),([(⟨(str [97,115,107]),([(⟨(str [110]),(⟨1,0,9⟩:YV)⟩:T4)]:List T4),0,(⟨([]:List T1),([]:List (Int × Int))⟩:T6)⟩:T0)]:List T0),2,0,1,([(⟨0,(⟨0,1,0⟩:T7),1,false⟩:T2)]:List T2),([]:List XB)⟩:T5) (⟨0,2,0,([false,true]:List Bool),([(⟨0,true,1,0,1,false⟩:T9)]:List T9),([]:List XB)⟩:T8) ([]:List T3) (⟨0,true,1,0,([]:List T12)⟩:T3)).bind fun b =>
 (Ql N (⟨(str [80]),([(str [97]),(str [98])]:List ByteArray),([(⟨(str [97,115,107]),([(⟨(str [110]),(⟨1,0,9⟩:YV)⟩:T4)]:List T4),0,(⟨([]:List T1),([]:List (Int × Int))⟩:T6)⟩:T0)]:List T0),2,0,1,([(⟨0,(⟨0,1,0⟩:T7),1,false⟩:T2)]:List T2),([]:List XB)⟩:T5) (⟨0,2,0,([false,true]:List Bool),([(⟨0,true,1,0,1,false⟩:T9)]:List T9),([]:List XB)⟩:T8)).bind fun c =>
 (z7 N (⟨(str [80]),([(str [97]),(str [98])]:List ByteArray),([(⟨(str [97,115,107]),([(⟨(str [110]),(⟨1,0,9⟩:YV)⟩:T4)]:List T4),0,(⟨([]:List T1),([]:List (Int × Int))⟩:T6)⟩:T0)]:List T0),2,0,1,([(⟨0,(⟨0,1,0⟩:T7),1,false⟩:T2)]:List T2),([]:List XB)⟩:T5) (⟨0,2,0,([false,true]:List Bool),([(⟨0,true,1,0,1,false⟩:T9)]:List T9),([]:List XB)⟩:T8) c).bind fun d =>
 bif a.2==0 then bif b.2==0 then (z14 N a.1 ([(str [115,101,110,100,32,97,115,107,40,110,58,32,105,110,116,32,48,32,46,46,32,57,41,32,116,111,32,98])]:List ByteArray)).bind fun e =>
 bif e then bif b.1.toList==(str [97,32,115,101,110,100,115,32,97,115,107,40,41,32,116,111,32,98,32,104,97,115,32,48,32,118,97,108,117,101,115,32,105,110,115,116,101,97,100,32,111,102,32,49,59,32,112,101,114,109,105,116,116,101,100,58,32,115,101,110,100,32,97,115,107,40,110,58,32,105,110,116,32,48,32,46,46,32,57,41,32,116,111,32,98]).toList then bif (d.length:Int)==1 then (Z5 d 0).bind fun f =>
 (z16 N 0).bind fun g =>
 (Qp N f.ZV ([g]:List T12)).bind fun h =>
 some h
 else some false
 else some false
 else some false
 else some false
 else some false
def Zb6 (a:List T0) (b:Int):Option Bool :=
 bif decide ((a.length:Int)<=60) then some (decide (b<=100))
 else some false
def Ma (a:List T0):Nat->Int->Int->Option Bool
 | 0,_,_=>none
 | b+1,c,d =>
 bif decide (d < (a.length:Int)) then (Z5 a d).bind fun e =>
 (Z5 a d).bind fun f =>
 (Z5 a d).bind fun g =>
 (Ma a b) (Z1 (c+(Z1 ((Z1 ((e.Zz.length:Int)+(f.ZB.Zw.length:Int)))+(g.ZB.Zy.length:Int))))) (Z1 (d+1))
 else Zb6 a c
def z42 (N:Nat) (a:List T0):Option Bool :=
 Ma a N 0 0
def z17 (N:Nat) (a:T5):Option Bool :=
 bif decide (a.ZL<=40) then bif decide ((a.ZO.length:Int)<=80) then bif decide ((a.ZP.length:Int)<=40) then bif decide ((a.ZI.length:Int)<=10) then (z42 N a.ZJ).bind fun b =>
 some b
 else some false
 else some false
 else some false
 else some false
def z18 (N:Nat) (a:T8):Option Bool :=
 bif decide (a.ZL<=40) then bif decide ((a.ZT.length:Int)<=45) then bif decide ((a.ZU.length:Int)<=80) then some (decide ((a.ZP.length:Int)<=45))
 else some false
 else some false
 else some false
def ZfV (a:List T12):Option Bool :=
 some (decide ((a.length:Int)<=40))
def Mb (a:List T12):Nat->Int->Option Bool
 | 0,_=>none
 | b+1,c =>
 bif decide (c < (a.length:Int)) then (Z5 a c).bind fun d =>
 bif decide ((d.S.size:Int) > 100) then some false
 else (Mb a b) (Z1 (c+1))
 else ZfV a
def z43 (N:Nat) (a:List T12):Option Bool :=
 Mb a N 0
def Zft (a:List T3):Option Bool :=
 some (decide ((a.length:Int)<=30))
def PZ (N:Nat) (a:List T3):Nat->Int->Option Bool
 | 0,_=>none
 | b+1,c =>
 bif decide (c < (a.length:Int)) then (Z5 a c).bind fun d =>
 (z43 N d.ZV).bind fun e =>
 bif !e then some false
 else (PZ N a b) (Z1 (c+1))
 else Zft a
def z19 (N:Nat) (a:List T3):Option Bool :=
 PZ N a N 0
def z5 (N:Nat) (a:T5) (b:T8) (c:List T3):Option Bool :=
 (z17 N a).bind fun d =>
 bif d then (z18 N b).bind fun e =>
 bif e then (z19 N c).bind fun f =>
 some f
 else some false
 else some false
def DE (N:Nat) (a:Int):Option Bool :=
 bif decide (a>=97) then bif decide (a<=122) then some true
 else bif decide (a>=65) then some (decide (a<=90))
 else some false
 else bif decide (a>=65) then some (decide (a<=90))
 else some false
def ZfL (N:Nat) (a:Int):Option Bool :=
 bif decide (a>=48) then some (decide (a<=57))
 else some false
def ZfG (N:Nat) (a:Int):Option Bool :=
 (DE N a).bind fun b =>
 bif b then some true
 else (ZfL N a).bind fun c =>
 bif c then some true
 else some (a==95)
def ZfC:Option Bool :=
 some true
def LX (N:Nat) (a:ByteArray):Nat->Int->Option Bool
 | 0,_=>none
 | b+1,c =>
 bif decide (c < (a.size:Int)) then (X7 a c).bind fun d =>
 (ZfG N d).bind fun e =>
 bif !e then some false
 else (LX N a b) (Z1 (c+1))
 else ZfC
def z212 (N:Nat) (a:ByteArray):Option Bool :=
 bif a.toList==(str []).toList then some false
 else (X7 a 0).bind fun b =>
 (DE N b).bind fun c =>
 bif !c then some false
 else bif decide ((a.size:Int) > 16) then some false
 else LX N a N 0
def Zbx (N:Nat):Option (List ByteArray) :=
 some ([(str [97,103,97,105,110]),(str [97,110,100]),(str [97,115]),(str [97,116]),(str [99,97,108,108]),(str [99,104,111,105,99,101]),(str [101,108,115,101]),(str [102,114,111,109]),(str [105,102]),(str [105,110,116]),(str [108,101,110]),(str [108,111,111,112]),(str [109,101,115,115,97,103,101]),(str [111,102]),(str [111,102,102,101,114]),(str [111,110]),(str [111,114]),(str [112,97,114]),(str [112,108,97,121,115]),(str [112,114,111,116,111,99,111,108]),(str [115,101,114,118,105,99,101]),(str [116,101,120,116]),(str [116,105,109,101,115]),(str [116,111]),(str [118,97,114]),(str [119,104,101,114,101]),(str [119,104,105,108,101]),(str [119,105,116,104,105,110])]:List ByteArray)
def Zbw:Option Bool :=
 some false
def P2 (a:List ByteArray) (b:ByteArray):Nat->Int->Option Bool
 | 0,_=>none
 | c+1,d =>
 bif decide (d < (a.length:Int)) then (Z5 a d).bind fun e =>
 bif e.toList==b.toList then some true
 else (P2 a b c) (Z1 (d+1))
 else Zbw
def z213 (N:Nat) (a:List ByteArray) (b:ByteArray):Option Bool :=
 P2 a b N 0
def z164 (N:Nat) (a:ByteArray):Option Bool :=
 (z212 N a).bind fun b =>
 bif b then (Zbx N).bind fun c =>
 (z213 N c a).bind fun d =>
 some (!d)
 else some false
def Za9:Option Int :=
 some (-1)
def PP (a:List ByteArray) (b:ByteArray):Nat->Int->Option Int
 | 0,_=>none
 | c+1,d =>
 bif decide (d < (a.length:Int)) then (Z5 a d).bind fun e =>
 bif e.toList==b.toList then some d
 else (PP a b c) (Z1 (d+1))
 else Za9
def LN (N:Nat) (a:List ByteArray) (b:ByteArray):Option Int :=
 PP a b N 0
def ZaL (a:Int):Option Int :=
 some a
def Px (a:List T0):Nat->Int->Int->Option Int
 | 0,_,_=>none
 | b+1,c,d =>
 bif decide (d < (a.length:Int)) then (Z5 a d).bind fun e =>
 (Px a b) (Z1 (c+(e.Zz.length:Int))) (Z1 (d+1))
 else ZaL c
def Rt (N:Nat) (a:List T0):Option Int :=
 Px a N 0 0
def Dm (a:YV) (b:Int) (c:Int):Option Bool :=
 bif a.Zt==1 then bif decide (a.Lo>=b) then bif decide (a.Hi<=c) then some (decide (a.Lo<=a.Hi))
 else some false
 else some false
 else bif a.Zt==2 then bif decide (a.Lo>=b) then bif decide (a.Hi<=c) then some (decide (a.Lo<=a.Hi))
 else some false
 else some false
 else some false
def Dk (N:Nat) (a:YV):Option Bool :=
 bif a.Zt==2 then Dm a 0 40
 else Dm a (-1000) 1000
def DA (N:Nat) (a:ByteArray):Option Bool :=
 (z164 N a).bind fun b =>
 some b
def Do (a:ByteArray):Option Bool :=
 some (decide ((a.size:Int)<=50))
def PV (N:Nat) (a:ByteArray) (b:Int) (c:Int) (d:Int->Int->Option Bool) (e:Bool):Option Bool :=
 bif e then (ssl a (some b) (some c)).bind fun f =>
 (DA N f).bind fun g =>
 bif !g then some false
 else d (Z1 (c+1)) (Z1 (c+1))
 else d b (Z1 (c+1))
def SM (N:Nat) (a:ByteArray):Nat->Int->Int->Option Bool
 | 0,_,_=>none
 | b+1,c,d =>
 bif decide (d<=(a.size:Int)) then bif d==(a.size:Int) then PV N a c d (SM N a b) true
 else (X7 a d).bind fun e =>
 PV N a c d (SM N a b) (e==46)
 else Do a
def Dn (N:Nat) (a:ByteArray):Option Bool :=
 SM N a N 0 0
def ZeZ:Option T4 :=
 some (⟨(str []),(⟨0,0,0⟩:YV)⟩:T4)
def Lz (a:List T0):Nat->Int->Int->Option T4
 | 0,_,_=>none
 | b+1,c,d =>
 bif decide (d < (a.length:Int)) then (Z5 a d).bind fun e =>
 bif decide (c < (e.Zz.length:Int)) then (Z5 a d).bind fun f =>
 (Z5 f.Zz c).bind fun g =>
 some g
 else (Z5 a d).bind fun h =>
 (Lz a b) (Z1 (c-(h.Zz.length:Int))) (Z1 (d+1))
 else ZeZ
def Ly (N:Nat) (a:List T0) (b:Int):Option T4 :=
 Lz a N b 0
def LZ (N:Nat) (a:List T0) (b:Int):Option Bool :=
 bif decide (b>=0) then (Rt N a).bind fun c =>
 bif decide (b < c) then (Ly N a b).bind fun d =>
 some (d.Zv.Zt==2)
 else some false
 else some false
def LR (a:T6):Option Bool :=
 bif decide ((a.Zw.length:Int)<=20) then some (decide ((a.Zy.length:Int)<=20))
 else some false
def PW (N:Nat) (a:List T0) (b:T6):Nat->Int->Option Bool
 | 0,_=>none
 | c+1,d =>
 bif decide (d < (b.Zy.length:Int)) then (Z5 b.Zy d).bind fun e =>
 (LZ N a e.1).bind fun f =>
 bif !f then some false
 else (Z5 b.Zy d).bind fun g =>
 (LZ N a g.2).bind fun h =>
 bif !h then some false
 else (PW N a b c) (Z1 (d+1))
 else LR b
def Dq (N:Nat) (a:List T0) (b:T6):Option Bool :=
 PW N a b N 0
def PX (N:Nat) (a:List T0) (b:T6) (c:Int):Nat->Int->Option Bool
 | 0,_=>none
 | d+1,e =>
 bif decide (e < (b.Zw.length:Int)) then (Z5 b.Zw e).bind fun f =>
 bif decide (f.X < (-1)) then some false
 else bif decide (f.X>=c) then some false
 else bif decide (f.Y < (-1)) then some false
 else bif decide (f.Y>=c) then some false
 else bif decide (f.C < (-20000)) then some false
 else bif decide (f.C > 20000) then some false
 else (PX N a b c d) (Z1 (e+1))
 else Dq N a b
def Dp (N:Nat) (a:List T0) (b:T6):Option Bool :=
 (Rt N a).bind fun c =>
 PX N a b c N 0
def ZaS:Option Bool :=
 some true
def GO (N:Nat) (a:List T0) (b:Int) (c:Int) (d:Int->Int->Option Bool) (e:T0):Option Bool :=
 (Dn N e.Zu).bind fun f =>
 bif !f then some false
 else bif decide ((e.Zz.length:Int) > 4) then some false
 else bif e.ZA != b then some false
 else (Dp N a e.ZB).bind fun g =>
 bif !g then some false
 else d (Z1 (b+(e.Zz.length:Int))) (Z1 (c+1))
def GP (a:Int) (b:Int->Option Bool):Option Bool :=
 b (Z1 (a+1))
def PI (a:T0) (b:Int) (c:Int->Option Bool):Nat->Int->Option Bool
 | 0,_=>none
 | d+1,e =>
 bif decide (e < b) then (Z5 a.Zz e).bind fun f =>
 (Z5 a.Zz b).bind fun g =>
 bif f.Zu.toList==g.Zu.toList then some false
 else (PI a b c d) (Z1 (e+1))
 else GP b c
def TV (N:Nat) (a:List T0) (b:Int) (c:Int) (d:Int->Int->Option Bool) (e:T0):Nat->Int->Option Bool
 | 0,_=>none
 | f+1,g =>
 bif decide (g < (e.Zz.length:Int)) then (Z5 e.Zz g).bind fun h =>
 (Dk N h.Zv).bind fun i =>
 bif !i then some false
 else (Z5 e.Zz g).bind fun j =>
 (z164 N j.Zu).bind fun k =>
 bif !k then some false
 else PI e g (TV N a b c d e f) N 0
 else GO N a b c d e
def GQ (N:Nat) (a:List T0) (b:Int) (c:Int) (d:Int->Int->Option Bool) (e:T0):Option Bool :=
 TV N a b c d e N 0
def PJ (N:Nat) (a:List T0) (b:Int) (c:Int) (d:Int->Int->Option Bool) (e:T0):Nat->Int->Option Bool
 | 0,_=>none
 | f+1,g =>
 bif decide (g < c) then (Z5 a g).bind fun h =>
 bif h.Zu.toList==e.Zu.toList then some false
 else (PJ N a b c d e f) (Z1 (g+1))
 else GQ N a b c d e
def WL (N:Nat) (a:List T0):Nat->Int->Int->Option Bool
 | 0,_,_=>none
 | b+1,c,d =>
 bif decide (d < (a.length:Int)) then (Z5 a d).bind fun e =>
 PJ N a c d (WL N a b) e N 0
 else ZaS
def LA (N:Nat) (a:List T0):Option Bool :=
 bif decide ((a.length:Int) > 40) then some false
 else (Rt N a).bind fun b =>
 bif decide (b > 24) then some false
 else WL N a N 0 0
def Gl (N:Nat) (a:T5):Option Bool :=
 (z164 N a.Zu).bind fun b =>
 bif b then bif decide ((a.ZI.length:Int)>=1) then bif decide ((a.ZI.length:Int)<=6) then (LA N a.ZJ).bind fun c =>
 some c
 else some false
 else some false
 else some false
def Py (N:Nat) (a:T5):Nat->Int->Option Bool
 | 0,_=>none
 | b+1,c =>
 bif decide (c < (a.ZI.length:Int)) then (Z5 a.ZI c).bind fun d =>
 (z164 N d).bind fun e =>
 bif !e then some false
 else (Z5 a.ZI c).bind fun f =>
 (LN N a.ZI f).bind fun g =>
 bif decide (g < c) then some false
 else (Py N a b) (Z1 (c+1))
 else Gl N a
def Gk (N:Nat) (a:T5):Option Bool :=
 Py N a N 0
def Rx (N:Nat) (a:T5) (b:Int):Option Bool :=
 bif decide (b>=0) then some (decide (b < a.ZL))
 else some false
def Gn (N:Nat) (a:T5):Option Bool :=
 bif decide (a.ZL>=1) then bif decide (a.ZL<=200) then (Rx N a a.ZM).bind fun b =>
 bif b then (Rx N a a.ZN).bind fun c =>
 bif c then some (decide ((a.ZO.length:Int)<=400))
 else some false
 else some false
 else some false
 else some false
def Pz (N:Nat) (a:T5):Nat->Int->Option Bool
 | 0,_=>none
 | b+1,c =>
 bif decide (c < (a.ZO.length:Int)) then (Z5 a.ZO c).bind fun d =>
 (Rx N a d.ZC).bind fun e =>
 bif !e then some false
 else (Rx N a d.To).bind fun f =>
 bif !f then some false
 else bif decide (d.Act.ZC < 0) then some false
 else bif decide (d.Act.ZC>=(a.ZI.length:Int)) then some false
 else bif decide (d.Act.To < 0) then some false
 else bif decide (d.Act.To>=(a.ZI.length:Int)) then some false
 else bif d.Act.ZC==d.Act.To then some false
 else bif decide (d.Act.ZD < 0) then some false
 else bif decide (d.Act.ZD>=(a.ZJ.length:Int)) then some false
 else (Pz N a b) (Z1 (c+1))
 else Gn N a
def Gm (N:Nat) (a:T5):Option Bool :=
 Pz N a N 0
def ZaM:Option Bool :=
 some true
def Gr (a:Int) (b:Int->Option Bool):Option Bool :=
 b (Z1 (a+1))
def Qc (a:T2) (b:Int) (c:Int->Option Bool) (d:T2) (e:Bool):Option Bool :=
 bif e then some false
 else bif a.ZE then bif d.To==a.ZC then bif d.Act.ZC != a.Act.ZC then some false
 else bif d.Act.ZD != a.Act.ZD then some false
 else c (Z1 (b+1))
 else c (Z1 (b+1))
 else c (Z1 (b+1))
def Th (a:T5) (b:Int) (c:Int->Option Bool) (d:T2):Nat->Int->Option Bool
 | 0,_=>none
 | e+1,f =>
 bif decide (f < (a.ZO.length:Int)) then (Z5 a.ZO f).bind fun g =>
 bif f != b then bif d.ZC==g.ZC then bif (d.Act.ZC==g.Act.ZC) && ((d.Act.To==g.Act.To) && ((d.Act.ZD==g.Act.ZD) && true)) then Qc d f (Th a b c d e) g true
 else bif d.Act.ZC != g.Act.ZC then Qc d f (Th a b c d e) g true
 else Qc d f (Th a b c d e) g d.ZE
 else Qc d f (Th a b c d e) g false
 else Qc d f (Th a b c d e) g false
 else Gr b c
def Gs (N:Nat) (a:T5) (b:Int) (c:Int->Option Bool) (d:T2) (e:Bool):Option Bool :=
 bif e then some false
 else Th a b c d N 0
def Uz (N:Nat) (a:T5):Nat->Int->Option Bool
 | 0,_=>none
 | b+1,c =>
 bif decide (c < (a.ZO.length:Int)) then (Z5 a.ZO c).bind fun d =>
 bif d.ZE then Gs N a c (Uz N a b) d (d.ZC==a.ZM)
 else Gs N a c (Uz N a b) d false
 else ZaM
def Gq (N:Nat) (a:T5):Option Bool :=
 Uz N a N 0
def Zba (a:List Int):Option (List Int) :=
 some a
def Zbb (a:Int) (b:List Int->Int->Option (List Int)) (c:List Int):Option (List Int) :=
 b c (Z1 (a+1))
def Tn (a:T5) (b:Int) (c:List Int->Int->Option (List Int)):Nat->(List Int)->Int->Option (List Int)
 | 0,_,_=>none
 | d+1,e,f =>
 bif decide (f < (a.ZO.length:Int)) then (Z5 a.ZO f).bind fun g =>
 (Z5 e g.To).bind fun h =>
 bif h==b then (Z5 e g.ZC).bind fun i =>
 bif decide (i < 0) then (Z5 e g.ZC).bind fun j =>
 (Tn a b c d) (YA e g.ZC (Z1 (b+1))) (Z1 (f+1))
 else (Tn a b c d) e (Z1 (f+1))
 else (Tn a b c d) e (Z1 (f+1))
 else Zbb b c e
def SI (N:Nat) (a:T5):Nat->(List Int)->Int->Option (List Int)
 | 0,_,_=>none
 | b+1,c,d =>
 bif decide (d < a.ZL) then Tn a d (SI N a b) N c 0
 else Zba c
def G7 (N:Nat) (a:T5) (b:List Int):Option (List Int) :=
 (Z5 b a.ZN).bind fun c =>
 SI N a N (YA b a.ZN 0) 0
def PQ (N:Nat) (a:T5):Nat->(List Int)->Int->Option (List Int)
 | 0,_,_=>none
 | b+1,c,d =>
 bif decide (d < a.ZL) then (Z5 c d).bind fun e =>
 (PQ N a b) (YA c d (-1)) (Z1 (d+1))
 else G7 N a c
def G6 (N:Nat) (a:T5):Option (List Int) :=
 (Xs 0 a.ZL a.ZL).bind fun b =>
 PQ N a N b 0
def Du (N:Nat) (a:T5) (b:Int) (c:Int):Option Bool :=
 (Z5 a.ZO b).bind fun d =>
 (Z5 a.ZO c).bind fun e =>
 bif d.Act.To != e.Act.To then some (decide (d.Act.To < e.Act.To))
 else bif d.Act.ZD != e.Act.ZD then some (decide (d.Act.ZD < e.Act.ZD))
 else some (decide (b < c))
def Zbc (a:List Int):Option (List Int) :=
 some a
def LO (a:List Int) (b:Int) (c:List Int->Int->Option (List Int)) (d:Int):Option (List Int) :=
 (lsl a none (some d)).bind fun e =>
 (lsl a (some d) none).bind fun f =>
 (YT ([b]:List Int) f).bind fun g =>
 (YT e g).bind fun h =>
 c h (Z1 (b+1))
def Qr (N:Nat) (a:T5) (b:List Int) (c:Int) (d:List Int->Int->Option (List Int)):Nat->Int->Option (List Int)
 | 0,_=>none
 | e+1,f =>
 bif decide (f < (b.length:Int)) then (Z5 b f).bind fun g =>
 (Du N a g c).bind fun h =>
 bif h then (Qr N a b c d e) (Z1 (f+1))
 else LO b c d f
 else LO b c d f
def Tp (N:Nat) (a:T5) (b:Int):Nat->(List Int)->Int->Option (List Int)
 | 0,_,_=>none
 | c+1,d,e =>
 bif decide (e < (a.ZO.length:Int)) then (Z5 a.ZO e).bind fun f =>
 bif f.ZC != b then (Tp N a b c) d (Z1 (e+1))
 else Qr N a d e (Tp N a b c) N 0
 else Zbc d
def G8 (N:Nat) (a:T5) (b:Int):Option (List Int) :=
 Tp N a b N ([]:List Int) 0
def Lj (N:Nat) (a:T5):Option Bool :=
 (G8 N a a.ZN).bind fun b =>
 some ((b.length:Int)==0)
def PA (N:Nat) (a:T5) (b:List Bool) (c:List Int):Nat->Int->Option Bool
 | 0,_=>none
 | d+1,e =>
 bif decide (e < a.ZL) then (Z5 b e).bind fun f =>
 bif !f then some false
 else (Z5 c e).bind fun g =>
 bif decide (g < 0) then some false
 else (PA N a b c d) (Z1 (e+1))
 else Lj N a
def Gu (N:Nat) (a:T5) (b:List Bool):Option Bool :=
 (G6 N a).bind fun c =>
 PA N a b c N 0
def ZaN (a:Int) (b:List Bool->Int->Option Bool) (c:List Bool):Option Bool :=
 b c (Z1 (a+1))
def Sy (a:T5) (b:Int) (c:List Bool->Int->Option Bool):Nat->(List Bool)->Int->Option Bool
 | 0,_,_=>none
 | d+1,e,f =>
 bif decide (f < (a.ZO.length:Int)) then (Z5 a.ZO f).bind fun g =>
 (Z5 a.ZO f).bind fun h =>
 (Z5 e h.To).bind fun i =>
 bif i then (Z5 e g.To).bind fun j =>
 (Sy a b c d) (YA e g.To true) (Z1 (f+1))
 else (Z5 a.ZO f).bind fun k =>
 (Z5 e k.ZC).bind fun l =>
 (Z5 e g.To).bind fun m =>
 (Sy a b c d) (YA e g.To l) (Z1 (f+1))
 else ZaN b c e
def Sx (N:Nat) (a:T5):Nat->(List Bool)->Int->Option Bool
 | 0,_,_=>none
 | b+1,c,d =>
 bif decide (d < a.ZL) then Sy a d (Sx N a b) N c 0
 else Gu N a c
def Gt (N:Nat) (a:T5):Option Bool :=
 (Xs false a.ZL a.ZL).bind fun b =>
 (Z5 b a.ZM).bind fun c =>
 Sx N a N (YA b a.ZM true) 0
def ZaO:Option Bool :=
 some true
def Sz (N:Nat) (a:T5):Nat->Int->Option Bool
 | 0,_=>none
 | b+1,c =>
 bif decide (c < (a.ZP.length:Int)) then (Z5 a.ZP c).bind fun d =>
 (Rx N a d.ZF).bind fun e =>
 bif !e then some false
 else bif decide (c > 0) then (Z5 a.ZP (Z1 (c-1))).bind fun f =>
 bif decide (d.ZF<=f.ZF) then some false
 else bif decide (d.ZG < 1) then some false
 else bif decide (d.ZG > 1000) then some false
 else bif decide (d.ZH < 0) then some false
 else bif decide (d.ZH>=(a.ZO.length:Int)) then some false
 else (Z5 a.ZO d.ZH).bind fun g =>
 bif g.ZC != d.ZF then some false
 else (Z5 a.ZO d.ZH).bind fun h =>
 bif h.ZE then some false
 else (Sz N a b) (Z1 (c+1))
 else bif decide (d.ZG < 1) then some false
 else bif decide (d.ZG > 1000) then some false
 else bif decide (d.ZH < 0) then some false
 else bif decide (d.ZH>=(a.ZO.length:Int)) then some false
 else (Z5 a.ZO d.ZH).bind fun i =>
 bif i.ZC != d.ZF then some false
 else (Z5 a.ZO d.ZH).bind fun j =>
 bif j.ZE then some false
 else (Sz N a b) (Z1 (c+1))
 else ZaO
def Gv (N:Nat) (a:T5):Option Bool :=
 Sz N a N 0
def z45 (N:Nat) (a:T5):Option Bool :=
 (Gk N a).bind fun b =>
 bif b then (Gm N a).bind fun c =>
 bif c then (Gq N a).bind fun d =>
 bif d then (Gt N a).bind fun e =>
 bif e then (Gv N a).bind fun f =>
 some f
 else some false
 else some false
 else some false
 else some false
def ZeK:Option Bool :=
 some true
def Qd (a:T8):Nat->Int->Option Bool
 | 0,_=>none
 | b+1,c =>
 bif decide (c < (a.ZU.length:Int)) then (Z5 a.ZU c).bind fun d =>
 bif decide (d.ZC < 0) then some false
 else bif decide (d.ZC>=a.ZL) then some false
 else bif decide (d.To < 0) then some false
 else bif decide (d.To>=a.ZL) then some false
 else bif decide (d.ZR < 0) then some false
 else bif decide (d.ZR>=6) then some false
 else bif d.ZR==a.ZS then some false
 else bif decide (d.ZD < 0) then some false
 else bif decide (d.ZD>=40) then some false
 else (Qd a b) (Z1 (c+1))
 else ZeK
def Gw (N:Nat) (a:T8):Option Bool :=
 bif decide (a.ZS < 0) then some false
 else bif decide (a.ZS>=6) then some false
 else bif decide (a.ZL < 1) then some false
 else bif decide (a.ZL > 200) then some false
 else bif decide (a.ZM < 0) then some false
 else bif decide (a.ZM>=a.ZL) then some false
 else bif (a.ZT.length:Int) != a.ZL then some false
 else bif decide ((a.ZU.length:Int) > 400) then some false
 else Qd a N 0
def ZeL:Option Bool :=
 some true
def ZaP (a:Int) (b:Int->Option Bool):Option Bool :=
 b (Z1 (a+1))
def Ru (a:T9) (b:Int) (c:Int->Option Bool) (d:T9) (e:Bool):Option Bool :=
 bif e then some false
 else bif a.ZE then bif d.To==a.ZC then bif !d.ZQ then some false
 else bif d.ZD != a.ZD then some false
 else c (Z1 (b+1))
 else c (Z1 (b+1))
 else c (Z1 (b+1))
def Uh (a:T8) (b:Int) (c:Int->Option Bool) (d:T9):Nat->Int->Option Bool
 | 0,_=>none
 | e+1,f =>
 bif decide (f < (a.ZU.length:Int)) then (Z5 a.ZU f).bind fun g =>
 bif f != b then bif d.ZC==g.ZC then bif !(d.ZQ==g.ZQ) then Ru d f (Uh a b c d e) g true
 else bif d.ZR==g.ZR then bif d.ZD==g.ZD then Ru d f (Uh a b c d e) g true
 else Ru d f (Uh a b c d e) g d.ZE
 else Ru d f (Uh a b c d e) g d.ZE
 else Ru d f (Uh a b c d e) g false
 else Ru d f (Uh a b c d e) g false
 else ZaP b c
def PB (N:Nat) (a:T8) (b:Int) (c:Int->Option Bool) (d:T9) (e:Bool):Option Bool :=
 bif e then some false
 else Uh a b c d N 0
def Vd (N:Nat) (a:T8):Nat->Int->Option Bool
 | 0,_=>none
 | b+1,c =>
 bif decide (c < (a.ZU.length:Int)) then (Z5 a.ZU c).bind fun d =>
 bif d.ZE then bif !d.ZQ then PB N a c (Vd N a b) d true
 else bif d.ZC==a.ZM then PB N a c (Vd N a b) d true
 else (Z5 a.ZT d.ZC).bind fun e =>
 PB N a c (Vd N a b) d e
 else PB N a c (Vd N a b) d false
 else ZeL
def Gy (N:Nat) (a:T8):Option Bool :=
 Vd N a N 0
def ZeM:Option Bool :=
 some true
def TS (a:T8) (b:Int) (c:Int->Option Bool) (d:XB) (e:Bool):Option Bool :=
 bif e then some false
 else (Z5 a.ZU d.ZH).bind fun f =>
 bif f.ZC != d.ZF then some false
 else bif !f.ZQ then some false
 else bif f.ZE then some false
 else c (Z1 (b+1))
def V3 (a:T8):Nat->Int->Option Bool
 | 0,_=>none
 | b+1,c =>
 bif decide (c < (a.ZP.length:Int)) then (Z5 a.ZP c).bind fun d =>
 bif decide (d.ZG < 1) then TS a c (V3 a b) d true
 else bif decide (d.ZG > 1000) then TS a c (V3 a b) d true
 else bif decide (d.ZH < 0) then TS a c (V3 a b) d true
 else bif decide (d.ZH>=(a.ZU.length:Int)) then TS a c (V3 a b) d true
 else bif decide (c > 0) then (Z5 a.ZP (Z1 (c-1))).bind fun e =>
 TS a c (V3 a b) d (decide (d.ZF<=e.ZF))
 else TS a c (V3 a b) d false
 else ZeM
def Gz (N:Nat) (a:T8):Option Bool :=
 V3 a N 0
def Zfn:Option Bool :=
 some false
def TZ (a:List Int) (b:Int):Nat->Int->Option Bool
 | 0,_=>none
 | c+1,d =>
 bif decide (d < (a.length:Int)) then (Z5 a d).bind fun e =>
 bif e==b then some true
 else (TZ a b c) (Z1 (d+1))
 else Zfn
def G9 (N:Nat) (a:List Int) (b:Int):Option Bool :=
 TZ a b N 0
def Zbe (a:Int) (b:List Int) (c:Bool):Option (List Int) :=
 bif !c then (YT b ([a]:List Int)).bind fun d =>
 some d
 else some b
def SJ (a:List Int) (b:Int):Nat->(List Int)->Bool->Int->Option (List Int)
 | 0,_,_,_=>none
 | c+1,d,e,f =>
 bif decide (f < (a.length:Int)) then bif !e then (Z5 a f).bind fun g =>
 bif decide (g>=b) then (Z5 a f).bind fun h =>
 bif decide (h > b) then (YT d ([b]:List Int)).bind fun i =>
 (Z5 a f).bind fun j =>
 (YT i ([j]:List Int)).bind fun k =>
 (SJ a b c) k true (Z1 (f+1))
 else (Z5 a f).bind fun l =>
 (YT d ([l]:List Int)).bind fun m =>
 (SJ a b c) m true (Z1 (f+1))
 else (Z5 a f).bind fun o =>
 (YT d ([o]:List Int)).bind fun p =>
 (SJ a b c) p e (Z1 (f+1))
 else (Z5 a f).bind fun q =>
 (YT d ([q]:List Int)).bind fun r =>
 (SJ a b c) r e (Z1 (f+1))
 else Zbe b d e
def Da (N:Nat) (a:List Int) (b:Int):Option (List Int) :=
 SJ a b N ([]:List Int) false 0
def ZeN (a:List Int):Option (List Int) :=
 some a
def ZeO (a:Int) (b:List Int->Int->Option (List Int)) (c:List Int):Option (List Int) :=
 b c (Z1 (a+1))
def Qe (N:Nat) (a:T8) (b:Int) (c:List Int->Int->Option (List Int)):Nat->(List Int)->Int->Option (List Int)
 | 0,_,_=>none
 | d+1,e,f =>
 bif decide (f < (a.ZU.length:Int)) then (Z5 a.ZU f).bind fun g =>
 (G9 N e g.ZC).bind fun h =>
 bif h then (Z5 a.ZU f).bind fun i =>
 (Da N e i.To).bind fun j =>
 (Qe N a b c d) j (Z1 (f+1))
 else (Qe N a b c d) e (Z1 (f+1))
 else ZeO b c e
def SA (N:Nat) (a:T8):Nat->(List Int)->Int->Option (List Int)
 | 0,_,_=>none
 | b+1,c,d =>
 bif decide (d < a.ZL) then Qe N a d (SA N a b) N c 0
 else ZeN c
def z109 (N:Nat) (a:T8):Option (List Int) :=
 SA N a N ([a.ZM]:List Int) 0
def z46 (N:Nat) (a:T8):Option Bool :=
 (Gw N a).bind fun b =>
 bif b then (Gy N a).bind fun c =>
 bif c then (Gz N a).bind fun d =>
 bif d then (z109 N a).bind fun e =>
 some ((e.length:Int)==a.ZL)
 else some false
 else some false
 else some false
def ZfE:Option Bool :=
 some true
def Qw (a:T5) (b:T8):Nat->Int->Option Bool
 | 0,_=>none
 | c+1,d =>
 bif decide (d < (b.ZU.length:Int)) then (Z5 b.ZU d).bind fun e =>
 bif decide (e.ZR>=(a.ZI.length:Int)) then some false
 else (Z5 b.ZU d).bind fun f =>
 bif decide (f.ZD>=(a.ZJ.length:Int)) then some false
 else (Qw a b c) (Z1 (d+1))
 else ZfE
def Qv (N:Nat) (a:T5) (b:T8):Option Bool :=
 (z45 N a).bind fun c =>
 bif !c then some false
 else (z46 N b).bind fun d =>
 bif !d then some false
 else bif decide (b.ZS>=(a.ZI.length:Int)) then some false
 else Qw a b N 0
def DN (N:Nat) (a:List T0):Option (List T12) :=
 (Rt N a).bind fun b =>
 (Xs (⟨0,0,(str [])⟩:T12) b b).bind fun c =>
 some c
def z20 (N:Nat) (a:T5) (b:T8):Option Yt :=
 (Qv N a b).bind fun c =>
 bif !c then some (⟨0,([]:List T12),([]:List T12)⟩:Yt)
 else (DN N a.ZJ).bind fun d =>
 some (⟨b.ZM,d,([]:List T12)⟩:Yt)
def QN (N:Nat) (a:T12):Option Int :=
 bif a.Zt==2 then some (a.S.size:Int)
 else some a.N
def Rw (N:Nat) (a:YV) (b:T12) (c:Bool):Option Bool :=
 bif c then some false
 else bif b.Zt==a.Zt then (QN N b).bind fun d =>
 bif decide (d>=a.Lo) then (QN N b).bind fun e =>
 some (decide (e<=a.Hi))
 else some false
 else some false
def Lx (N:Nat) (a:YV) (b:T12):Option Bool :=
 bif b.Zt==2 then bif b.N != 0 then Rw N a b true
 else bif b.Zt==1 then Rw N a b (!(b.S.toList==(str []).toList))
 else Rw N a b false
 else bif b.Zt==1 then Rw N a b (!(b.S.toList==(str []).toList))
 else Rw N a b false
def PH (N:Nat) (a:YV) (b:T12):Nat->Int->Option Bool
 | 0,_=>none
 | c+1,d =>
 bif decide (d < (b.S.size:Int)) then (X7 b.S d).bind fun e =>
 bif decide (e < 32) then some false
 else (X7 b.S d).bind fun f =>
 bif decide (f > 126) then some false
 else (PH N a b c) (Z1 (d+1))
 else Lx N a b
def Lw (N:Nat) (a:YV) (b:T12):Option Bool :=
 PH N a b N 0
def Zga:Option Bool :=
 some true
def QG (N:Nat) (a:List T0) (b:List T12):Nat->Int->Option Bool
 | 0,_=>none
 | c+1,d =>
 bif decide (d < (b.length:Int)) then (Z5 b d).bind fun e =>
 bif !((e.Zt==0) && ((e.N==0) && ((e.S.toList==(str []).toList) && true))) then (Ly N a d).bind fun f =>
 (Z5 b d).bind fun g =>
 (Lw N f.Zv g).bind fun h =>
 bif !h then some false
 else (QG N a b c) (Z1 (d+1))
 else (QG N a b c) (Z1 (d+1))
 else Zga
def z66 (N:Nat) (a:List T0) (b:List T12):Option Bool :=
 (Rt N a).bind fun c =>
 bif (b.length:Int) != c then some false
 else QG N a b N 0
def Qz (N:Nat) (a:T5) (b:T8) (c:Yt):Option Bool :=
 (Qv N a b).bind fun d =>
 bif d then bif decide (c.At>=0) then bif decide (c.At < b.ZL) then (z66 N a.ZJ c.ZW).bind fun e =>
 some e
 else some false
 else some false
 else some false
def ZfW:Option Int :=
 some (-1)
def SY (a:T8) (b:Int) (c:T3):Nat->Int->Option Int
 | 0,_=>none
 | d+1,e =>
 bif decide (e < (a.ZU.length:Int)) then (Z5 a.ZU e).bind fun f =>
 bif f.ZC==b then bif f.ZQ==c.ZQ then bif f.ZR==c.ZR then bif f.ZD==c.ZD then some e
 else (SY a b c d) (Z1 (e+1))
 else (SY a b c d) (Z1 (e+1))
 else (SY a b c d) (Z1 (e+1))
 else (SY a b c d) (Z1 (e+1))
 else ZfW
def Hc (N:Nat) (a:T8) (b:Int) (c:T3):Option Int :=
 SY a b c N 0
def Dv (N:Nat) (a:YV):Option Bool :=
 bif a.Zt==1 then bif decide ((-1000)<=a.Lo) then bif decide (a.Lo<=a.Hi) then some (decide (a.Hi<=1000))
 else some false
 else some false
 else bif a.Zt==2 then bif decide (0<=a.Lo) then bif decide (a.Lo<=a.Hi) then some (decide (a.Hi<=40))
 else some false
 else some false
 else some false
def ZfH:Option Bool :=
 some true
def Qx (a:ByteArray):Nat->Int->Option Bool
 | 0,_=>none
 | b+1,c =>
 bif decide (c < (a.size:Int)) then (X7 a c).bind fun d =>
 bif decide (d < 32) then some false
 else (X7 a c).bind fun e =>
 bif decide (e > 126) then some false
 else (Qx a b) (Z1 (c+1))
 else ZfH
def DF (N:Nat) (a:ByteArray):Option Bool :=
 Qx a N 0
def Dw (N:Nat) (a:T12):Option Bool :=
 bif a.Zt==1 then bif decide (a.N>=(-1000)) then bif decide (a.N<=1000) then some (a.S.toList==(str []).toList)
 else some false
 else some false
 else bif a.Zt==2 then bif a.N==0 then bif decide ((a.S.size:Int)<=40) then (DF N a.S).bind fun b =>
 some b
 else some false
 else some false
 else some false
def LY (N:Nat) (a:T12):Option Int :=
 bif a.Zt==1 then some a.N
 else bif a.Zt==2 then some (a.S.size:Int)
 else some 0
def z171 (N:Nat) (a:YV) (b:T12):Option Bool :=
 (Dv N a).bind fun c =>
 bif c then (Dw N b).bind fun d =>
 bif d then bif a.Zt==b.Zt then (LY N b).bind fun e =>
 bif decide (e>=a.Lo) then (LY N b).bind fun f =>
 some (decide (f<=a.Hi))
 else some false
 else some false
 else some false
 else some false
def ZeQ:Option Bool :=
 some true
def PC (N:Nat) (a:List T4) (b:List T12):Nat->Int->Option Bool
 | 0,_=>none
 | c+1,d =>
 bif decide (d < (a.length:Int)) then (Z5 a d).bind fun e =>
 (Z5 b d).bind fun f =>
 (z171 N e.Zv f).bind fun g =>
 bif !g then some false
 else (PC N a b c) (Z1 (d+1))
 else ZeQ
def GA (N:Nat) (a:List T4) (b:List T12):Option Bool :=
 bif (a.length:Int) != (b.length:Int) then some false
 else PC N a b N 0
def DO (N:Nat) (a:T0) (b:List T12):Option Bool :=
 (GA N a.Zz b).bind fun c =>
 some c
def Tu (N:Nat) (a:List T0) (b:Int):Option Bool :=
 (LA N a).bind fun c =>
 bif c then bif decide (b>=0) then some (decide (b < (a.length:Int)))
 else some false
 else some false
def Hg (a:T0) (b:List T12):Option Bool :=
 some ((b.length:Int)==(a.Zz.length:Int))
def QI (N:Nat) (a:T0) (b:List T12):Nat->Int->Option Bool
 | 0,_=>none
 | c+1,d =>
 bif decide (d < (b.length:Int)) then bif decide (d < (a.Zz.length:Int)) then (Z5 a.Zz d).bind fun e =>
 (Z5 b d).bind fun f =>
 (Lw N e.Zv f).bind fun g =>
 bif !g then some false
 else (QI N a b c) (Z1 (d+1))
 else Hg a b
 else Hg a b
def z70 (N:Nat) (a:T0) (b:List T12):Option Bool :=
 QI N a b N 0
def Zgf (a:List T12):Option (List T12) :=
 some a
def Mi (a:T0) (b:List T12):Nat->(List T12)->Int->Option (List T12)
 | 0,_,_=>none
 | c+1,d,e =>
 bif decide (e < (b.length:Int)) then (Z5 b e).bind fun f =>
 (Z5 d (Z1 (a.ZA+e))).bind fun g =>
 (Mi a b c) (YA d (Z1 (a.ZA+e)) f) (Z1 (e+1))
 else Zgf d
def z72 (N:Nat) (a:T0) (b:List T12) (c:List T12):Option (List T12) :=
 (YT ([]:List T12) c).bind fun d =>
 Mi a b N d 0
def Zgd:Option Bool :=
 some true
def QJ (a:T6) (b:List T12):Nat->Int->Option Bool
 | 0,_=>none
 | c+1,d =>
 bif decide (d < (a.Zy.length:Int)) then (Z5 a.Zy d).bind fun e =>
 (Z5 b e.1).bind fun f =>
 (Z5 a.Zy d).bind fun g =>
 (Z5 b g.2).bind fun h =>
 bif f.Zt==0 then some false
 else bif h.Zt==0 then some false
 else bif !(f.S.toList==h.S.toList) then some false
 else (QJ a b c) (Z1 (d+1))
 else Zgd
def Zcf (N:Nat) (a:T6) (b:List T12):Option Bool :=
 QJ a b N 0
def Hj (a:List T12) (b:Int) (c:Int->Option Bool) (d:T1) (e:Int) (f:Int):Option Bool :=
 bif decide (d.X>=0) then (Z5 a d.X).bind fun g =>
 bif g.Zt==0 then some false
 else bif decide (d.Y>=0) then (Z5 a d.Y).bind fun h =>
 bif h.Zt==0 then some false
 else bif decide ((Z1 (e-f)) > d.C) then some false
 else c (Z1 (b+1))
 else bif decide ((Z1 (e-f)) > d.C) then some false
 else c (Z1 (b+1))
 else bif decide (d.Y>=0) then (Z5 a d.Y).bind fun i =>
 bif i.Zt==0 then some false
 else bif decide ((Z1 (e-f)) > d.C) then some false
 else c (Z1 (b+1))
 else bif decide ((Z1 (e-f)) > d.C) then some false
 else c (Z1 (b+1))
def Hk (N:Nat) (a:List T12) (b:Int) (c:Int->Option Bool) (d:T1) (e:Int):Option Bool :=
 bif decide (d.Y>=0) then (Z5 a d.Y).bind fun f =>
 (QN N f).bind fun g =>
 Hj a b c d e g
 else Hj a b c d e 0
def Sd (N:Nat) (a:T6) (b:List T12):Nat->Int->Option Bool
 | 0,_=>none
 | c+1,d =>
 bif decide (d < (a.Zw.length:Int)) then (Z5 a.Zw d).bind fun e =>
 bif decide (e.X>=0) then (Z5 b e.X).bind fun f =>
 (QN N f).bind fun g =>
 Hk N b d (Sd N a b c) e g
 else Hk N b d (Sd N a b c) e 0
 else Zcf N a b
def Hh (N:Nat) (a:T6) (b:List T12):Option Bool :=
 Sd N a b N 0
def z31 (N:Nat) (a:List T0) (b:Int) (c:List T12) (d:List T12):Option Bool :=
 (Tu N a b).bind fun e =>
 bif !e then some false
 else (z66 N a d).bind fun f =>
 bif !f then some false
 else (Z5 a b).bind fun g =>
 (z70 N g c).bind fun h =>
 bif !h then some false
 else (Z5 a b).bind fun i =>
 (Z5 a b).bind fun j =>
 (z72 N j c d).bind fun k =>
 (Hh N i.ZB k).bind fun l =>
 some l
def DP (N:Nat) (a:List T0) (b:Int) (c:List T12) (d:List T12):Option ((List T12) × Int) :=
 (Tu N a b).bind fun e =>
 bif !e then some (([]:List T12),1)
 else (z66 N a d).bind fun f =>
 bif !f then some (([]:List T12),1)
 else (Z5 a b).bind fun g =>
 (z70 N g c).bind fun h =>
 bif !h then some (([]:List T12),11)
 else (Z5 a b).bind fun i =>
 (z72 N i c d).bind fun j =>
 some (j,0)
def SP (N:Nat) (a:T5) (b:T8) (c:Yt) (d:T3) (e:Int) (f:Bool):Option (Yt × Int) :=
 bif f then some ((⟨0,([]:List T12),([]:List T12)⟩:Yt),17)
 else (Z5 b.ZU e).bind fun g =>
 (DP N a.ZJ d.ZD d.ZV c.ZW).bind fun h =>
 bif d.ZQ then (YT ([]:List T12) d.ZV).bind fun i =>
 some ((⟨g.To,h.1,i⟩:Yt),0)
 else some ((⟨g.To,h.1,([]:List T12)⟩:Yt),0)
def z22 (N:Nat) (a:T5) (b:T8) (c:Yt) (d:T3):Option (Yt × Int) :=
 (Qz N a b c).bind fun e =>
 bif !e then some ((⟨0,([]:List T12),([]:List T12)⟩:Yt),1)
 else (Hc N b c.At d).bind fun f =>
 bif d.ZS != b.ZS then some ((⟨0,([]:List T12),([]:List T12)⟩:Yt),12)
 else bif decide (f < 0) then some ((⟨0,([]:List T12),([]:List T12)⟩:Yt),23)
 else (Z5 a.ZJ d.ZD).bind fun g =>
 (DO N g d.ZV).bind fun h =>
 bif !h then some ((⟨0,([]:List T12),([]:List T12)⟩:Yt),11)
 else (z31 N a.ZJ d.ZD d.ZV c.ZW).bind fun i =>
 bif !i then SP N a b c d f true
 else (Z5 b.ZU f).bind fun j =>
 bif j.ZE then (Qp N d.ZV c.ZX).bind fun k =>
 SP N a b c d f (!k)
 else SP N a b c d f false
def Zgc (a:List T3) (b:Int) (c:List T12) (d:List T12):Option (Yt × Int × Int) :=
 some ((⟨b,c,d⟩:Yt),(a.length:Int),0)
def Mh (N:Nat) (a:T5) (b:T8) (c:List T3):Nat->Int->(List T12)->(List T12)->Int->Option (Yt × Int × Int)
 | 0,_,_,_,_=>none
 | d+1,e,f,g,h =>
 bif decide (h < (c.length:Int)) then (Z5 c h).bind fun i =>
 (z22 N a b (⟨e,f,g⟩:Yt) i).bind fun j =>
 bif j.2 != 0 then some ((⟨e,f,g⟩:Yt),h,j.2)
 else (Mh N a b c d) j.1.At j.1.ZW j.1.ZX (Z1 (h+1))
 else Zgc c e f g
def z6 (N:Nat) (a:T5) (b:T8) (c:List T3):Option (Yt × Int × Int) :=
 (z20 N a b).bind fun d =>
 (Qv N a b).bind fun e =>
 bif !e then some ((⟨0,([]:List T12),([]:List T12)⟩:Yt),0,1)
 else Mh N a b c N d.At d.ZW d.ZX 0
def z67 (N:Nat) (a:T8) (b:Int):Option Bool :=
 (z46 N a).bind fun c =>
 bif c then bif decide (b>=0) then some (decide (b < a.ZL))
 else some false
 else some false
def GN (N:Nat) (a:T9) (b:T9):Option Bool :=
 bif !(a.ZQ==b.ZQ) then some a.ZQ
 else bif a.ZR != b.ZR then some (decide (a.ZR < b.ZR))
 else some (decide (a.ZD < b.ZD))
def Zgb (a:List Int):Option (List Int) :=
 some a
def Hf (a:List Int) (b:Int) (c:List Int->Int->Option (List Int)) (d:Int):Option (List Int) :=
 (lsl a none (some d)).bind fun e =>
 (YT ([]:List Int) e).bind fun f =>
 (YT f ([b]:List Int)).bind fun g =>
 (lsl a (some d) none).bind fun h =>
 (YT g h).bind fun i =>
 c i (Z1 (b+1))
def QH (N:Nat) (a:T8) (b:List Int) (c:Int) (d:List Int->Int->Option (List Int)):Nat->Int->Option (List Int)
 | 0,_=>none
 | e+1,f =>
 bif decide (f < (b.length:Int)) then (Z5 a.ZU c).bind fun g =>
 (Z5 b f).bind fun h =>
 (Z5 a.ZU h).bind fun i =>
 (GN N g i).bind fun j =>
 bif !j then (QH N a b c d e) (Z1 (f+1))
 else Hf b c d f
 else Hf b c d f
def Sc (N:Nat) (a:T8) (b:Int):Nat->(List Int)->Int->Option (List Int)
 | 0,_,_=>none
 | c+1,d,e =>
 bif decide (e < (a.ZU.length:Int)) then (Z5 a.ZU e).bind fun f =>
 bif f.ZC != b then (Sc N a b c) d (Z1 (e+1))
 else QH N a d e (Sc N a b c) N 0
 else Zgb d
def z68 (N:Nat) (a:T8) (b:Int):Option (List Int) :=
 Sc N a b N ([]:List Int) 0
def DL (N:Nat) (a:T8) (b:Int):Option (List Int) :=
 (z67 N a b).bind fun c =>
 bif !c then some ([]:List Int)
 else (z68 N a b).bind fun d =>
 some d
def Zch (a:List T1):Option ((List T1) × Int) :=
 some (a,0)
def Mj (a:T0):Nat->(List T1)->Int->Option ((List T1) × Int)
 | 0,_,_=>none
 | b+1,c,d =>
 bif decide (d < (a.ZB.Zy.length:Int)) then (Z5 a.ZB.Zy d).bind fun e =>
 (Z5 a.ZB.Zy d).bind fun f =>
 (YT c ([(⟨e.1,f.2,0⟩:T1),(⟨f.2,e.1,0⟩:T1)]:List T1)).bind fun g =>
 (Mj a b) g (Z1 (d+1))
 else Zch c
def DV (N:Nat) (a:T0) (b:List T1):Option ((List T1) × Int) :=
 (YT b a.ZB.Zw).bind fun c =>
 Mj a N c 0
def QK (N:Nat) (a:T0):Nat->(List T1)->Int->Option ((List T1) × Int)
 | 0,_,_=>none
 | b+1,c,d =>
 bif decide (d < (a.Zz.length:Int)) then (Z5 a.Zz d).bind fun e =>
 (Z5 a.Zz d).bind fun f =>
 (YT c ([(⟨(Z1 (a.ZA+d)),(-1),e.Zv.Hi⟩:T1),(⟨(-1),(Z1 (a.ZA+d)),(Z1 (0-f.Zv.Lo))⟩:T1)]:List T1)).bind fun g =>
 (QK N a b) g (Z1 (d+1))
 else DV N a c
def z73 (N:Nat) (a:List T0) (b:Int):Option ((List T1) × Int) :=
 (Tu N a b).bind fun c =>
 bif !c then some (([]:List T1),1)
 else (Z5 a b).bind fun d =>
 QK N d N ([]:List T1) 0
def S4 (N:Nat) (a:T0) (b:Int):Option Bool :=
 bif decide (b>=a.ZA) then some (decide (b < (Z1 (a.ZA+(a.Zz.length:Int)))))
 else some false
def Hl (N:Nat) (a:T0) (b:List T12) (c:Int):Option Bool :=
 bif decide (c>=0) then (S4 N a c).bind fun d =>
 bif !d then (Z5 b c).bind fun e =>
 some (e.Zt==0)
 else some false
 else some false
def Zgg (a:List ByteArray) (b:List Bool):Option ((List ByteArray) × (List Bool) × Bool) :=
 some (a,b,true)
def Zgh (a:Int) (b:List ByteArray->(List Bool)->Int->Option ((List ByteArray) × (List Bool) × Bool)) (c:List ByteArray) (d:List Bool):Option ((List ByteArray) × (List Bool) × Bool) :=
 b c d (Z1 (a+1))
def Zci (a:Int) (b:List ByteArray->(List Bool)->Int->Option ((List ByteArray) × (List Bool) × Bool)) (c:List ByteArray) (d:List Bool):Option ((List ByteArray) × (List Bool) × Bool) :=
 b c d (Z1 (a+1))
def S3 (a:T0) (b:List ByteArray) (c:List Bool) (d:Int) (e:List ByteArray->(List Bool)->Int->Option ((List ByteArray) × (List Bool) × Bool)) (f:Int) (g:ByteArray) (h:Bool) (i:Bool):Option ((List ByteArray) × (List Bool) × Bool) :=
 bif i then some (([]:List ByteArray),([]:List Bool),false)
 else bif h then (Z5 b (Z1 (f-a.ZA))).bind fun j =>
 (Z5 c (Z1 (f-a.ZA))).bind fun k =>
 e (YA b (Z1 (f-a.ZA)) g) (YA c (Z1 (f-a.ZA)) true) (Z1 (d+1))
 else e b c (Z1 (d+1))
def QL (a:T0) (b:List ByteArray) (c:List Bool) (d:Int) (e:List ByteArray->(List Bool)->Int->Option ((List ByteArray) × (List Bool) × Bool)) (f:Int) (g:ByteArray) (h:Bool):Option ((List ByteArray) × (List Bool) × Bool) :=
 bif h then (Z5 c (Z1 (f-a.ZA))).bind fun i =>
 bif i then (Z5 b (Z1 (f-a.ZA))).bind fun j =>
 S3 a b c d e f g h (!(j.toList==g.toList))
 else S3 a b c d e f g h false
 else S3 a b c d e f g h false
def RH (N:Nat) (a:T0) (b:List T12) (c:List ByteArray) (d:List Bool) (e:Int) (f:List ByteArray->(List Bool)->Int->Option ((List ByteArray) × (List Bool) × Bool)) (g:Int) (h:Int):Option ((List ByteArray) × (List Bool) × Bool) :=
 (S4 N a g).bind fun i =>
 bif !i then f c d (Z1 (e+1))
 else (S4 N a h).bind fun j =>
 bif j then (Z5 c (Z1 (h-a.ZA))).bind fun k =>
 (Z5 d (Z1 (h-a.ZA))).bind fun l =>
 QL a c d e f g k l
 else (Z5 b h).bind fun m =>
 QL a c d e f g m.S true
def VO (N:Nat) (a:T0) (b:List T12) (c:Int) (d:List ByteArray->(List Bool)->Int->Option ((List ByteArray) × (List Bool) × Bool)):Nat->(List ByteArray)->(List Bool)->Int->Option ((List ByteArray) × (List Bool) × Bool)
 | 0,_,_,_=>none
 | e+1,f,g,h =>
 bif decide (h < 2) then (Z5 a.ZB.Zy c).bind fun i =>
 bif h==0 then (Z5 a.ZB.Zy c).bind fun j =>
 bif (Z1 (1-h))==0 then RH N a b f g h (VO N a b c d e) i.1 j.1
 else bif (Z1 (1-h))==1 then RH N a b f g h (VO N a b c d e) i.1 j.2
 else none
 else bif h==1 then (Z5 a.ZB.Zy c).bind fun k =>
 bif (Z1 (1-h))==0 then RH N a b f g h (VO N a b c d e) i.2 k.1
 else bif (Z1 (1-h))==1 then RH N a b f g h (VO N a b c d e) i.2 k.2
 else none
 else none
 else Zci c d f g
def Ul (N:Nat) (a:T0) (b:List T12) (c:Int) (d:List ByteArray->(List Bool)->Int->Option ((List ByteArray) × (List Bool) × Bool)):Nat->(List ByteArray)->(List Bool)->Int->Option ((List ByteArray) × (List Bool) × Bool)
 | 0,_,_,_=>none
 | e+1,f,g,h =>
 bif decide (h < (a.ZB.Zy.length:Int)) then VO N a b h (Ul N a b c d e) N f g 0
 else Zgh c d f g
def VA (N:Nat) (a:T0) (b:List T12):Nat->(List ByteArray)->(List Bool)->Int->Option ((List ByteArray) × (List Bool) × Bool)
 | 0,_,_,_=>none
 | c+1,d,e,f =>
 bif decide (f<=(a.Zz.length:Int)) then Ul N a b f (VA N a b c) N d e 0
 else Zgg d e
def z75 (N:Nat) (a:T0) (b:List T12):Option ((List ByteArray) × (List Bool) × Bool) :=
 (Xs (str []) (a.Zz.length:Int) (a.Zz.length:Int)).bind fun c =>
 (Xs false (a.Zz.length:Int) (a.Zz.length:Int)).bind fun d =>
 VA N a b N c d 0
def LB (N:Nat) (a:Int) (b:Int):Option Int :=
 bif a==b then some 0
 else bif a==0 then some 10000
 else bif b==0 then some 10000
 else some 20000
def Zcj (a:Int) (b:List Int):Option (Yi × Int) :=
 some ((⟨a,b⟩:Yi),0)
def DW (a:Int) (b:List Int->Int->Option (Yi × Int)) (c:List Int):Option (Yi × Int) :=
 b c (Z1 (a+1))
def Mk (N:Nat) (a:Int) (b:Int) (c:List Int->Int->Option (Yi × Int)):Nat->(List Int)->Int->Option (Yi × Int)
 | 0,_,_=>none
 | d+1,e,f =>
 bif decide (f<=a) then (LB N b f).bind fun g =>
 (YT e ([g]:List Int)).bind fun h =>
 (Mk N a b c d) h (Z1 (f+1))
 else DW b c e
def Se (N:Nat) (a:Int):Nat->(List Int)->Int->Option (Yi × Int)
 | 0,_,_=>none
 | b+1,c,d =>
 bif decide (d<=a) then Mk N a d (Se N a b) N c 0
 else Zcj a c
def z76 (N:Nat) (a:Int):Option (Yi × Int) :=
 bif decide (a < 0) then some ((⟨0,([]:List Int)⟩:Yi),2)
 else bif decide (a > 24) then some ((⟨0,([]:List Int)⟩:Yi),2)
 else Se N a N ([]:List Int) 0
def Ze0:Option Bool :=
 some true
def Qm (a:Yi):Nat->Int->Option Bool
 | 0,_=>none
 | b+1,c =>
 bif decide (c < (a.B.length:Int)) then (Z5 a.B c).bind fun d =>
 bif decide (d < (-20001)) then some false
 else (Z5 a.B c).bind fun e =>
 bif decide (e > 20000) then some false
 else (Qm a b) (Z1 (c+1))
 else Ze0
def LC (N:Nat) (a:Yi):Option Bool :=
 bif decide (a.N < 0) then some false
 else bif decide (a.N > 24) then some false
 else bif (a.B.length:Int) != (Z1 ((Z1 (a.N+1)) * (Z1 (a.N+1)))) then some false
 else Qm a N 0
def GR (N:Nat) (a:Yi) (b:Int):Option Bool :=
 bif decide (b>=(-1)) then some (decide (b < a.N))
 else some false
def z77 (N:Nat) (a:Yi) (b:T1):Option (Yi × Int) :=
 (LC N a).bind fun c =>
 bif !c then some ((⟨0,([]:List Int)⟩:Yi),1)
 else (GR N a b.X).bind fun d =>
 bif !d then some ((⟨0,([]:List Int)⟩:Yi),2)
 else (GR N a b.Y).bind fun e =>
 bif !e then some ((⟨0,([]:List Int)⟩:Yi),2)
 else (YT ([]:List Int) a.B).bind fun f =>
 (Z5 f (Z1 ((Z1 ((Z1 ((Z1 (b.X+1)) * (Z1 (a.N+1))))+b.Y))+1))).bind fun g =>
 (Z5 f (Z1 ((Z1 ((Z1 ((Z1 (b.X+1)) * (Z1 (a.N+1))))+b.Y))+1))).bind fun h =>
 some ((⟨a.N,(YA f (Z1 ((Z1 ((Z1 ((Z1 (b.X+1)) * (Z1 (a.N+1))))+b.Y))+1)) (YG g (Yy b.C (-20001))))⟩:Yi),0)
def Ze1 (a:Yi) (b:List Int):Option (Yi × Bool) :=
 some ((⟨a.N,b⟩:Yi),true)
def Qo (a:Yi) (b:List Int):Nat->Int->Option (Yi × Bool)
 | 0,_=>none
 | c+1,d =>
 bif decide (d < (Z1 (a.N+1))) then (Z5 b (Z1 ((Z1 (d * (Z1 (a.N+1))))+d))).bind fun e =>
 bif decide (e < 0) then some ((⟨0,([]:List Int)⟩:Yi),false)
 else (Qo a b c) (Z1 (d+1))
 else Ze1 a b
def LD (N:Nat) (a:Yi) (b:List Int):Option (Yi × Bool) :=
 Qo a b N 0
def GU (a:Int) (b:List Int->Int->Option (Yi × Bool)) (c:List Int):Option (Yi × Bool) :=
 b c (Z1 (a+1))
def ZaT (a:Int) (b:List Int->Int->Option (Yi × Bool)) (c:List Int):Option (Yi × Bool) :=
 b c (Z1 (a+1))
def PL (a:Yi) (b:Int) (c:Int) (d:List Int->Int->Option (Yi × Bool)):Nat->(List Int)->Int->Option (Yi × Bool)
 | 0,_,_=>none
 | e+1,f,g =>
 bif decide (g < (Z1 (a.N+1))) then (Z5 f (Z1 ((Z1 (c * (Z1 (a.N+1))))+g))).bind fun h =>
 (Z5 f (Z1 ((Z1 (c * (Z1 (a.N+1))))+b))).bind fun i =>
 (Z5 f (Z1 ((Z1 (b * (Z1 (a.N+1))))+g))).bind fun j =>
 (Z5 f (Z1 ((Z1 (c * (Z1 (a.N+1))))+g))).bind fun k =>
 (PL a b c d e) (YA f (Z1 ((Z1 (c * (Z1 (a.N+1))))+g)) (YG h (Yy (-20001) (Z1 (i+j))))) (Z1 (g+1))
 else ZaT c d f
def Tl (N:Nat) (a:Yi) (b:Int) (c:List Int->Int->Option (Yi × Bool)):Nat->(List Int)->Int->Option (Yi × Bool)
 | 0,_,_=>none
 | d+1,e,f =>
 bif decide (f < (Z1 (a.N+1))) then PL a b f (Tl N a b c d) N e 0
 else GU b c e
def Tk (N:Nat) (a:Yi):Nat->(List Int)->Int->Option (Yi × Bool)
 | 0,_,_=>none
 | b+1,c,d =>
 bif decide (d < (Z1 (a.N+1))) then Tl N a d (Tk N a b) N c 0
 else LD N a c
def ZaU (N:Nat) (a:Yi) (b:List Int):Option (Yi × Bool) :=
 Tk N a N b 0
def GS (a:Int) (b:List Int->Int->Option (Yi × Bool)) (c:List Int):Option (Yi × Bool) :=
 b c (Z1 (a+1))
def PK (N:Nat) (a:Yi) (b:Int) (c:List Int->Int->Option (Yi × Bool)):Nat->(List Int)->Int->Option (Yi × Bool)
 | 0,_,_=>none
 | d+1,e,f =>
 bif decide (f < (Z1 (a.N+1))) then (Z5 e (Z1 ((Z1 (b * (Z1 (a.N+1))))+f))).bind fun g =>
 (LB N b f).bind fun h =>
 (Z5 e (Z1 ((Z1 (b * (Z1 (a.N+1))))+f))).bind fun i =>
 (PK N a b c d) (YA e (Z1 ((Z1 (b * (Z1 (a.N+1))))+f)) (YG g h)) (Z1 (f+1))
 else GS b c e
def TW (N:Nat) (a:Yi):Nat->(List Int)->Int->Option (Yi × Bool)
 | 0,_,_=>none
 | b+1,c,d =>
 bif decide (d < (Z1 (a.N+1))) then PK N a d (TW N a b) N c 0
 else ZaU N a c
def Qn (N:Nat) (a:Yi):Option (Yi × Bool) :=
 (LC N a).bind fun b =>
 bif !b then some ((⟨0,([]:List Int)⟩:Yi),false)
 else (YT ([]:List Int) a.B).bind fun c =>
 TW N a N c 0
def Zgi (a:List Int):Option ((List Int) × Bool) :=
 some (a,true)
def Ml (N:Nat) (a:Yi):Nat->Int->(List Int)->(List Int)->Int->Option ((List Int) × Bool)
 | 0,_,_,_,_=>none
 | b+1,c,d,e,f =>
 bif decide (f < a.N) then (Z5 d (Z1 (f+1))).bind fun g =>
 (YT e ([(Z1 (0-g))]:List Int)).bind fun h =>
 (z77 N (⟨c,d⟩:Yi) (⟨f,(-1),(Z1 (0-g))⟩:T1)).bind fun i =>
 (Qn N i.1).bind fun j =>
 (Ml N a b) j.1.N j.1.B h (Z1 (f+1))
 else Zgi e
def Hn (N:Nat) (a:Yi):Option ((List Int) × Bool) :=
 (Qn N a).bind fun b =>
 bif !b.2 then some (([]:List Int),false)
 else Ml N a N b.1.N b.1.B ([]:List Int) 0
def Zgj (a:ByteArray):Option ByteArray :=
 some a
def Mm (a:Int):Nat->ByteArray->Int->Option ByteArray
 | 0,_,_=>none
 | b+1,c,d =>
 bif decide (d < a) then (YK c (str [97])).bind fun e =>
 (Mm a b) e (Z1 (d+1))
 else Zgj c
def z81 (N:Nat) (a:Int):Option ByteArray :=
 Mm a N (str []) 0
def L6 (N:Nat) (a:List T12) (b:T0) (c:List T12):Option ((List T12) × Bool) :=
 (z72 N b c a).bind fun d =>
 (Hh N b.ZB d).bind fun e =>
 bif !e then some (([]:List T12),false)
 else some (c,true)
def SU (N:Nat) (a:List T12) (b:T0) (c:List ByteArray × (List Bool) × Bool) (d:List Int × Bool):Nat->(List T12)->Int->Option ((List T12) × Bool)
 | 0,_,_=>none
 | e+1,f,g =>
 bif decide (g < (b.Zz.length:Int)) then (Z5 b.Zz g).bind fun h =>
 bif h.Zv.Zt==1 then (Z5 d.1 (Z1 (b.ZA+g))).bind fun i =>
 (YT f ([(⟨h.Zv.Zt,i,(str [])⟩:T12)]:List T12)).bind fun j =>
 (SU N a b c d e) j (Z1 (g+1))
 else (Z5 c.2.1 g).bind fun k =>
 bif k then (Z5 c.1 g).bind fun l =>
 (YT f ([(⟨h.Zv.Zt,0,l⟩:T12)]:List T12)).bind fun m =>
 (SU N a b c d e) m (Z1 (g+1))
 else (Z5 d.1 (Z1 (b.ZA+g))).bind fun o =>
 (z81 N o).bind fun p =>
 (YT f ([(⟨h.Zv.Zt,0,p⟩:T12)]:List T12)).bind fun q =>
 (SU N a b c d e) q (Z1 (g+1))
 else L6 N a b f
def QA (N:Nat) (a:List T12) (b:T0) (c:List ByteArray × (List Bool) × Bool) (d:Int) (e:List Int):Option ((List T12) × Bool) :=
 (Hn N (⟨d,e⟩:Yi)).bind fun f =>
 bif !f.2 then some (([]:List T12),false)
 else SU N a b c f N ([]:List T12) 0
def Zb0 (N:Nat) (a:Int) (b:List Int) (c:Int) (d:Int->(List Int)->Int->Option ((List T12) × Bool)) (e:Int) (f:Bool):Option ((List T12) × Bool) :=
 bif f then (z77 N (⟨a,b⟩:Yi) (⟨c,(-1),e⟩:T1)).bind fun g =>
 (z77 N g.1 (⟨(-1),c,(Z1 (0-e))⟩:T1)).bind fun h =>
 d h.1.N h.1.B (Z1 (c+1))
 else d a b (Z1 (c+1))
def L7 (N:Nat) (a:Int) (b:List Int) (c:Int) (d:Int->(List Int)->Int->Option ((List T12) × Bool)) (e:Int) (f:Bool):Option ((List T12) × Bool) :=
 bif f then (z77 N (⟨a,b⟩:Yi) (⟨c,(-1),e⟩:T1)).bind fun g =>
 (z77 N g.1 (⟨(-1),c,(Z1 (0-e))⟩:T1)).bind fun h =>
 d h.1.N h.1.B (Z1 (c+1))
 else d a b (Z1 (c+1))
def Wz (N:Nat) (a:List T12) (b:T0) (c:List ByteArray × (List Bool) × Bool):Nat->Int->(List Int)->Int->Option ((List T12) × Bool)
 | 0,_,_,_=>none
 | d+1,e,f,g =>
 bif decide (g < (a.length:Int)) then (Z5 a g).bind fun h =>
 (QN N h).bind fun i =>
 (S4 N b g).bind fun j =>
 bif !j then (Z5 a g).bind fun k =>
 (S4 N b g).bind fun l =>
 bif l then (Z5 c.2.1 (Z1 (g-b.ZA))).bind fun m =>
 bif m then (Z5 c.1 (Z1 (g-b.ZA))).bind fun o =>
 Zb0 N e f g (Wz N a b c d) (o.size:Int) true
 else Zb0 N e f g (Wz N a b c d) i (k.Zt != 0)
 else bif k.Zt != 0 then (z77 N (⟨e,f⟩:Yi) (⟨g,(-1),i⟩:T1)).bind fun p =>
 (z77 N p.1 (⟨(-1),g,(Z1 (0-i))⟩:T1)).bind fun q =>
 (Wz N a b c d) q.1.N q.1.B (Z1 (g+1))
 else (Wz N a b c d) e f (Z1 (g+1))
 else (S4 N b g).bind fun r =>
 bif r then (Z5 c.2.1 (Z1 (g-b.ZA))).bind fun s =>
 bif s then (Z5 c.1 (Z1 (g-b.ZA))).bind fun t =>
 L7 N e f g (Wz N a b c d) (t.size:Int) true
 else L7 N e f g (Wz N a b c d) i false
 else (Wz N a b c d) e f (Z1 (g+1))
 else QA N a b c e f
def L8 (N:Nat) (a:List T12) (b:T0) (c:List ByteArray × (List Bool) × Bool) (d:Int) (e:List Int):Option ((List T12) × Bool) :=
 Wz N a b c N d e 0
def QC (N:Nat) (a:List T12) (b:T0) (c:List T1 × Int) (d:List ByteArray × (List Bool) × Bool):Nat->Int->(List Int)->Int->Option ((List T12) × Bool)
 | 0,_,_,_=>none
 | e+1,f,g,h =>
 bif decide (h < (c.1.length:Int)) then (Z5 c.1 h).bind fun i =>
 (z77 N (⟨f,g⟩:Yi) i).bind fun j =>
 (QC N a b c d e) j.1.N j.1.B (Z1 (h+1))
 else L8 N a b d f g
def L9 (N:Nat) (a:List T12) (b:T0) (c:List T1 × Int):Option ((List T12) × Bool) :=
 (z75 N b a).bind fun d =>
 bif !d.2.2 then some (([]:List T12),false)
 else (z76 N (a.length:Int)).bind fun e =>
 QC N a b c d N e.1.N e.1.B 0
def SS (N:Nat) (a:List T12) (b:T0) (c:List T1 × Int):Nat->Int->Option ((List T12) × Bool)
 | 0,_=>none
 | d+1,e =>
 bif decide (e < (c.1.length:Int)) then (Z5 c.1 e).bind fun f =>
 (Hl N b a f.X).bind fun g =>
 bif g then some (([]:List T12),false)
 else (Z5 c.1 e).bind fun h =>
 (Hl N b a h.Y).bind fun i =>
 bif i then some (([]:List T12),false)
 else (SS N a b c d) (Z1 (e+1))
 else L9 N a b c
def V5 (N:Nat) (a:List T0) (b:Int) (c:List T12):Option ((List T12) × Bool) :=
 (Tu N a b).bind fun d =>
 bif !d then some (([]:List T12),false)
 else (z66 N a c).bind fun e =>
 bif !e then some (([]:List T12),false)
 else (Z5 a b).bind fun f =>
 (z73 N a b).bind fun g =>
 SS N c f g N 0
def Zcr (a:List T3):Option (List T3) :=
 some a
def Tv (N:Nat) (a:T5) (b:T8) (c:Yt) (d:List Int):Nat->(List T3)->Int->Option (List T3)
 | 0,_,_=>none
 | e+1,f,g =>
 bif decide (g < (d.length:Int)) then (Z5 d g).bind fun h =>
 (Z5 b.ZU h).bind fun i =>
 (z31 N a.ZJ i.ZD c.ZX c.ZW).bind fun j =>
 bif !i.ZE then (V5 N a.ZJ i.ZD c.ZW).bind fun k =>
 bif k.2 then (YT f ([(⟨b.ZS,i.ZQ,i.ZR,i.ZD,k.1⟩:T3)]:List T3)).bind fun l =>
 (Tv N a b c d e) l (Z1 (g+1))
 else (Tv N a b c d e) f (Z1 (g+1))
 else bif j then (YT f ([(⟨b.ZS,i.ZQ,i.ZR,i.ZD,c.ZX⟩:T3)]:List T3)).bind fun m =>
 (Tv N a b c d e) m (Z1 (g+1))
 else (Tv N a b c d e) f (Z1 (g+1))
 else Zcr f
def z9 (N:Nat) (a:T5) (b:T8) (c:Yt):Option (List T3) :=
 (Qz N a b c).bind fun d =>
 bif !d then some ([]:List T3)
 else (DL N b c.At).bind fun e =>
 Tv N a b c e N ([]:List T3) 0
def Zf9:Option Bool :=
 some true
def Mg (a:List T12) (b:List T12):Nat->Int->Option Bool
 | 0,_=>none
 | c+1,d =>
 bif decide (d < (a.length:Int)) then (Z5 a d).bind fun e =>
 (Z5 b d).bind fun f =>
 bif !((e.Zt==f.Zt) && ((e.N==f.N) && ((e.S.toList==f.S.toList) && true))) then some false
 else (Mg a b c) (Z1 (d+1))
 else Zf9
def DU (N:Nat) (a:List T12) (b:List T12):Option Bool :=
 bif (a.length:Int) != (b.length:Int) then some false
 else Mg a b N 0
def DK (N:Nat) (a:T3) (b:T3):Option Bool :=
 bif a.ZS==b.ZS then bif a.ZQ==b.ZQ then bif a.ZR==b.ZR then bif a.ZD==b.ZD then (DU N a.ZV b.ZV).bind fun c =>
 some c
 else some false
 else some false
 else some false
 else some false
def Zgp:Option Bool :=
 some true
def Mo (N:Nat) (a:List T3) (b:List T3):Nat->Int->Option Bool
 | 0,_=>none
 | c+1,d =>
 bif decide (d < (a.length:Int)) then (Z5 a d).bind fun e =>
 (Z5 b d).bind fun f =>
 (DK N e f).bind fun g =>
 bif !g then some false
 else (Mo N a b c) (Z1 (d+1))
 else Zgp
def z8 (N:Nat) (a:List T3) (b:List T3):Option Bool :=
 bif (a.length:Int) != (b.length:Int) then some false
 else Mo N a b N 0
def Qb (N:Nat) (a:T5) (b:T8) (c:Yt) (d:T3):Option (Yt × Int) :=
 (UB N a b c).bind fun e =>
 bif !e then some ((⟨0,([]:List T12),([]:List T12)⟩:Yt),1)
 else (SX N a b c d).bind fun f =>
 some (f.1,f.2)
def ZdI:Option Bool :=
 some true
def Pc (N:Nat) (a:T5) (b:T8) (c:Yt × Int × Int) (d:List T3):Nat->Int->Option Bool
 | 0,_=>none
 | e+1,f =>
 bif decide (f < (d.length:Int)) then (Z5 d f).bind fun g =>
 (Qb N a b c.1 g).bind fun h =>
 bif h.2 != 0 then some false
 else (Pc N a b c d e) (Z1 (f+1))
 else ZdI
def Rk (N:Nat) (a:T5) (b:T8) (c:List T3):Option Bool :=
 (z4 N).bind fun d =>
 bif !d then some false
 else (z5 N a b c).bind fun e =>
 bif !e then some true
 else (z6 N a b c).bind fun f =>
 (z7 N a b f.1).bind fun g =>
 (z9 N a b f.1).bind fun h =>
 (z8 N g h).bind fun i =>
 bif !i then some false
 else Pc N a b f g N 0
end Gx
end
