/- What each function of the statement computes, as plain definitions. -/
import Derived.Test.YtploppegiebboaaGreatDoorFlowApartCore5
set_option linter.all false
open Nat renaming beq→aF,ble→aY
open ByteArray renaming empty→ao
open Go.Utf8 renaming encode→bE,decode→dD
open UInt8 renaming ofNat→gZ
section
open Go Go.Kx
namespace Gx
def SX:Nat->Nat->List UInt8
 |0,_=>[]
 |f+1,u=>bif Nat.blt u 10 then [gZ (48+u)] else SX f (u/10)++[gZ (48+u%10)]
def RU(n:Int):be:=⟨(bif decide (n<0) then 45::SX 25 n.natAbs else SX 25 n.toNat).toArray⟩
def Vv(sep:List UInt8):List (List UInt8)->List UInt8
 | []=>[]
 |x::r=>x++(r.map (sep++·)).flatten
structure T7 where
  Zt:Int
  Lo:Int
  Hi:Int
structure T3 where
  Zu:be
  Zv:T7
structure Y5 where
  Zt:Int
  Zw:be
  Field:be
  N:Int
structure LH where
  Zx:Y5
  Op:be
  Zy:Y5
structure Vg where
  Zu:be
  Zz:List T3
  ZA:List LH
structure Xq where
  Zt:Int
  ZB:be
  To:List be
  Zu:be
  As:be
  ZC:Int
  ZD:(List (List Xq))
structure Xp where
  Zu:be
  ZE:List be
  ZF:List Vg
  ZG:List Xq
structure Xv where
  Zx:Y5
  Op:be
  Zy:Y5
structure Ys where
  Zu:be
  Zz:List T3
  ZA:List Xv
structure Yj where
  Zt:Int
  ZB:be
  To:List be
  Zu:be
  As:be
  ZC:Int
  ZD:(List (List Yj))
structure Yl where
  Zu:be
  ZE:List be
  ZF:List Ys
  ZG:List Yj
structure YO where
  Zt:Int
  ZH:be
  Value:Int
  ZB:Int
structure Y4 where
  s':be
  ZI:Int
structure Yw where
  l':List YO
  n':Int
  end':Int
  ZI:Int
  ZJ:Int
structure YG where
  Builder:be
  ZK:Int
structure T1 where
  X:Int
  Y:Int
  C:Int
structure T5 where
  ZL:List T1
  ZM:(List (Int×Int))
structure T0 where
  Zu:be
  Zz:List T3
  ZN:Int
  ZO:T5
structure T6 where
  ZB:Int
  To:Int
  ZP:Int
structure T2 where
  ZB:Int
  Act:T6
  To:Int
  Again:Bool
structure T8 where
  ZQ:Int
  ZC:Int
  ZR:Int
structure T4 where
  Zu:be
  ZE:List be
  ZS:List T0
  ZT:Int
  ZU:Int
  ZV:Int
  ZW:List T2
  ZX:List T8
structure Y6 where
  ZY:be
  Zu:be
  ZZ:Int
structure Yp where
  Z2:List Yl
  p':Yl
  Z3:List be
  Z4:Y6
structure YT where
  Z5:be
  Z6:Bool
  Z7:Bool
structure Vs where
  x':Int
  n':Int
structure T9 where
  Z8:T6
  to':Int
  again':Bool
structure V7 where
  Z9:Int
  ticks':Int
  Ya:Int
structure YU where
  Yb:List Int
  Yc:List T9
  Yd:List V7
structure X5 where
  p':Yl
  Ye:List YU
structure YM where
  set':List Int
  end':Bool
  again':Bool
  ticks':Int
  other':T6
  acts':List T6
  to':List Int
structure YX where
  set':List Int
  end':Bool
  again':Bool
  ticks':Int
  other':T6
  acts':List T6
  to':(Option (List Int))
def Bl(N:Nat)(a:be)(b:Int):Option Int:=
 some (Zfm a b)
def B8(N:Nat)(a:be)(b:Int):Option Int:=
 (Bl N a b).bind fun c=>
 some c
def ZgV(N:Nat)(a:Int):Option Bool:=
 bif decide (0<=a) then bif decide (a<55296) then some true
 else bif decide (57343<a) then bif decide (a<=1114111) then some true
 else some false
 else some false
 else bif decide (57343<a) then bif decide (a<=1114111) then some true
 else some false
 else some false
def ZgJ(a:Nat):Option Int:=
 some (-1)
def Zcz(a:be):Nat->Nat->Option Int
 |0,_=>none
 |b+1,c=>
 bif decide (c<a.size) then bif ((dD a c).1:Int)==65533 then some ((c:Nat):Int)
 else (Zcz a b) (c+(dD a c).2)
 else ZgJ c
def ZgK:Option Int:=
 some (-1)
def ZgL(a:Int)(b:Int):Option Int:=
 some (Yh (b-(Yh (((bE a).size:Int)-1))))
def ZcA(a:be)(b:Int)(c:Int):Nat->Int->Option Int
 |0,_=>none
 |d+1,e=>
 bif decide (e<((bE b).size:Int)) then (XM a (Yh (c-e))).bind fun f=>
 (XM (bE b) (Yh ((Yh (((bE b).size:Int)-1))-e))).bind fun g=>
 bif f != g then ZaQ 0
 else (ZcA a b c d) (Yh (e+1))
 else ZgL b c
def Zcx(N:Nat)(a:be)(b:Int)(c:Int):Option Int:=
 ZcA a b c N 1
def ZgM(N:Nat)(a:be)(b:Int):Nat->Option Int
 |0=>none
 |c+1=>
 bif decide ((Yh (((bE b).size:Int)-1))<(a.size:Int)) then (XM a (Yh (((bE b).size:Int)-1))).bind fun d=>
 (XM (bE b) (Yh (((bE b).size:Int)-1))).bind fun e=>
 bif d != e then (ssl a (some (Yh ((Yh (((bE b).size:Int)-1))+1))) none).bind fun f=>
 (XM (bE b) (Yh (((bE b).size:Int)-1))).bind fun g=>
 (B8 N f g).bind fun h=>
 bif decide (h<0) then some (-1)
 else Zcx N a b (Yh ((Yh (((bE b).size:Int)-1))+(Yh (h+1))))
 else Zcx N a b (Yh (((bE b).size:Int)-1))
 else ZgK
def Zcy(N:Nat)(a:be)(b:Int)(c:Bool):Option Int:=
 bif c then (B8 N a (wk .u8 (b))).bind fun d=>
 some d
 else bif b==65533 then Zcz a N (0:Nat)
 else (ZgV N b).bind fun e=>
 bif !e then some (-1)
 else ZgM N a b N
def ZgI(N:Nat)(a:be)(b:Int):Option Int:=
 bif decide (0<=b) then Zcy N a b (decide (b<128))
 else Zcy N a b false
def z71(N:Nat)(a:be)(b:Int):Option Bool:=
 (ZgI N a b).bind fun c=>
 some (decide (c>=0))
def ZgN(N:Nat)(a:be)(b:be):Option Bool:=
 bif decide ((a.size:Int)>=(b.size:Int)) then (ssl a none (some (b.size:Int))).bind fun c=>
 some (c.toList==b.toList)
 else some false
def z72(N:Nat)(a:be)(b:be):Option Bool:=
 (ZgN N a b).bind fun c=>
 some c
def Zg7(a:Y4)(b:Int):Option Y4:=
 some (⟨a.s',b⟩:Y4)
def Gn(N:Nat)(a:Y4):Nat->Int->Option Y4
 |0,_=>none
 |b+1,c=>
 bif decide (c<(a.s'.size:Int)) then (ssl a.s' (some c) none).bind fun d=>
 (XM d 0).bind fun e=>
 (z71 N (str [32,9,10,13]) (wk .i32 (e))).bind fun f=>
 bif f then (Gn N a b) (Yh (c+1))
 else (z72 N d (str [47,47])).bind fun g=>
 bif g then (B8 N d 10).bind fun h=>
 bif decide (h<0) then (Gn N a b) (Yh (c+(Yh ((Yh ((d.size:Int)-1))+1))))
 else (Gn N a b) (Yh (c+(Yh (h+1))))
 else some (⟨a.s',c⟩:Y4)
 else Zg7 a c
def M5(N:Nat)(a:Y4):Option Y4:=
 Gn N a N a.ZI
def z28(N:Nat)(a:Int):Option Bool:=
 bif decide (97<=a) then bif decide (a<=122) then some true
 else bif decide (65<=a) then some (decide (a<=90))
 else some false
 else bif decide (65<=a) then some (decide (a<=90))
 else some false
def Gq(N:Nat)(a:Int):Option Bool:=
 bif decide (48<=a) then some (decide (a<=57))
 else some false
def z76(N:Nat)(a:Int):Option Bool:=
 (z28 N a).bind fun b=>
 bif b then some true
 else (Gq N a).bind fun c=>
 bif c then some true
 else some (a==95)
def ZdL(a:Y4)(b:Int):Option (be×Y4):=
 (ssl a.s' (some a.ZI) (some b)).bind fun c=>
 some (c,(⟨a.s',b⟩:Y4))
def ZdM(N:Nat)(a:Y4):Nat->Int->Option (be×Y4)
 |0,_=>none
 |b+1,c=>
 bif decide (c<(a.s'.size:Int)) then (XM a.s' c).bind fun d=>
 (z76 N d).bind fun e=>
 bif e then (ZdM N a b) (Yh (c+1))
 else ZdL a c
 else ZdL a c
def Zhs(N:Nat)(a:Y4):Option (be×Y4):=
 ZdM N a N a.ZI
def z29(N:Nat)(a:Y4):Option (YO×Int×Y4):=
 (Zhs N a).bind fun b=>
 bif decide ((b.1.size:Int)>16) then some ((⟨0,(str []),0,0⟩:YO),6,b.2)
 else some ((⟨1,b.1,0,0⟩:YO),0,b.2)
def ZdN(a:Y4)(b:Int):Option (be×Y4):=
 (ssl a.s' (some a.ZI) (some b)).bind fun c=>
 some (c,(⟨a.s',b⟩:Y4))
def ZdO(N:Nat)(a:Y4):Nat->Int->Option (be×Y4)
 |0,_=>none
 |b+1,c=>
 bif decide (c<(a.s'.size:Int)) then (XM a.s' c).bind fun d=>
 (Gq N d).bind fun e=>
 bif e then (ZdO N a b) (Yh (c+1))
 else ZdN a c
 else ZdN a c
def Zht(N:Nat)(a:Y4):Option (be×Y4):=
 ZdO N a N a.ZI
def Zhd(a:be×Y4)(b:Int):Option (YO×Int×Y4):=
 some ((⟨2,(str []),b,0⟩:YO),0,a.2)
def Zdl(a:be×Y4):Nat->Int->Int->Option (YO×Int×Y4)
 |0,_,_=>none
 |b+1,c,d=>
 bif decide (d<(a.1.size:Int)) then (XM a.1 d).bind fun e=>
 (Zdl a b) (Yh ((Yh (10*c))+(Yh ((wk .u8 (e-48)))))) (Yh (d+1))
 else Zhd a c
def BD(N:Nat)(a:be×Y4)(b:Bool):Option (YO×Int×Y4):=
 bif b then some ((⟨0,(str []),0,0⟩:YO),2,a.2)
 else Zdl a N 0 0
def Zdk(N:Nat)(a:be×Y4)(b:Bool):Option (YO×Int×Y4):=
 bif b then some ((⟨0,(str []),0,0⟩:YO),3,a.2)
 else bif decide ((a.1.size:Int)>6) then BD N a true
 else bif decide ((a.1.size:Int)>1) then (XM a.1 0).bind fun c=>
 BD N a (c==48)
 else BD N a false
def z31(N:Nat)(a:Y4):Option (YO×Int×Y4):=
 (Zht N a).bind fun b=>
 bif decide (b.2.ZI<(b.2.s'.size:Int)) then (XM b.2.s' b.2.ZI).bind fun c=>
 (z76 N c).bind fun d=>
 Zdk N b d
 else Zdk N b false
def Zhf(a:Y4)(b:Int):Option (YO×Int×Y4):=
 some ((⟨0,(str []),0,0⟩:YO),3,(⟨a.s',b⟩:Y4))
def BE(a:Y4)(b:List Int)(c:Int->(List Int)->Option (YO×Int×Y4))(d:Int)(e:Int):Option (YO×Int×Y4):=
 bif decide (e<32) then some ((⟨0,(str []),0,0⟩:YO),3,(⟨a.s',d⟩:Y4))
 else bif decide (e>126) then some ((⟨0,(str []),0,0⟩:YO),3,(⟨a.s',d⟩:Y4))
 else (Y8 b ([e]:List Int)).bind fun f=>
 c (Yh (d+1)) f
def M6(a:Y4):Nat->Int->(List Int)->Option (YO×Int×Y4)
 |0,_,_=>none
 |b+1,c,d=>
 bif decide (c<(a.s'.size:Int)) then (XM a.s' c).bind fun e=>
 bif e==34 then bif decide ((d.length:Int)>40) then some ((⟨0,(str []),0,0⟩:YO),6,(⟨a.s',(Yh (c+1))⟩:Y4))
 else some ((⟨3,(Qf d),0,0⟩:YO),0,(⟨a.s',(Yh (c+1))⟩:Y4))
 else bif e==92 then bif (Yh (c+1))==(a.s'.size:Int) then some ((⟨0,(str []),0,0⟩:YO),3,(⟨a.s',(Yh (c+1))⟩:Y4))
 else (XM a.s' (Yh (c+1))).bind fun f=>
 bif f != 34 then (XM a.s' (Yh (c+1))).bind fun g=>
 bif g != 92 then some ((⟨0,(str []),0,0⟩:YO),3,(⟨a.s',(Yh (c+1))⟩:Y4))
 else (XM a.s' (Yh (c+1))).bind fun h=>
 BE a d (M6 a b) (Yh (c+1)) h
 else (XM a.s' (Yh (c+1))).bind fun i=>
 BE a d (M6 a b) (Yh (c+1)) i
 else BE a d (M6 a b) c e
 else Zhf a c
def z32(N:Nat)(a:Y4):Option (YO×Int×Y4):=
 M6 a N (Yh (a.ZI+1)) ([]:List Int)
def z173(N:Nat)(a:be)(b:be):Option Int:=
 bif (b.size:Int)==0 then some 0
 else bif b.toList==a.toList then some 0
 else bif (b.size:Int)==1 then (XM b 0).bind fun c=>
 (Bl N a c).bind fun d=>
 some d
 else bif decide ((b.size:Int)>=(a.size:Int)) then some (-1)
 else ZaQ 0
def MK(N:Nat)(a:be)(b:be):Option Int:=
 (z173 N a b).bind fun c=>
 some c
def z74(N:Nat)(a:be)(b:be):Option Bool:=
 (MK N a b).bind fun c=>
 some (decide (c>=0))
def Zg9(N:Nat)(a:Y4):Option (YO×Int×Y4):=
 (ssl a.s' (some a.ZI) (some (Yh (a.ZI+1)))).bind fun b=>
 (z74 N (str [40,41,123,125,44,59,58,46,43,45,42,47,37,60,62,61,33]) b).bind fun c=>
 bif !c then some ((⟨0,(str []),0,0⟩:YO),3,a)
 else some ((⟨4,b,0,0⟩:YO),0,(⟨a.s',(Yh (a.ZI+1))⟩:Y4))
def Zdj(N:Nat)(a:Y4):Nat->Int->Option (YO×Int×Y4)
 |0,_=>none
 |b+1,c=>
 bif decide (c<8) then (idx ([(str [45,62]),(str [46,46]),(str [60,61]),(str [62,61]),(str [61,61]),(str [33,61]),(str [38,38]),(str [124,124])]:List be) c).bind fun d=>
 (ssl a.s' (some a.ZI) none).bind fun e=>
 (z72 N e d).bind fun f=>
 bif f then some ((⟨4,d,0,0⟩:YO),0,(⟨a.s',(Yh (a.ZI+2))⟩:Y4))
 else (Zdj N a b) (Yh (c+1))
 else Zg9 N a
def z27(N:Nat)(a:Y4):Option (YO×Int×Y4):=
 Zdj N a N 0
def ZgS(a:List YO):Option ((List YO)×Int×Int):=
 some (a,0,0)
def MT(N:Nat)(a:be):Nat->(List YO)->be->Int->Option ((List YO)×Int×Int)
 |0,_,_,_=>none
 |b+1,c,d,e=>
 bif decide (e<(a.size:Int)) then (XM a e).bind fun f=>
 (z28 N f).bind fun g=>
 bif g then (z29 N (⟨d,e⟩:Y4)).bind fun h=>
 bif h.2.1 != 0 then some (([]:List YO),e,h.2.1)
 else (Y8 c ([(⟨h.1.Zt,h.1.ZH,h.1.Value,e⟩:YO)]:List YO)).bind fun i=>
 (M5 N h.2.2).bind fun j=>
 (MT N a b) i j.s' j.ZI
 else (Gq N f).bind fun k=>
 bif k then (z31 N (⟨d,e⟩:Y4)).bind fun l=>
 bif l.2.1 != 0 then some (([]:List YO),e,l.2.1)
 else (Y8 c ([(⟨l.1.Zt,l.1.ZH,l.1.Value,e⟩:YO)]:List YO)).bind fun m=>
 (M5 N l.2.2).bind fun o=>
 (MT N a b) m o.s' o.ZI
 else bif f==34 then (z32 N (⟨d,e⟩:Y4)).bind fun p=>
 bif p.2.1 != 0 then some (([]:List YO),e,p.2.1)
 else (Y8 c ([(⟨p.1.Zt,p.1.ZH,p.1.Value,e⟩:YO)]:List YO)).bind fun q=>
 (M5 N p.2.2).bind fun r=>
 (MT N a b) q r.s' r.ZI
 else (z27 N (⟨d,e⟩:Y4)).bind fun s=>
 bif s.2.1 != 0 then some (([]:List YO),e,s.2.1)
 else (Y8 c ([(⟨s.1.Zt,s.1.ZH,s.1.Value,e⟩:YO)]:List YO)).bind fun t=>
 (M5 N s.2.2).bind fun u=>
 (MT N a b) t u.s' u.ZI
 else ZgS c
def z14(N:Nat)(a:be):Option ((List YO)×Int×Int):=
 bif decide ((a.size:Int)>8000) then some (([]:List YO),8000,6)
 else (M5 N (⟨a,0⟩:Y4)).bind fun b=>
 MT N a N ([]:List YO) b.s' b.ZI
def Qt(N:Nat)(a:Yw):Option YO:=
 bif a.ZJ != 0 then some (⟨0,(str []),0,0⟩:YO)
 else bif decide (a.n'>=(a.l'.length:Int)) then some (⟨0,(str []),0,0⟩:YO)
 else (idx a.l' a.n').bind fun b=>
 some b
def z79(N:Nat)(a:Yw)(b:be):Option Bool:=
 (Qt N a).bind fun c=>
 bif c.Zt==4 then some (c.ZH.toList==b.toList)
 else bif c.Zt==1 then some (c.ZH.toList==b.toList)
 else some false
def WQ(N:Nat)(a:Yw)(b:be):Option (Bool×Yw):=
 (z79 N a b).bind fun c=>
 bif !c then some (false,a)
 else some (true,(⟨a.l',(Yh (a.n'+1)),a.end',a.ZI,a.ZJ⟩:Yw))
def Rw(N:Nat)(a:Yw)(b:Int):Option Yw:=
 bif a.ZJ != 0 then some a
 else bif decide (a.n'<(a.l'.length:Int)) then (idx a.l' a.n').bind fun c=>
 some (⟨a.l',a.n',a.end',c.ZB,b⟩:Yw)
 else some (⟨a.l',a.n',a.end',a.end',b⟩:Yw)
def Wg(N:Nat)(a:Yw)(b:be):Option Yw:=
 (WQ N a b).bind fun c=>
 bif !c.1 then (Rw N c.2 3).bind fun d=>
 some d
 else some c.2
def ZdV:Option Bool:=
 some true
def PB(N:Nat)(a:be):Nat->Int->Option Bool
 |0,_=>none
 |b+1,c=>
 bif decide (c<(a.size:Int)) then (XM a c).bind fun d=>
 (z76 N d).bind fun e=>
 bif !e then some false
 else (PB N a b) (Yh (c+1))
 else ZdV
def GL(N:Nat)(a:be):Option Bool:=
 bif a.toList==(str []).toList then some false
 else bif decide ((a.size:Int)>16) then some false
 else (XM a 0).bind fun b=>
 (z28 N b).bind fun c=>
 bif !c then some false
 else PB N a N 0
def H9:Option Int:=
 some (-1)
def Tg(a:List be)(b:be):Nat->Int->Option Int
 |0,_=>none
 |c+1,d=>
 bif decide (d<(a.length:Int)) then (idx a d).bind fun e=>
 bif b.toList==e.toList then some d
 else (Tg a b c) (Yh (d+1))
 else H9
def TT(N:Nat)(a:List be)(b:be):Option Int:=
 Tg a b N 0
def V4(N:Nat)(a:List be)(b:be):Option Bool:=
 (TT N a b).bind fun c=>
 some (decide (c>=0))
def Vx(N:Nat)(a:be):Option Bool:=
 (GL N a).bind fun b=>
 bif b then (V4 N ([(str [97,103,97,105,110]),(str [97,110,100]),(str [97,115]),(str [97,116]),(str [99,97,108,108]),(str [99,104,111,105,99,101]),(str [101,108,115,101]),(str [102,114,111,109]),(str [105,102]),(str [105,110,116]),(str [108,101,110]),(str [108,111,111,112]),(str [109,101,115,115,97,103,101]),(str [111,102]),(str [111,102,102,101,114]),(str [111,110]),(str [111,114]),(str [112,97,114]),(str [112,108,97,121,115]),(str [112,114,111,116,111,99,111,108]),(str [115,101,114,118,105,99,101]),(str [116,101,120,116]),(str [116,105,109,101,115]),(str [116,111]),(str [118,97,114]),(str [119,104,101,114,101]),(str [119,104,105,108,101]),(str [119,105,116,104,105,110])]:List be) a).bind fun c=>
 some (!c)
 else some false
def TX(N:Nat)(a:Yw):Option (be×Yw):=
 (Qt N a).bind fun b=>
 bif b.Zt != 1 then (Rw N a 3).bind fun c=>
 some ((str []),c)
 else (Vx N b.ZH).bind fun d=>
 bif !d then (Rw N a 3).bind fun e=>
 some ((str []),e)
 else some (b.ZH,(⟨a.l',(Yh (a.n'+1)),a.end',a.ZI,a.ZJ⟩:Yw))
def Zhh(a:List YO)(b:Int)(c:Int)(d:Int)(e:Int)(f:List be):Option ((List be)×Yw):=
 some (f,(⟨a,b,c,d,e⟩:Yw))
def Zdm(N:Nat):Nat->(List YO)->Int->Int->Int->Int->(List be)->Option ((List be)×Yw)
 |0,_,_,_,_,_,_=>none
 |a+1,b,c,d,e,f,g=>
 (WQ N (⟨b,c,d,e,f⟩:Yw) (str [44])).bind fun h=>
 bif h.1 then (TX N h.2).bind fun i=>
 (Y8 g ([i.1]:List be)).bind fun j=>
 (Zdm N a) i.2.l' i.2.n' i.2.end' i.2.ZI i.2.ZJ j
 else Zhh h.2.l' h.2.n' h.2.end' h.2.ZI h.2.ZJ g
def BF(N:Nat)(a:Yw):Option ((List be)×Yw):=
 (TX N a).bind fun b=>
 Zdm N N b.2.l' b.2.n' b.2.end' b.2.ZI b.2.ZJ ([b.1]:List be)
def Zhv(a:List YO)(b:Int)(c:Int)(d:Int)(e:Int)(f:be):Option (be×Yw):=
 some (f,(⟨a,b,c,d,e⟩:Yw))
def ZdQ(N:Nat):Nat->(List YO)->Int->Int->Int->Int->be->Option (be×Yw)
 |0,_,_,_,_,_,_=>none
 |a+1,b,c,d,e,f,g=>
 (WQ N (⟨b,c,d,e,f⟩:Yw) (str [46])).bind fun h=>
 bif h.1 then (TX N h.2).bind fun i=>
 (Xy (str [46]) i.1).bind fun j=>
 (Xy g j).bind fun k=>
 (ZdQ N a) i.2.l' i.2.n' i.2.end' i.2.ZI i.2.ZJ k
 else Zhv h.2.l' h.2.n' h.2.end' h.2.ZI h.2.ZJ g
def Pz(N:Nat)(a:Yw):Option (be×Yw):=
 (TX N a).bind fun b=>
 ZdQ N N b.2.l' b.2.n' b.2.end' b.2.ZI b.2.ZJ b.1
def TS(N:Nat)(a:Yw):Option (Int×Yw):=
 (Qt N a).bind fun b=>
 bif b.Zt != 2 then (Rw N a 3).bind fun c=>
 some (0,c)
 else some (b.Value,(⟨a.l',(Yh (a.n'+1)),a.end',a.ZI,a.ZJ⟩:Yw))
def H7(N:Nat)(a:Yw):Option (Int×Yw):=
 (WQ N a (str [45])).bind fun b=>
 bif b.1 then (TS N b.2).bind fun c=>
 some ((Yh (0-c.1)),c.2)
 else (TS N b.2).bind fun d=>
 some (d.1,d.2)
def z81(N:Nat)(a:Yw):Option (T3×Yw):=
 (TX N a).bind fun b=>
 (Wg N b.2 (str [58])).bind fun c=>
 (WQ N c (str [105,110,116])).bind fun d=>
 bif !d.1 then (Wg N d.2 (str [116,101,120,116])).bind fun e=>
 (TS N e).bind fun f=>
 (Wg N f.2 (str [46,46])).bind fun g=>
 (TS N g).bind fun h=>
 some ((⟨b.1,(⟨2,f.1,h.1⟩:T7)⟩:T3),h.2)
 else (H7 N d.2).bind fun i=>
 (Wg N i.2 (str [46,46])).bind fun j=>
 (H7 N j).bind fun k=>
 some ((⟨b.1,(⟨1,i.1,k.1⟩:T7)⟩:T3),k.2)
def Zg2:Option Int:=
 some (-1)
def Zc9(a:be)(b:Int):Nat->Int->Option Int
 |0,_=>none
 |c+1,d=>
 bif decide (d>=0) then (XM a d).bind fun e=>
 bif e==b then some d
 else (Zc9 a b c) (Yh (d-1))
 else Zg2
def Zg1(N:Nat)(a:be)(b:Int):Option Int:=
 Zc9 a b N (Yh ((a.size:Int)-1))
def ZgW(N:Nat)(a:be)(b:Int):Option Int:=
 (Zg1 N a b).bind fun c=>
 some c
def ZcE(N:Nat)(a:List YO)(b:Int)(c:Int)(d:Int)(e:Int)(f:Int)(g:be)(h:be):Option (Y5×Yw):=
 (WQ N (⟨a,b,c,d,e⟩:Yw) (str [43])).bind fun i=>
 bif i.1 then (TS N i.2).bind fun j=>
 some ((⟨f,g,h,j.1⟩:Y5),j.2)
 else (WQ N i.2 (str [45])).bind fun k=>
 bif k.1 then (TS N k.2).bind fun l=>
 some ((⟨f,g,h,(Yh (0-l.1))⟩:Y5),l.2)
 else some ((⟨f,g,h,0⟩:Y5),k.2)
def ZcF(N:Nat)(a:List YO)(b:Int)(c:Int)(d:Int)(e:Int)(f:Int)(g:be):Option (Y5×Yw):=
 (ZgW N g 46).bind fun h=>
 bif decide (h>=0) then (ssl g none (some h)).bind fun i=>
 (ssl g (some (Yh (h+1))) none).bind fun j=>
 ZcE N a b c d e f i j
 else ZcE N a b c d e f (str []) g
def H8(N:Nat)(a:Yw):Option (Y5×Yw):=
 (z79 N a (str [45])).bind fun b=>
 bif b then (H7 N a).bind fun c=>
 some ((⟨1,(str []),(str []),c.1⟩:Y5),c.2)
 else (Qt N a).bind fun d=>
 bif d.Zt==2 then (H7 N a).bind fun e=>
 some ((⟨1,(str []),(str []),e.1⟩:Y5),e.2)
 else (WQ N a (str [108,101,110])).bind fun f=>
 bif f.1 then (Wg N f.2 (str [40])).bind fun g=>
 (Pz N g).bind fun h=>
 (Wg N h.2 (str [41])).bind fun i=>
 ZcF N i.l' i.n' i.end' i.ZI i.ZJ 3 h.1
 else (Pz N f.2).bind fun j=>
 ZcF N j.2.l' j.2.n' j.2.end' j.2.ZI j.2.ZJ 2 j.1
def GO(N:Nat):Option (List be):=
 some ([(str [60]),(str [60,61]),(str [61,61]),(str [62,61]),(str [62])]:List be)
def z82(N:Nat)(a:Yw):Option (Xv×Yw):=
 (H8 N a).bind fun b=>
 (Qt N b.2).bind fun c=>
 bif c.Zt==4 then (GO N).bind fun d=>
 (V4 N d c.ZH).bind fun e=>
 bif e then (H8 N (⟨b.2.l',(Yh (b.2.n'+1)),b.2.end',b.2.ZI,b.2.ZJ⟩:Yw)).bind fun f=>
 some ((⟨b.1,c.ZH,f.1⟩:Xv),f.2)
 else (Rw N b.2 3).bind fun g=>
 (H8 N g).bind fun h=>
 some ((⟨b.1,(str []),h.1⟩:Xv),h.2)
 else (Rw N b.2 3).bind fun i=>
 (H8 N i).bind fun j=>
 some ((⟨b.1,(str []),j.1⟩:Xv),j.2)
def Zhi(N:Nat)(a:be×Yw)(b:List T3)(c:List YO)(d:Int)(e:Int)(f:Int)(g:Int)(h:List Xv):Option (Ys×Yw):=
 (Wg N (⟨c,d,e,f,g⟩:Yw) (str [59])).bind fun i=>
 some ((⟨a.1,b,h⟩:Ys),i)
def Zdo(N:Nat)(a:be×Yw)(b:List T3):Nat->(List YO)->Int->Int->Int->Int->(List Xv)->Option (Ys×Yw)
 |0,_,_,_,_,_,_=>none
 |c+1,d,e,f,g,h,i=>
 (WQ N (⟨d,e,f,g,h⟩:Yw) (str [97,110,100])).bind fun j=>
 bif j.1 then (z82 N j.2).bind fun k=>
 (Y8 i ([k.1]:List Xv)).bind fun l=>
 (Zdo N a b c) k.2.l' k.2.n' k.2.end' k.2.ZI k.2.ZJ l
 else Zhi N a b j.2.l' j.2.n' j.2.end' j.2.ZI j.2.ZJ i
def Zdn(N:Nat)(a:be×Yw)(b:List YO)(c:Int)(d:Int)(e:Int)(f:Int)(g:List T3):Option (Ys×Yw):=
 (WQ N (⟨b,c,d,e,f⟩:Yw) (str [119,104,101,114,101])).bind fun h=>
 bif h.1 then (z82 N h.2).bind fun i=>
 (Y8 ([]:List Xv) ([i.1]:List Xv)).bind fun j=>
 Zdo N a g N i.2.l' i.2.n' i.2.end' i.2.ZI i.2.ZJ j
 else (Wg N h.2 (str [59])).bind fun k=>
 some ((⟨a.1,g,([]:List Xv)⟩:Ys),k)
def Zhj(N:Nat)(a:be×Yw)(b:List YO)(c:Int)(d:Int)(e:Int)(f:Int)(g:List T3):Option (Ys×Yw):=
 (Wg N (⟨b,c,d,e,f⟩:Yw) (str [41])).bind fun h=>
 Zdn N a h.l' h.n' h.end' h.ZI h.ZJ g
def Zdp(N:Nat)(a:be×Yw):Nat->(List YO)->Int->Int->Int->Int->(List T3)->Option (Ys×Yw)
 |0,_,_,_,_,_,_=>none
 |b+1,c,d,e,f,g,h=>
 (WQ N (⟨c,d,e,f,g⟩:Yw) (str [44])).bind fun i=>
 bif i.1 then (z81 N i.2).bind fun j=>
 (Y8 h ([j.1]:List T3)).bind fun k=>
 (Zdp N a b) j.2.l' j.2.n' j.2.end' j.2.ZI j.2.ZJ k
 else Zhj N a i.2.l' i.2.n' i.2.end' i.2.ZI i.2.ZJ h
def z37(N:Nat)(a:Yw):Option (Ys×Yw):=
 (Pz N a).bind fun b=>
 (Wg N b.2 (str [40])).bind fun c=>
 (WQ N c (str [41])).bind fun d=>
 bif !d.1 then (z81 N d.2).bind fun e=>
 (Y8 ([]:List T3) ([e.1]:List T3)).bind fun f=>
 Zdp N b N e.2.l' e.2.n' e.2.end' e.2.ZI e.2.ZJ f
 else Zdn N b d.2.l' d.2.n' d.2.end' d.2.ZI d.2.ZJ ([]:List T3)
def Qn(N:Nat)(rc:Yw->Option ((List Yj)×Yw))(a:Yw):Option ((List Yj)×Yw):=
 (Wg N a (str [123])).bind fun b=>
 (rc b).bind fun c=>
 (Wg N c.2 (str [125])).bind fun d=>
 some (c.1,d)
def ZgR(N:Nat)(rc:Yw->Option ((List Yj)×Yw))(a:be×Yw)(b:Int)(c:List YO)(d:Int)(e:Int)(f:Int)(g:Int)(h:(List (List Yj))):Option (Yj×Yw):=
 bif decide (b>0) then (Wg N (⟨c,d,e,f,g⟩:Yw) (str [101,108,115,101])).bind fun i=>
 (Qn N rc i).bind fun j=>
 (Y8 h ([j.1]:List (List Yj))).bind fun k=>
 some ((⟨2,a.1,([]:List be),(str []),(str []),b,k⟩:Yj),j.2)
 else some ((⟨2,a.1,([]:List be),(str []),(str []),b,h⟩:Yj),(⟨c,d,e,f,g⟩:Yw))
def ZcG(N:Nat)(rc:Yw->Option ((List Yj)×Yw))(a:be×Yw)(b:Int):Nat->(List YO)->Int->Int->Int->Int->(List (List Yj))->Option (Yj×Yw)
 |0,_,_,_,_,_,_=>none
 |c+1,d,e,f,g,h,i=>
 (WQ N (⟨d,e,f,g,h⟩:Yw) (str [111,114])).bind fun j=>
 bif j.1 then (Qn N rc j.2).bind fun k=>
 (Y8 i ([k.1]:List (List Yj))).bind fun l=>
 (ZcG N rc a b c) k.2.l' k.2.n' k.2.end' k.2.ZI k.2.ZJ l
 else ZgR N rc a b j.2.l' j.2.n' j.2.end' j.2.ZI j.2.ZJ i
def MM(N:Nat)(rc:Yw->Option ((List Yj)×Yw))(a:be×Yw)(b:List YO)(c:Int)(d:Int)(e:Int)(f:Int)(g:Int):Option (Yj×Yw):=
 (Qn N rc (⟨b,c,d,e,f⟩:Yw)).bind fun h=>
 ZcG N rc a g N h.2.l' h.2.n' h.2.end' h.2.ZI h.2.ZJ ([h.1]:List (List Yj))
def ZgQ(N:Nat)(rc:Yw->Option ((List Yj)×Yw))(a:Yw):Option (Yj×Yw):=
 (Wg N a (str [97,116])).bind fun b=>
 (TX N b).bind fun c=>
 (WQ N c.2 (str [119,105,116,104,105,110])).bind fun d=>
 bif d.1 then (Qt N d.2).bind fun e=>
 bif e.Zt==2 then bif decide (e.Value<1) then (Rw N d.2 2).bind fun f=>
 (TS N f).bind fun g=>
 MM N rc c g.2.l' g.2.n' g.2.end' g.2.ZI g.2.ZJ g.1
 else bif decide (e.Value>1000) then (Rw N d.2 2).bind fun h=>
 (TS N h).bind fun i=>
 MM N rc c i.2.l' i.2.n' i.2.end' i.2.ZI i.2.ZJ i.1
 else (TS N d.2).bind fun j=>
 MM N rc c j.2.l' j.2.n' j.2.end' j.2.ZI j.2.ZJ j.1
 else (TS N d.2).bind fun k=>
 MM N rc c k.2.l' k.2.n' k.2.end' k.2.ZI k.2.ZJ k.1
 else MM N rc c d.2.l' d.2.n' d.2.end' d.2.ZI d.2.ZJ 0
def Zhw(a:List YO)(b:Int)(c:Int)(d:Int)(e:Int)(f:(List (List Yj))):Option (Yj×Yw):=
 some ((⟨5,(str []),([]:List be),(str []),(str []),0,f⟩:Yj),(⟨a,b,c,d,e⟩:Yw))
def ZdU(N:Nat)(rc:Yw->Option ((List Yj)×Yw)):Nat->(List YO)->Int->Int->Int->Int->(List (List Yj))->Option (Yj×Yw)
 |0,_,_,_,_,_,_=>none
 |a+1,b,c,d,e,f,g=>
 (WQ N (⟨b,c,d,e,f⟩:Yw) (str [97,110,100])).bind fun h=>
 bif h.1 then (Qn N rc h.2).bind fun i=>
 (Y8 g ([i.1]:List (List Yj))).bind fun j=>
 (ZdU N rc a) i.2.l' i.2.n' i.2.end' i.2.ZI i.2.ZJ j
 else Zhw h.2.l' h.2.n' h.2.end' h.2.ZI h.2.ZJ g
def z84(N:Nat)(rc:Yw->Option ((List Yj)×Yw))(a:Yw):Option (Yj×Yw):=
 (WQ N a (str [99,104,111,105,99,101])).bind fun b=>
 bif b.1 then (ZgQ N rc b.2).bind fun c=>
 some (c.1,c.2)
 else (WQ N b.2 (str [108,111,111,112])).bind fun d=>
 bif d.1 then (Pz N d.2).bind fun e=>
 (Qn N rc e.2).bind fun f=>
 some ((⟨3,(str []),([]:List be),e.1,(str []),0,([f.1]:List (List Yj))⟩:Yj),f.2)
 else (WQ N d.2 (str [97,103,97,105,110])).bind fun g=>
 bif g.1 then (Pz N g.2).bind fun h=>
 (Wg N h.2 (str [59])).bind fun i=>
 some ((⟨4,(str []),([]:List be),h.1,(str []),0,([]:List (List Yj))⟩:Yj),i)
 else (WQ N g.2 (str [112,97,114])).bind fun j=>
 bif j.1 then (Qn N rc j.2).bind fun k=>
 (Wg N k.2 (str [97,110,100])).bind fun l=>
 (Qn N rc l).bind fun m=>
 (Y8 ([k.1]:List (List Yj)) ([m.1]:List (List Yj))).bind fun o=>
 ZdU N rc N m.2.l' m.2.n' m.2.end' m.2.ZI m.2.ZJ o
 else (WQ N j.2 (str [99,97,108,108])).bind fun p=>
 bif p.1 then (TX N p.2).bind fun q=>
 (Wg N q.2 (str [40])).bind fun r=>
 (BF N r).bind fun s=>
 (Wg N s.2 (str [41])).bind fun t=>
 (Wg N t (str [97,115])).bind fun u=>
 (TX N u).bind fun v=>
 (Wg N v.2 (str [59])).bind fun w=>
 some ((⟨6,(str []),s.1,q.1,v.1,0,([]:List (List Yj))⟩:Yj),w)
 else (TX N p.2).bind fun x=>
 (Wg N x.2 (str [45,62])).bind fun y=>
 (BF N y).bind fun z=>
 (Wg N z.2 (str [58])).bind fun A=>
 (Pz N A).bind fun B=>
 (Wg N B.2 (str [59])).bind fun C=>
 some ((⟨1,x.1,z.1,B.1,(str []),0,([]:List (List Yj))⟩:Yj),C)
def BG(N:Nat)(rc:Yw->Option ((List Yj)×Yw)):Nat->(List YO)->Int->Int->Int->Int->(List Yj)->Option ((List Yj)×Yw)
 |0,_,_,_,_,_,_=>none
 |a+1,b,c,d,e,f,g=>
 (Qt N (⟨b,c,d,e,f⟩:Yw)).bind fun h=>
 bif h.Zt != 1 then some (g,(⟨b,c,d,e,f⟩:Yw))
 else (Vx N h.ZH).bind fun i=>
 bif !i then (V4 N ([(str [99,104,111,105,99,101]),(str [108,111,111,112]),(str [97,103,97,105,110]),(str [112,97,114]),(str [99,97,108,108])]:List be) h.ZH).bind fun j=>
 bif !j then some (g,(⟨b,c,d,e,f⟩:Yw))
 else (z84 N rc (⟨b,c,d,e,f⟩:Yw)).bind fun k=>
 (Y8 g ([k.1]:List Yj)).bind fun l=>
 (BG N rc a) k.2.l' k.2.n' k.2.end' k.2.ZI k.2.ZJ l
 else (z84 N rc (⟨b,c,d,e,f⟩:Yw)).bind fun m=>
 (Y8 g ([m.1]:List Yj)).bind fun o=>
 (BG N rc a) m.2.l' m.2.n' m.2.end' m.2.ZI m.2.ZJ o
def Zhk(N:Nat)(rc:Yw->Option ((List Yj)×Yw))(a:Yw):Option ((List Yj)×Yw):=
 BG N rc N a.l' a.n' a.end' a.ZI a.ZJ ([]:List Yj)
def Zdq:Nat->Yw->Option ((List Yj)×Yw)
 |0,_=>none
 |N+1,a0=>Zhk N (Zdq N) a0
def z38(N:Nat)(a:Yw):Option ((List Yj)×Yw):=Zdq N a
def ZgU(N:Nat)(a:be×Yw)(b:List be×Yw)(c:List YO)(d:Int)(e:Int)(f:Int)(g:Int)(h:List Ys):Option (Yl×Yw):=
 (z38 N (⟨c,d,e,f,g⟩:Yw)).bind fun i=>
 (Wg N i.2 (str [125])).bind fun j=>
 some ((⟨a.1,b.1,h,i.1⟩:Yl),j)
def ZcV(N:Nat)(a:be×Yw)(b:List be×Yw):Nat->(List YO)->Int->Int->Int->Int->(List Ys)->Option (Yl×Yw)
 |0,_,_,_,_,_,_=>none
 |c+1,d,e,f,g,h,i=>
 (WQ N (⟨d,e,f,g,h⟩:Yw) (str [109,101,115,115,97,103,101])).bind fun j=>
 bif j.1 then (z37 N j.2).bind fun k=>
 (Y8 i ([k.1]:List Ys)).bind fun l=>
 (ZcV N a b c) k.2.l' k.2.n' k.2.end' k.2.ZI k.2.ZJ l
 else ZgU N a b j.2.l' j.2.n' j.2.end' j.2.ZI j.2.ZJ i
def z15(N:Nat)(a:Yw):Option (Yl×Yw):=
 (Wg N a (str [112,114,111,116,111,99,111,108])).bind fun b=>
 (TX N b).bind fun c=>
 (Wg N c.2 (str [40])).bind fun d=>
 (BF N d).bind fun e=>
 (Wg N e.2 (str [41])).bind fun f=>
 (Wg N f (str [123])).bind fun g=>
 ZcV N c e N g.l' g.n' g.end' g.ZI g.ZJ ([]:List Ys)
def z87(N:Nat)(a:be):Option Bool:=
 (Vx N a).bind fun b=>
 some (!b)
def ZcI:Option Int:=
 some (-1)
def MP(N:Nat)(a:List be):Nat->Int->Option Int
 |0,_=>none
 |b+1,c=>
 bif decide (c<(a.length:Int)) then (idx a c).bind fun d=>
 (z87 N d).bind fun e=>
 bif e then some c
 else (MP N a b) (Yh (c+1))
 else ZcI
def ZcH(N:Nat)(a:List be):Option Int:=
 MP N a N 0
def ZdW(N:Nat)(a:List be):Option Bool:=
 (ZcH N a).bind fun b=>
 some (decide (b>=0))
def M7(N:Nat)(a:List be)(b:Int):Option Bool:=
 bif decide ((a.length:Int)>=1) then bif decide ((a.length:Int)<=b) then (ZdW N a).bind fun c=>
 some (!c)
 else some false
 else some false
def Zg5(a:Int)(b:Nat):Option Int:=
 some a
def Zde(a:be):Nat->Int->Nat->Option Int
 |0,_,_=>none
 |b+1,c,d=>
 bif decide (d<a.size) then (Zde a b) (Yh (c+1)) (d+(dD a d).2)
 else Zg5 c d
def z229(N:Nat)(a:be):Option Int:=
 Zde a N 0 (0:Nat)
def Zdf(N:Nat)(a:be):Option (Int×Int):=
 bif decide ((a.size:Int)<1) then some (65533,0)
 else (XM a 0).bind fun b=>
 ZaQ 0
def Zg6(N:Nat)(a:be):Option (Int×Int):=
 bif !(a.toList==(str []).toList) then (XM a 0).bind fun b=>
 bif decide (b<128) then (XM a 0).bind fun c=>
 some ((wk .i32 (c)),1)
 else (Zdf N a).bind fun d=>
 some (d.1,d.2)
 else (Zdf N a).bind fun e=>
 some (e.1,e.2)
def Zg4(a:Int)(b:be)(c:List be):Option (List be):=
 bif decide (a>0) then (idx c (Yh (a-1))).bind fun d=>
 some (YE c (Yh (a-1)) b)
 else some c
def Zdc(N:Nat)(a:Int):Nat->be->(List be)->Int->Option (List be)
 |0,_,_,_=>none
 |b+1,c,d,e=>
 bif decide (e<(Yh (a-1))) then (Zg6 N c).bind fun f=>
 (ssl c none (some f.2)).bind fun g=>
 (idx d e).bind fun h=>
 (ssl c (some f.2) none).bind fun i=>
 (Zdc N a b) i (YE d e g) (Yh (e+1))
 else Zg4 a c d
def Zda(N:Nat)(a:be)(b:Int):Option (List be):=
 (Vj (str []) b b).bind fun c=>
 Zdc N b N a c 0
def Zdb(N:Nat)(a:be)(b:Int)(c:Int)(d:Bool):Option (List be):=
 bif d then Zda N a c
 else Zda N a b
def Zg3(N:Nat)(a:be)(b:Int):Option (List be):=
 (z229 N a).bind fun c=>
 bif decide (b<0) then Zdb N a b c true
 else Zdb N a b c (decide (b>c))
def Zdd(N:Nat)(a:be):Nat->be->Int->Option Int
 |0,_,_=>none
 |b+1,c,d=>
 (MK N c a).bind fun e=>
 bif e==(-1) then some d
 else (ssl c (some (Yh (e+(a.size:Int)))) none).bind fun f=>
 (Zdd N a b) f (Yh (d+1))
def Bv(N:Nat)(a:be)(b:be):Option Int:=
 bif (b.size:Int)==0 then (z229 N a).bind fun c=>
 some (Yh (c+1))
 else bif (b.size:Int)==1 then (XM b 0).bind fun d=>
 some (ZaN a d)
 else Zdd N b N a 0
def Gf(a:be)(b:List be)(c:Int):Option (List be):=
 (idx b c).bind fun d=>
 (lsl (YE b c a) none (some (Yh (c+1)))).bind fun e=>
 some e
def Pp(N:Nat)(a:be)(b:be)(c:Int)(d:Int):Nat->be->(List be)->Int->Option (List be)
 |0,_,_,_=>none
 |e+1,f,g,h=>
 bif decide (h<(Yh ((VH d (Yh ((a.size:Int)+1)))-1))) then (MK N f b).bind fun i=>
 bif decide (i<0) then Gf f g h
 else (ssl f none (some (Yh (i+c)))).bind fun j=>
 (idx g h).bind fun k=>
 (ssl f (some (Yh (i+(b.size:Int)))) none).bind fun l=>
 (Pp N a b c d e) l (YE g h j) (Yh (h+1))
 else Gf f g h
def Bt(N:Nat)(a:be)(b:be)(c:Int)(d:Int):Option (List be):=
 (Vj (str []) (VH d (Yh ((a.size:Int)+1))) (VH d (Yh ((a.size:Int)+1)))).bind fun e=>
 Pp N a b c d N a e 0
def Zc4(N:Nat)(a:be)(b:be)(c:Int)(d:Int):Option (List be):=
 bif d==0 then some ([]:List be)
 else bif b.toList==(str []).toList then (Zg3 N a d).bind fun e=>
 some e
 else bif decide (d<0) then (Bv N a b).bind fun f=>
 Bt N a b c (Yh (f+1))
 else Bt N a b c d
def Bp(N:Nat)(a:be)(b:be):Option (List be):=
 (Zc4 N a b 0 (-1)).bind fun c=>
 some c
def z146(N:Nat)(a:be):Option Bool:=
 (Vx N a).bind fun b=>
 some (!b)
def ZcL:Option Int:=
 some (-1)
def MR(N:Nat)(a:List be):Nat->Int->Option Int
 |0,_=>none
 |b+1,c=>
 bif decide (c<(a.length:Int)) then (idx a c).bind fun d=>
 (z146 N d).bind fun e=>
 bif e then some c
 else (MR N a b) (Yh (c+1))
 else ZcL
def ZcJ(N:Nat)(a:List be):Option Int:=
 MR N a N 0
def ZdX(N:Nat)(a:List be):Option Bool:=
 (ZcJ N a).bind fun b=>
 some (decide (b>=0))
def Qu(N:Nat)(a:be):Option Bool:=
 bif decide ((a.size:Int)<=50) then (Bp N a (str [46])).bind fun b=>
 (ZdX N b).bind fun c=>
 some (!c)
 else some false
def Ln(N:Nat)(a:Yj)(b:Bool):Option Bool:=
 bif b then bif a.ZB.toList==(str []).toList then bif (a.To.length:Int)==0 then (Qu N a.Zu).bind fun c=>
 bif c then bif a.As.toList==(str []).toList then bif a.ZC==0 then bif (a.Zt==3)==((a.ZD.length:Int)==1) then some (decide ((a.ZD.length:Int)<=1))
 else some false
 else some false
 else some false
 else some false
 else some false
 else some false
 else bif a.Zt==5 then bif a.ZB.toList==(str []).toList then bif (a.To.length:Int)==0 then bif a.Zu.toList==(str []).toList then bif a.As.toList==(str []).toList then bif a.ZC==0 then bif decide ((a.ZD.length:Int)>=2) then some (decide ((a.ZD.length:Int)<=8))
 else some false
 else some false
 else some false
 else some false
 else some false
 else some false
 else bif a.Zt==6 then bif a.ZB.toList==(str []).toList then (M7 N a.To 6).bind fun d=>
 bif d then (Vx N a.Zu).bind fun e=>
 bif e then (Vx N a.As).bind fun f=>
 bif f then bif a.ZC==0 then some ((a.ZD.length:Int)==0)
 else some false
 else some false
 else some false
 else some false
 else some false
 else some false
def B9(N:Nat)(a:Yj):Option Bool:=
 bif a.Zt==1 then (Vx N a.ZB).bind fun b=>
 bif b then (M7 N a.To 5).bind fun c=>
 bif c then (Qu N a.Zu).bind fun d=>
 bif d then bif a.As.toList==(str []).toList then bif a.ZC==0 then some ((a.ZD.length:Int)==0)
 else some false
 else some false
 else some false
 else some false
 else some false
 else bif a.Zt==2 then (Vx N a.ZB).bind fun e=>
 bif e then bif (a.To.length:Int)==0 then bif a.Zu.toList==(str []).toList then bif a.As.toList==(str []).toList then bif decide (a.ZC>=0) then bif decide (a.ZC<=1000) then bif decide ((a.ZD.length:Int)>=(Yh (1+(VH a.ZC 1)))) then some (decide ((a.ZD.length:Int)<=8))
 else some false
 else some false
 else some false
 else some false
 else some false
 else some false
 else some false
 else bif a.Zt==3 then Ln N a true
 else Ln N a (a.Zt==4)
def Zdr(a:Int):Option (Bool×Int):=
 some (true,a)
def Zds(a:Int)(b:Int->Int->Option (Bool×Int))(c:Int):Option (Bool×Int):=
 b c (Yh (a+1))
def M8(rc:List Yj->Int->Int->Option (Bool×Int))(a:Int)(b:Int)(c:Int->Int->Option (Bool×Int))(d:Yj):Nat->Int->Int->Option (Bool×Int)
 |0,_,_=>none
 |e+1,f,g=>
 bif decide (g<(d.ZD.length:Int)) then (idx d.ZD g).bind fun h=>
 (rc h (Yh (a+1)) f).bind fun i=>
 bif !i.1 then some (false,i.2)
 else (M8 rc a b c d e) i.2 (Yh (g+1))
 else Zds b c f
def Qr(N:Nat)(rc:List Yj->Int->Int->Option (Bool×Int))(a:List Yj)(b:Int):Nat->Int->Int->Option (Bool×Int)
 |0,_,_=>none
 |c+1,d,e=>
 bif decide (e<(a.length:Int)) then (idx a e).bind fun f=>
 bif decide (b>10) then some (false,(Yh (d+1)))
 else bif decide ((Yh (d+1))>300) then some (false,(Yh (d+1)))
 else (B9 N f).bind fun g=>
 bif !g then some (false,(Yh (d+1)))
 else M8 rc b e (Qr N rc a b c) f N (Yh (d+1)) 0
 else Zdr d
def BH(N:Nat)(rc:List Yj->Int->Int->Option (Bool×Int))(a:List Yj)(b:Int)(c:Int):Option (Bool×Int):=
 Qr N rc a b N c 0
def Zdt:Nat->(List Yj)->Int->Int->Option (Bool×Int)
 |0,_,_,_=>none
 |N+1,a0,a1,a2=>BH N (Zdt N) a0 a1 a2
def Gr(N:Nat)(a:List Yj)(b:Int)(c:Int):Option (Bool×Int):=Zdt N a b c
def ZcM(N:Nat)(a:Int):Option Bool:=
 bif decide (a>=(-999999)) then some (decide (a<=999999))
 else some false
def Lq(N:Nat)(a:Y5)(b:Bool):Option Bool:=
 bif b then (Vx N a.Field).bind fun c=>
 bif c then bif a.Zw.toList==(str []).toList then some true
 else (Qu N a.Zw).bind fun d=>
 some d
 else some false
 else some false
def GN(N:Nat)(a:Y5):Option Bool:=
 (ZcM N a.N).bind fun b=>
 bif !b then some false
 else bif a.Zt==1 then bif a.Zw.toList==(str []).toList then some (a.Field.toList==(str []).toList)
 else some false
 else bif a.Zt==2 then Lq N a true
 else Lq N a (a.Zt==3)
def Zdu:Option Bool:=
 some true
def Gt(N:Nat)(a:Ys):Nat->Int->Option Bool
 |0,_=>none
 |b+1,c=>
 bif decide (c<(a.ZA.length:Int)) then (idx a.ZA c).bind fun d=>
 (GN N d.Zx).bind fun e=>
 bif !e then some false
 else (GN N d.Zy).bind fun f=>
 bif !f then some false
 else (GO N).bind fun g=>
 (V4 N g d.Op).bind fun h=>
 bif !h then some false
 else (Gt N a b) (Yh (c+1))
 else Zdu
def Zdv(N:Nat)(a:Ys):Option Bool:=
 Gt N a N 0
def Gs(N:Nat)(a:Int)(b:Int->Option Bool)(c:T3)(d:Int):Option Bool:=
 (Vx N c.Zu).bind fun e=>
 bif !e then some false
 else bif c.Zv.Zt != 1 then bif c.Zv.Zt != 2 then some false
 else bif decide ((VH c.Zv.Lo c.Zv.Hi)<d) then some false
 else bif decide ((P8 c.Zv.Lo c.Zv.Hi)>999999) then some false
 else b (Yh (a+1))
 else bif decide ((VH c.Zv.Lo c.Zv.Hi)<d) then some false
 else bif decide ((P8 c.Zv.Lo c.Zv.Hi)>999999) then some false
 else b (Yh (a+1))
def Rr(N:Nat)(a:Ys):Nat->Int->Option Bool
 |0,_=>none
 |b+1,c=>
 bif decide (c<(a.Zz.length:Int)) then (idx a.Zz c).bind fun d=>
 bif d.Zv.Zt==2 then Gs N c (Rr N a b) d 0
 else Gs N c (Rr N a b) d (-999999)
 else Zdv N a
def BI(N:Nat)(a:Ys):Option Bool:=
 (Qu N a.Zu).bind fun b=>
 bif !b then some false
 else bif decide ((a.Zz.length:Int)>4) then some false
 else bif decide ((a.ZA.length:Int)>6) then some false
 else Rr N a N 0
def Uo(N:Nat)(a:List be)(b:be):Option be:=bif decide (a.length<=140737488355328) && decide ((Vv b.data.toList (a.map (·.data.toList))).length<=140737488355328) then some ⟨(Vv b.data.toList (a.map (·.data.toList))).toArray⟩ else none
def HD(l:List UInt8):Nat->List UInt8
 |0=>[]
 |n+1=>l++HD l n
def MS(N:Nat)(a:be)(b:Int):Option be:=
 bif (decide (0<=b) && decide (b<=140737488355328)) && decide (a.size*b.toNat<=140737488355328) then some ⟨(HD a.data.toList b.toNat).toArray⟩ else none
def ZcX(N:Nat)(a:YG):Option YG:=
 some (⟨ao,a.ZK⟩:YG)
def ZcO(N:Nat)(a:be)(b:YG):Option (Int×Unit×YG):=
 (ZcX N (⟨ao,b.ZK⟩:YG)).bind fun c=>
 (RB c.Builder a).bind fun d=>
 some ((a.size:Int),(),(⟨d,c.ZK⟩:YG))
def Zab(N:Nat)(a:List be)(b:YG):Option YG:=
 (MS N (str [9]) b.ZK).bind fun c=>
 (Uo N a (str [])).bind fun d=>
 (Xy c d).bind fun e=>
 (Xy e (str [10])).bind fun f=>
 (ZcO N f (⟨ao,b.ZK⟩:YG)).bind fun g=>
 some g.2.2
def Ro(N:Nat)(a:Int):Option be:=bif decide ((-9223372036854775808)<=a) && decide (a<=9223372036854775807) then some (RU a) else none
def Gc(N:Nat)(a:Y5)(b:be):Option be:=
 bif decide (a.N>0) then (Ro N a.N).bind fun c=>
 (Xy (str [32,43,32]) c).bind fun d=>
 (Xy b d).bind fun e=>
 some e
 else bif decide (a.N<0) then (Ro N (Yh (0-a.N))).bind fun f=>
 (Xy (str [32,45,32]) f).bind fun g=>
 (Xy b g).bind fun h=>
 some h
 else some b
def Gd(N:Nat)(a:Y5)(b:be):Option be:=
 bif a.Zt==3 then (Xy (str [108,101,110,40]) b).bind fun c=>
 (Xy c (str [41])).bind fun d=>
 Gc N a d
 else Gc N a b
def Gb(N:Nat)(a:Y5):Option be:=
 bif a.Zt==1 then (Ro N a.N).bind fun b=>
 some b
 else bif !(a.Zw.toList==(str []).toList) then (Xy a.Zw (str [46])).bind fun c=>
 (Xy c a.Field).bind fun d=>
 Gd N a d
 else Gd N a a.Field
def ZcZ(N:Nat)(a:YG):Option Unit:=
 some ()
def ZcN(N:Nat)(a:be)(b:YG):Option (Int×Unit×YG):=
 (ZcZ N b).bind fun c=>
 (RB b.Builder a).bind fun d=>
 some ((a.size:Int),(),(⟨d,b.ZK⟩:YG))
def Vd(N:Nat)(a:List be)(b:YG):Option YG:=
 (MS N (str [9]) b.ZK).bind fun c=>
 (Uo N a (str [])).bind fun d=>
 (Xy c d).bind fun e=>
 (Xy e (str [10])).bind fun f=>
 (ZcN N f b).bind fun g=>
 some g.2.2
def Zac(N:Nat)(a:Ys)(b:YG)(c:List be)(d:List be):Option YG:=
 bif decide ((d.length:Int)>0) then (Uo N d (str [32,97,110,100,32])).bind fun e=>
 (Xy (str [32,119,104,101,114,101,32]) e).bind fun f=>
 (Uo N c (str [44,32])).bind fun g=>
 (Vd N ([(str [109,101,115,115,97,103,101,32]),a.Zu,(str [40]),g,(str [41]),f,(str [59])]:List be) b).bind fun h=>
 some h
 else (Uo N c (str [44,32])).bind fun i=>
 (Vd N ([(str [109,101,115,115,97,103,101,32]),a.Zu,(str [40]),i,(str [41]),(str []),(str [59])]:List be) b).bind fun j=>
 some j
def Ls(N:Nat)(a:Ys)(b:YG)(c:List be):Nat->(List be)->Int->Option YG
 |0,_,_=>none
 |d+1,e,f=>
 bif decide (f<(a.ZA.length:Int)) then (idx a.ZA f).bind fun g=>
 (Gb N g.Zx).bind fun h=>
 (Xy h (str [32])).bind fun i=>
 (Xy i g.Op).bind fun j=>
 (Xy j (str [32])).bind fun k=>
 (Gb N g.Zy).bind fun l=>
 (Xy k l).bind fun m=>
 (Y8 e ([m]:List be)).bind fun o=>
 (Ls N a b c d) o (Yh (f+1))
 else Zac N a b c e
def Zad(N:Nat)(a:Ys)(b:YG)(c:List be):Option YG:=
 Ls N a b c N ([]:List be) 0
def GP(N:Nat)(a:List be)(b:Int)(c:List be->Int->Option YG)(d:T3)(e:be):Option YG:=
 (Xy d.Zu e).bind fun f=>
 (Ro N d.Zv.Lo).bind fun g=>
 (Xy f g).bind fun h=>
 (Xy h (str [46,46])).bind fun i=>
 (Ro N d.Zv.Hi).bind fun j=>
 (Xy i j).bind fun k=>
 (Y8 a ([k]:List be)).bind fun l=>
 c l (Yh (b+1))
def Qx(N:Nat)(a:Ys)(b:YG):Nat->(List be)->Int->Option YG
 |0,_,_=>none
 |c+1,d,e=>
 bif decide (e<(a.Zz.length:Int)) then (idx a.Zz e).bind fun f=>
 bif f.Zv.Zt==2 then GP N d e (Qx N a b c) f (str [58,32,116,101,120,116,32])
 else GP N d e (Qx N a b c) f (str [58,32,105,110,116,32])
 else Zad N a b d
def Lr(N:Nat)(a:Ys)(b:YG):Option YG:=
 Qx N a b N ([]:List be) 0
def ZcQ(N:Nat)(a:be)(b:Int):Option YG:=
 (Vd N ([(str [125])]:List be) (⟨a,b⟩:YG)).bind fun c=>
 some c
def Pn(rc:List Yj->YG->Option YG)(a:Int)(b:be->Int->Int->Option YG)(c:List Yj)(d:be)(e:Int):Option YG:=
 (rc c (⟨d,(Yh (e+1))⟩:YG)).bind fun f=>
 b f.Builder (Yh (f.ZK-1)) (Yh (a+1))
def TU(N:Nat)(rc:List Yj->YG->Option YG)(a:be)(b:be)(c:be)(d:(List (List Yj))):Nat->be->Int->Int->Option YG
 |0,_,_,_=>none
 |e+1,f,g,h=>
 bif decide (h<(d.length:Int)) then (idx d h).bind fun i=>
 bif h==0 then (Vd N ([a,(str [32,123])]:List be) (⟨f,g⟩:YG)).bind fun j=>
 Pn rc h (TU N rc a b c d e) i j.Builder j.ZK
 else bif h==(Yh ((d.length:Int)-1)) then bif !(c.toList==(str []).toList) then (Vd N ([(str [125,32]),c,(str [32,123])]:List be) (⟨f,g⟩:YG)).bind fun k=>
 Pn rc h (TU N rc a b c d e) i k.Builder k.ZK
 else (Vd N ([(str [125,32]),b,(str [32,123])]:List be) (⟨f,g⟩:YG)).bind fun l=>
 Pn rc h (TU N rc a b c d e) i l.Builder l.ZK
 else (Vd N ([(str [125,32]),b,(str [32,123])]:List be) (⟨f,g⟩:YG)).bind fun m=>
 Pn rc h (TU N rc a b c d e) i m.Builder m.ZK
 else ZcQ N f g
def Qo(N:Nat)(rc:List Yj->YG->Option YG)(a:be)(b:be)(c:be)(d:(List (List Yj)))(e:YG):Option YG:=
 TU N rc a b c d N e.Builder e.ZK 0
def Zd1(a:be)(b:Int):Option YG:=
 some (⟨a,b⟩:YG)
def Up(N:Nat)(rc:List Yj->YG->Option YG)(a:List Yj):Nat->be->Int->Int->Option YG
 |0,_,_,_=>none
 |b+1,c,d,e=>
 bif decide (e<(a.length:Int)) then (idx a e).bind fun f=>
 bif f.Zt==1 then (Uo N f.To (str [44,32])).bind fun g=>
 (Vd N ([f.ZB,(str [32,45,62,32]),g,(str [58,32]),f.Zu,(str [59])]:List be) (⟨c,d⟩:YG)).bind fun h=>
 (Up N rc a b) h.Builder h.ZK (Yh (e+1))
 else bif f.Zt==2 then bif decide (f.ZC>0) then (Xy (str [99,104,111,105,99,101,32,97,116,32]) f.ZB).bind fun i=>
 (Xy i (str [32,119,105,116,104,105,110,32])).bind fun j=>
 (Ro N f.ZC).bind fun k=>
 (Xy j k).bind fun l=>
 (Qo N rc l (str [111,114]) (str [101,108,115,101]) f.ZD (⟨c,d⟩:YG)).bind fun m=>
 (Up N rc a b) m.Builder m.ZK (Yh (e+1))
 else (Xy (str [99,104,111,105,99,101,32,97,116,32]) f.ZB).bind fun o=>
 (Qo N rc o (str [111,114]) (str []) f.ZD (⟨c,d⟩:YG)).bind fun p=>
 (Up N rc a b) p.Builder p.ZK (Yh (e+1))
 else bif f.Zt==3 then (Xy (str [108,111,111,112,32]) f.Zu).bind fun q=>
 (Qo N rc q (str []) (str []) f.ZD (⟨c,d⟩:YG)).bind fun r=>
 (Up N rc a b) r.Builder r.ZK (Yh (e+1))
 else bif f.Zt==4 then (Vd N ([(str [97,103,97,105,110,32]),f.Zu,(str [59])]:List be) (⟨c,d⟩:YG)).bind fun s=>
 (Up N rc a b) s.Builder s.ZK (Yh (e+1))
 else bif f.Zt==5 then (Qo N rc (str [112,97,114]) (str [97,110,100]) (str []) f.ZD (⟨c,d⟩:YG)).bind fun t=>
 (Up N rc a b) t.Builder t.ZK (Yh (e+1))
 else bif f.Zt==6 then (Uo N f.To (str [44,32])).bind fun u=>
 (Vd N ([(str [99,97,108,108,32]),f.Zu,(str [40]),u,(str [41,32,97,115,32]),f.As,(str [59])]:List be) (⟨c,d⟩:YG)).bind fun v=>
 (Up N rc a b) v.Builder v.ZK (Yh (e+1))
 else (Up N rc a b) c d (Yh (e+1))
 else Zd1 c d
def Zae(N:Nat)(rc:List Yj->YG->Option YG)(a:List Yj)(b:YG):Option YG:=
 Up N rc a N b.Builder b.ZK 0
def Zd2:Nat->(List Yj)->YG->Option YG
 |0,_,_=>none
 |N+1,a0,a1=>Zae N (Zd2 N) a0 a1
def Qy(N:Nat)(a:List Yj)(b:YG):Option YG:=Zd2 N a b
def GQ(N:Nat)(a:YG):Option be:=
 (S2 a.Builder).bind fun b=>
 (S2 a.Builder).bind fun c=>
 some a.Builder
def Zhx(N:Nat)(a:YG):Option be:=
 some ao
def BK(N:Nat)(a:Int)(b:be->Int->Int->Option be)(c:Yl)(d:be)(e:Int):Option be:=
 (Qy N c.ZG (⟨d,e⟩:YG)).bind fun f=>
 (Vd N ([(str [125])]:List be) (⟨f.Builder,(Yh (f.ZK-1))⟩:YG)).bind fun g=>
 b g.Builder g.ZK (Yh (a+1))
def M9(N:Nat)(a:Int)(b:be->Int->Int->Option be)(c:Yl):Nat->be->Int->Int->Option be
 |0,_,_,_=>none
 |d+1,e,f,g=>
 bif decide (g<(c.ZF.length:Int)) then (idx c.ZF g).bind fun h=>
 (Lr N h (⟨e,f⟩:YG)).bind fun i=>
 (M9 N a b c d) i.Builder i.ZK (Yh (g+1))
 else BK N a b c e f
def TY(N:Nat)(a:List Yl):Nat->be->Int->Int->Option be
 |0,_,_,_=>none
 |b+1,c,d,e=>
 bif decide (e<(a.length:Int)) then (idx a e).bind fun f=>
 (Uo N f.ZE (str [44,32])).bind fun g=>
 (Vd N ([(str [112,114,111,116,111,99,111,108,32]),f.Zu,(str [40]),g,(str [41,32,123])]:List be) (⟨c,d⟩:YG)).bind fun h=>
 M9 N e (TY N a b) f N h.Builder (Yh (h.ZK+1)) 0
 else (GQ N (⟨c,d⟩:YG)).bind fun i=>
 some i
def BL(N:Nat)(a:List Yl)(b:Yl)(c:be)(d:Int):Option be:=
 (Qy N b.ZG (⟨c,d⟩:YG)).bind fun e=>
 (Vd N ([(str [125])]:List be) (⟨e.Builder,(Yh (e.ZK-1))⟩:YG)).bind fun f=>
 TY N a N f.Builder f.ZK (Yh (0+1))
def La(N:Nat)(a:List Yl)(b:Yl):Nat->be->Int->Int->Option be
 |0,_,_,_=>none
 |c+1,d,e,f=>
 bif decide (f<(b.ZF.length:Int)) then (idx b.ZF f).bind fun g=>
 (Lr N g (⟨d,e⟩:YG)).bind fun h=>
 (La N a b c) h.Builder h.ZK (Yh (f+1))
 else BL N a b d e
def BJ(N:Nat)(a:List Yl):Option be:=
 bif decide (0<(a.length:Int)) then (idx a 0).bind fun b=>
 (Uo N b.ZE (str [44,32])).bind fun c=>
 (Zab N ([(str [112,114,111,116,111,99,111,108,32]),b.Zu,(str [40]),c,(str [41,32,123])]:List be) (⟨ao,0⟩:YG)).bind fun d=>
 La N a b N d.Builder (Yh (d.ZK+1)) 0
 else (Zhx N (⟨ao,0⟩:YG)).bind fun e=>
 some e
def Zc2(N:Nat)(a:List Yl):Option Bool:=
 (BJ N a).bind fun b=>
 some (decide ((b.size:Int)<=8000))
def Zc3(a:Int)(b:Int->Option Bool):Option Bool:=
 b (Yh (a+1))
def MX(N:Nat)(a:Int)(b:Int->Option Bool)(c:Yl):Nat->Int->Option Bool
 |0,_=>none
 |d+1,e=>
 bif decide (e<(c.ZF.length:Int)) then (idx c.ZF e).bind fun f=>
 (BI N f).bind fun g=>
 bif !g then some false
 else (MX N a b c d) (Yh (e+1))
 else Zc3 a b
def Qp(N:Nat)(a:List Yl):Nat->Int->Option Bool
 |0,_=>none
 |b+1,c=>
 bif decide (c<(a.length:Int)) then (idx a c).bind fun d=>
 (Vx N d.Zu).bind fun e=>
 bif !e then some false
 else (M7 N d.ZE 6).bind fun f=>
 bif !f then some false
 else bif decide ((d.ZF.length:Int)>40) then some false
 else (Gr N d.ZG 1 0).bind fun g=>
 bif !g.1 then some false
 else MX N c (Qp N a b) d N 0
 else Zc2 N a
def MU(N:Nat)(a:List Yl):Option Bool:=
 bif decide ((a.length:Int)>10) then some false
 else Qp N a N 0
def Zd8(N:Nat)(a:List Yl)(b:List YO)(c:Int)(d:Int)(e:Int)(f:Int):Option ((List Yl)×Int×Int):=
 bif f != 0 then some (([]:List Yl),e,f)
 else (MU N a).bind fun g=>
 bif !g then some (([]:List Yl),0,6)
 else some (a,0,0)
def Zd9(N:Nat)(a:List YO×Int×Int):Nat->(List Yl)->(List YO)->Int->Int->Int->Int->Option ((List Yl)×Int×Int)
 |0,_,_,_,_,_,_=>none
 |b+1,c,d,e,f,g,h=>
 bif decide (e<(a.1.length:Int)) then bif h==0 then (z15 N (⟨d,e,f,g,h⟩:Yw)).bind fun i=>
 (Y8 c ([i.1]:List Yl)).bind fun j=>
 (Zd9 N a b) j i.2.l' i.2.n' i.2.end' i.2.ZI i.2.ZJ
 else Zd8 N c d e f g h
 else Zd8 N c d e f g h
def z9(N:Nat)(a:be):Option ((List Yl)×Int×Int):=
 (z14 N a).bind fun b=>
 bif b.2.2 != 0 then some (([]:List Yl),b.2.1,b.2.2)
 else Zd9 N b N ([]:List Yl) b.1 0 (a.size:Int) 0 0
def Zdw(N:Nat)(a:Yl)(b:Yl):Option Bool:=
 some (a.Zu.toList==b.Zu.toList)
def Zd3:Option Int:=
 some (-1)
def Lt(N:Nat)(a:List Yl)(b:Yl):Nat->Int->Option Int
 |0,_=>none
 |c+1,d=>
 bif decide (d<(a.length:Int)) then (idx a d).bind fun e=>
 (Zdw N e b).bind fun f=>
 bif f then some d
 else (Lt N a b c) (Yh (d+1))
 else Zd3
def Zaf(N:Nat)(a:List Yl)(b:Yl):Option Int:=
 Lt N a b N 0
def Gu(N:Nat)(a:List Yl)(b:Yl):Option Bool:=
 (Zaf N a b).bind fun c=>
 some (decide (c>=0))
def Gv(N:Nat)(a:List be)(b:Int):Option Bool:=
 (lsl a none (some b)).bind fun c=>
 (idx a b).bind fun d=>
 (V4 N c d).bind fun e=>
 some e
def Zd7(N:Nat)(a:Ys)(b:Ys):Option Bool:=
 some (a.Zu.toList==b.Zu.toList)
def Zcj:Option Int:=
 some (-1)
def MD(N:Nat)(a:List Ys)(b:Ys):Nat->Int->Option Int
 |0,_=>none
 |c+1,d=>
 bif decide (d<(a.length:Int)) then (idx a d).bind fun e=>
 (Zd7 N e b).bind fun f=>
 bif f then some d
 else (MD N a b c) (Yh (d+1))
 else Zcj
def Be(N:Nat)(a:List Ys)(b:Ys):Option Int:=
 MD N a b N 0
def Zaj(N:Nat)(a:List Ys)(b:Ys):Option Bool:=
 (Be N a b).bind fun c=>
 some (decide (c>=0))
def ZbZ(N:Nat)(a:T3)(b:T3):Option Bool:=
 some (a.Zu.toList==b.Zu.toList)
def ZdD:Option Int:=
 some (-1)
def Ld(N:Nat)(a:List T3)(b:T3):Nat->Int->Option Int
 |0,_=>none
 |c+1,d=>
 bif decide (d<(a.length:Int)) then (idx a d).bind fun e=>
 (ZbZ N e b).bind fun f=>
 bif f then some d
 else (Ld N a b c) (Yh (d+1))
 else ZdD
def B3(N:Nat)(a:List T3)(b:T3):Option Int:=
 Ld N a b N 0
def D4(N:Nat)(a:List T3)(b:T3):Option Bool:=
 (B3 N a b).bind fun c=>
 some (decide (c>=0))
def ZcR(N:Nat)(a:Ys)(b:Y5):Option Bool:=
 some (a.Zu.toList==b.Zw.toList)
def Zck:Option Int:=
 some (-1)
def ME(N:Nat)(a:List Ys)(b:Y5):Nat->Int->Option Int
 |0,_=>none
 |c+1,d=>
 bif decide (d<(a.length:Int)) then (idx a d).bind fun e=>
 (ZcR N e b).bind fun f=>
 bif f then some d
 else (ME N a b c) (Yh (d+1))
 else Zck
def Bf(N:Nat)(a:List Ys)(b:Y5):Option Int:=
 ME N a b N 0
def ZcS(N:Nat)(a:T3)(b:Y5):Option Bool:=
 some (a.Zu.toList==b.Field.toList)
def ZdE:Option Int:=
 some (-1)
def Le(N:Nat)(a:List T3)(b:Y5):Nat->Int->Option Int
 |0,_=>none
 |c+1,d=>
 bif decide (d<(a.length:Int)) then (idx a d).bind fun e=>
 (ZcS N e b).bind fun f=>
 bif f then some d
 else (Le N a b c) (Yh (d+1))
 else ZdE
def B4(N:Nat)(a:List T3)(b:Y5):Option Int:=
 Le N a b N 0
def HY(N:Nat)(a:Y5)(b:be)(c:List T3)(d:List Xv):Option Int:=
 (B4 N c a).bind fun e=>
 bif decide (e<0) then some 0
 else (idx c e).bind fun f=>
 some f.Zv.Zt
def D5(N:Nat)(a:Yp)(b:Ys)(c:Y5):Option Int:=
 bif !(c.Zw.toList==(str []).toList) then (Bf N a.p'.ZF c).bind fun d=>
 bif decide (d<0) then some 0
 else (idx a.p'.ZF d).bind fun e=>
 HY N c e.Zu e.Zz e.ZA
 else HY N c b.Zu b.Zz b.ZA
def Zb0(N:Nat)(a:List YT):Option (List YT):=
 (Y8 ([]:List YT) a).bind fun b=>
 some b
def ZcT(N:Nat)(a:Ys)(b:Yj):Option Bool:=
 some (a.Zu.toList==b.Zu.toList)
def Zcl:Option Int:=
 some (-1)
def MF(N:Nat)(a:List Ys)(b:Yj):Nat->Int->Option Int
 |0,_=>none
 |c+1,d=>
 bif decide (d<(a.length:Int)) then (idx a d).bind fun e=>
 (ZcT N e b).bind fun f=>
 bif f then some d
 else (MF N a b c) (Yh (d+1))
 else Zcl
def Bg(N:Nat)(a:List Ys)(b:Yj):Option Int:=
 MF N a b N 0
def Zak(N:Nat)(a:List Ys)(b:Yj):Option Bool:=
 (Bg N a b).bind fun c=>
 some (decide (c>=0))
def Zb1(N:Nat)(a:YT)(b:Yj):Option Bool:=
 some (a.Z5.toList==b.Zu.toList)
def Zb2:Option Int:=
 some (-1)
def Mt(N:Nat)(a:List YT)(b:Yj):Nat->Int->Option Int
 |0,_=>none
 |c+1,d=>
 bif decide (d<(a.length:Int)) then (idx a d).bind fun e=>
 (Zb1 N e b).bind fun f=>
 bif f then some d
 else (Mt N a b c) (Yh (d+1))
 else Zb2
def D8(N:Nat)(a:List YT)(b:Yj):Option Int:=
 Mt N a b N 0
def D7(N:Nat)(a:List YT)(b:Yj):Option Bool:=
 (D8 N a b).bind fun c=>
 some (decide (c>=0))
def Zb4(N:Nat)(a:YT)(b:Yj):Option Bool:=
 bif a.Z5.toList==b.Zu.toList then some (!a.Z7)
 else some false
def Zb3:Option Int:=
 some (-1)
def Mu(N:Nat)(a:List YT)(b:Yj):Nat->Int->Option Int
 |0,_=>none
 |c+1,d=>
 bif decide (d<(a.length:Int)) then (idx a d).bind fun e=>
 (Zb4 N e b).bind fun f=>
 bif f then some d
 else (Mu N a b c) (Yh (d+1))
 else Zb3
def D9(N:Nat)(a:List YT)(b:Yj):Option Int:=
 Mu N a b N 0
def ZcU(N:Nat)(a:Yl)(b:Yj):Option Bool:=
 some (a.Zu.toList==b.Zu.toList)
def Zd4:Option Int:=
 some (-1)
def Lu(N:Nat)(a:List Yl)(b:Yj):Nat->Int->Option Int
 |0,_=>none
 |c+1,d=>
 bif decide (d<(a.length:Int)) then (idx a d).bind fun e=>
 (ZcU N e b).bind fun f=>
 bif f then some d
 else (Lu N a b c) (Yh (d+1))
 else Zd4
def Zag(N:Nat)(a:List Yl)(b:Yj):Option Int:=
 Lu N a b N 0
def z46(N:Nat)(a:Yp)(b:be)(c:Int):Option Yp:=
 bif a.Z4.ZZ==0 then some (⟨a.Z2,a.p',a.Z3,(⟨a.p'.Zu,b,c⟩:Y6)⟩:Yp)
 else some a
def Ms(N:Nat)(a:Yp)(b:List be)(c:Int):Option Yp:=
 (idx b c).bind fun d=>
 (V4 N a.p'.ZE d).bind fun e=>
 bif !e then (idx b c).bind fun f=>
 (z46 N a f 12).bind fun g=>
 some g
 else (Gv N b c).bind fun h=>
 bif h then (idx b c).bind fun i=>
 (z46 N a i 12).bind fun j=>
 some j
 else some a
def Mv(N:Nat)(a:Yj)(b:List Yl)(c:be)(d:List be)(e:List Ys)(f:List Yj)(g:List be)(h:be)(i:be)(j:Int):Option Yp:=
 (V4 N g a.As).bind fun k=>
 bif k then (z46 N (⟨b,(⟨c,d,e,f⟩:Yl),g,(⟨h,i,j⟩:Y6)⟩:Yp) a.As 9).bind fun l=>
 (Y8 l.Z3 ([a.As]:List be)).bind fun m=>
 some (⟨l.Z2,l.p',m,l.Z4⟩:Yp)
 else (Y8 g ([a.As]:List be)).bind fun o=>
 some (⟨b,(⟨c,d,e,f⟩:Yl),o,(⟨h,i,j⟩:Y6)⟩:Yp)
def Mw(N:Nat)(a:Yj):Nat->(List Yl)->be->(List be)->(List Ys)->(List Yj)->(List be)->be->be->Int->Int->Option Yp
 |0,_,_,_,_,_,_,_,_,_,_=>none
 |b+1,c,d,e,f,g,h,i,j,k,l=>
 bif decide (l<(a.To.length:Int)) then (Ms N (⟨c,(⟨d,e,f,g⟩:Yl),h,(⟨i,j,k⟩:Y6)⟩:Yp) a.To l).bind fun m=>
 (Mw N a b) m.Z2 m.p'.Zu m.p'.ZE m.p'.ZF m.p'.ZG m.Z3 m.Z4.ZY m.Z4.Zu m.Z4.ZZ (Yh (l+1))
 else Mv N a c d e f g h i j k
def H2(N:Nat)(a:Yj)(b:List Yl)(c:be)(d:List be)(e:List Ys)(f:List Yj)(g:List be)(h:be)(i:be)(j:Int):Option Yp:=
 Mw N a N b c d e f g h i j 0
def Bb(N:Nat)(a:Yp)(b:Yj):Option Yp:=
 (Zag N a.Z2 b).bind fun c=>
 bif decide (c<0) then (z46 N a b.Zu 10).bind fun d=>
 some d
 else (idx a.Z2 c).bind fun e=>
 bif (e.ZE.length:Int) != (b.To.length:Int) then (z46 N a b.Zu 1).bind fun f=>
 H2 N b f.Z2 f.p'.Zu f.p'.ZE f.p'.ZF f.p'.ZG f.Z3 f.Z4.ZY f.Z4.Zu f.Z4.ZZ
 else H2 N b a.Z2 a.p'.Zu a.p'.ZE a.p'.ZF a.p'.ZG a.Z3 a.Z4.ZY a.Z4.Zu a.Z4.ZZ
def HZ(N:Nat)(a:Yj)(b:List Yl)(c:be)(d:List be)(e:List Ys)(f:List Yj)(g:List be)(h:be)(i:be)(j:Int):Option Yp:=
 (Zak N e a).bind fun k=>
 bif !k then (z46 N (⟨b,(⟨c,d,e,f⟩:Yl),g,(⟨h,i,j⟩:Y6)⟩:Yp) a.Zu 10).bind fun l=>
 some l
 else some (⟨b,(⟨c,d,e,f⟩:Yl),g,(⟨h,i,j⟩:Y6)⟩:Yp)
def Mr(N:Nat)(a:Yj)(b:List be):Nat->(List Yl)->be->(List be)->(List Ys)->(List Yj)->(List be)->be->be->Int->Int->Option Yp
 |0,_,_,_,_,_,_,_,_,_,_=>none
 |c+1,d,e,f,g,h,i,j,k,l,m=>
 bif decide (m<(b.length:Int)) then (Ms N (⟨d,(⟨e,f,g,h⟩:Yl),i,(⟨j,k,l⟩:Y6)⟩:Yp) b m).bind fun o=>
 (Mr N a b c) o.Z2 o.p'.Zu o.p'.ZE o.p'.ZF o.p'.ZG o.Z3 o.Z4.ZY o.Z4.Zu o.Z4.ZZ (Yh (m+1))
 else HZ N a d e f g h i j k l
def D6(N:Nat)(a:Yp)(b:Yj):Option Yp:=
 (Y8 ([b.ZB]:List be) b.To).bind fun c=>
 Mr N b c N a.Z2 a.p'.Zu a.p'.ZE a.p'.ZF a.p'.ZG a.Z3 a.Z4.ZY a.Z4.Zu a.Z4.ZZ 0
def BV(a:List Yl)(b:be)(c:List be)(d:List Ys)(e:List Yj)(f:List be)(g:be)(h:be)(i:Int):Option Yp:=
 some (⟨a,(⟨b,c,d,e⟩:Yl),f,(⟨g,h,i⟩:Y6)⟩:Yp)
def BW(a:Int)(b:List Yl->be->(List be)->(List Ys)->(List Yj)->(List be)->be->be->Int->Int->Option Yp)(c:List Yl)(d:be)(e:List be)(f:List Ys)(g:List Yj)(h:List be)(i:be)(j:be)(k:Int):Option Yp:=
 b c d e f g h i j k (Yh (a+1))
def Lb(rc:Yp->(List Yj)->(List YT)->Option Yp)(a:Int)(b:List Yl->be->(List be)->(List Ys)->(List Yj)->(List be)->be->be->Int->Int->Option Yp)(c:Yj)(d:List YT):Nat->(List Yl)->be->(List be)->(List Ys)->(List Yj)->(List be)->be->be->Int->Int->Option Yp
 |0,_,_,_,_,_,_,_,_,_,_=>none
 |e+1,f,g,h,i,j,k,l,m,o,p=>
 bif decide (p<(c.ZD.length:Int)) then (idx c.ZD p).bind fun q=>
 (rc (⟨f,(⟨g,h,i,j⟩:Yl),k,(⟨l,m,o⟩:Y6)⟩:Yp) q d).bind fun r=>
 (Lb rc a b c d e) r.Z2 r.p'.Zu r.p'.ZE r.p'.ZF r.p'.ZG r.Z3 r.Z4.ZY r.Z4.Zu r.Z4.ZZ (Yh (p+1))
 else BW a b f g h i j k l m o
def BX(N:Nat)(rc:Yp->(List Yj)->(List YT)->Option Yp)(a:Int)(b:List Yl->be->(List be)->(List Ys)->(List Yj)->(List be)->be->be->Int->Int->Option Yp)(c:Yj)(d:List Yl)(e:be)(f:List be)(g:List Ys)(h:List Yj)(i:List be)(j:be)(k:be)(l:Int)(m:List YT):Option Yp:=
 Lb rc a b c m N d e f g h i j k l 0
def Pv(N:Nat)(rc:Yp->(List Yj)->(List YT)->Option Yp)(a:Int)(b:List Yl->be->(List be)->(List Ys)->(List Yj)->(List be)->be->be->Int->Int->Option Yp)(c:Yj)(d:List Yl)(e:be)(f:List be)(g:List Ys)(h:List Yj)(i:List be)(j:be)(k:be)(l:Int)(m:List YT):Nat->(List YT)->Int->Option Yp
 |0,_,_=>none
 |o+1,p,q=>
 bif decide (q<(m.length:Int)) then (idx p q).bind fun r=>
 bif r.Z7 then (idx p q).bind fun s=>
 (Pv N rc a b c d e f g h i j k l m o) (YE p q (⟨s.Z5,s.Z6,true⟩:YT)) (Yh (q+1))
 else (idx p q).bind fun t=>
 (Pv N rc a b c d e f g h i j k l m o) (YE p q (⟨t.Z5,t.Z6,(c.Zt==5)⟩:YT)) (Yh (q+1))
 else BX N rc a b c d e f g h i j k l p
def UT(N:Nat)(rc:Yp->(List Yj)->(List YT)->Option Yp)(a:Int)(b:List Yl->be->(List be)->(List Ys)->(List Yj)->(List be)->be->be->Int->Int->Option Yp)(c:Yj)(d:List Yl)(e:be)(f:List be)(g:List Ys)(h:List Yj)(i:List be)(j:be)(k:be)(l:Int)(m:List YT):Option Yp:=
 Pv N rc a b c d e f g h i j k l m N m 0
def GF(N:Nat)(rc:Yp->(List Yj)->(List YT)->Option Yp)(a:List Yl)(b:be)(c:List be)(d:List Ys)(e:List Yj)(f:List be)(g:be)(h:be)(i:Int)(j:Int)(k:List Yl->be->(List be)->(List Ys)->(List Yj)->(List be)->be->be->Int->Int->Option Yp)(l:Yj)(m:List YT):Option Yp:=
 bif l.Zt==1 then (D6 N (⟨a,(⟨b,c,d,e⟩:Yl),f,(⟨g,h,i⟩:Y6)⟩:Yp) l).bind fun o=>
 UT N rc j k l o.Z2 o.p'.Zu o.p'.ZE o.p'.ZF o.p'.ZG o.Z3 o.Z4.ZY o.Z4.Zu o.Z4.ZZ m
 else bif l.Zt==2 then (Ms N (⟨a,(⟨b,c,d,e⟩:Yl),f,(⟨g,h,i⟩:Y6)⟩:Yp) ([l.ZB]:List be) 0).bind fun p=>
 UT N rc j k l p.Z2 p.p'.Zu p.p'.ZE p.p'.ZF p.p'.ZG p.Z3 p.Z4.ZY p.Z4.Zu p.Z4.ZZ m
 else bif l.Zt==3 then (D7 N m l).bind fun q=>
 bif q then (z46 N (⟨a,(⟨b,c,d,e⟩:Yl),f,(⟨g,h,i⟩:Y6)⟩:Yp) l.Zu 9).bind fun r=>
 (Y8 m ([(⟨l.Zu,true,false⟩:YT)]:List YT)).bind fun s=>
 UT N rc j k l r.Z2 r.p'.Zu r.p'.ZE r.p'.ZF r.p'.ZG r.Z3 r.Z4.ZY r.Z4.Zu r.Z4.ZZ s
 else (Y8 m ([(⟨l.Zu,true,false⟩:YT)]:List YT)).bind fun t=>
 UT N rc j k l a b c d e f g h i t
 else bif l.Zt==4 then (D9 N m l).bind fun u=>
 bif decide (u<0) then (z46 N (⟨a,(⟨b,c,d,e⟩:Yl),f,(⟨g,h,i⟩:Y6)⟩:Yp) l.Zu 10).bind fun v=>
 UT N rc j k l v.Z2 v.p'.Zu v.p'.ZE v.p'.ZF v.p'.ZG v.Z3 v.Z4.ZY v.Z4.Zu v.Z4.ZZ m
 else (idx m u).bind fun w=>
 bif !w.Z6 then (z46 N (⟨a,(⟨b,c,d,e⟩:Yl),f,(⟨g,h,i⟩:Y6)⟩:Yp) l.Zu 7).bind fun x=>
 UT N rc j k l x.Z2 x.p'.Zu x.p'.ZE x.p'.ZF x.p'.ZG x.Z3 x.Z4.ZY x.Z4.Zu x.Z4.ZZ m
 else UT N rc j k l a b c d e f g h i m
 else bif l.Zt==6 then (Bb N (⟨a,(⟨b,c,d,e⟩:Yl),f,(⟨g,h,i⟩:Y6)⟩:Yp) l).bind fun y=>
 UT N rc j k l y.Z2 y.p'.Zu y.p'.ZE y.p'.ZF y.p'.ZG y.Z3 y.Z4.ZY y.Z4.Zu y.Z4.ZZ m
 else UT N rc j k l a b c d e f g h i m
def Pw(N:Nat)(rc:Yp->(List Yj)->(List YT)->Option Yp)(a:List Yj)(b:List Yl)(c:be)(d:List be)(e:List Ys)(f:List Yj)(g:List be)(h:be)(i:be)(j:Int)(k:Int)(l:List Yl->be->(List be)->(List Ys)->(List Yj)->(List be)->be->be->Int->Int->Option Yp)(m:Yj)(o:List YT):Nat->(List YT)->Int->Option Yp
 |0,_,_=>none
 |p+1,q,r=>
 bif decide (r<(o.length:Int)) then (idx q r).bind fun s=>
 bif s.Z6 then (idx q r).bind fun t=>
 (Pw N rc a b c d e f g h i j k l m o p) (YE q r (⟨t.Z5,(k==(Yh ((a.length:Int)-1))),t.Z7⟩:YT)) (Yh (r+1))
 else (idx q r).bind fun u=>
 (Pw N rc a b c d e f g h i j k l m o p) (YE q r (⟨u.Z5,false,u.Z7⟩:YT)) (Yh (r+1))
 else GF N rc b c d e f g h i j k l m q
def VL(N:Nat)(rc:Yp->(List Yj)->(List YT)->Option Yp)(a:List Yj)(b:List YT):Nat->(List Yl)->be->(List be)->(List Ys)->(List Yj)->(List be)->be->be->Int->Int->Option Yp
 |0,_,_,_,_,_,_,_,_,_,_=>none
 |c+1,d,e,f,g,h,i,j,k,l,m=>
 bif decide (m<(a.length:Int)) then (idx a m).bind fun o=>
 (Zb0 N b).bind fun p=>
 Pw N rc a d e f g h i j k l m (VL N rc a b c) o p N p 0
 else BV d e f g h i j k l
def BU(N:Nat)(rc:Yp->(List Yj)->(List YT)->Option Yp)(a:Yp)(b:List Yj)(c:List YT):Option Yp:=
 VL N rc b c N a.Z2 a.p'.Zu a.p'.ZE a.p'.ZF a.p'.ZG a.Z3 a.Z4.ZY a.Z4.Zu a.Z4.ZZ 0
def Zdy:Nat->Yp->(List Yj)->(List YT)->Option Yp
 |0,_,_,_=>none
 |N+1,a0,a1,a2=>BU N (Zdy N) a0 a1 a2
def V3(N:Nat)(a:Yp)(b:List Yj)(c:List YT):Option Yp:=Zdy N a b c
def BO(a:List Yl)(b:be)(c:List be)(d:List Ys)(e:List Yj)(f:List be)(g:be)(h:be)(i:Int):Option Yp:=
 some (⟨a,(⟨b,c,d,e⟩:Yl),f,(⟨g,h,i⟩:Y6)⟩:Yp)
def BP(a:Int)(b:List Yl->be->(List be)->(List Ys)->(List Yj)->(List be)->be->be->Int->Int->Option Yp)(c:List Yl)(d:be)(e:List be)(f:List Ys)(g:List Yj)(h:List be)(i:be)(j:be)(k:Int):Option Yp:=
 b c d e f g h i j k (Yh (a+1))
def Gw(N:Nat)(a:Int)(b:List Yl->be->(List be)->(List Ys)->(List Yj)->(List be)->be->be->Int->Int->Option Yp)(c:T3)(d:List Yl)(e:be)(f:List be)(g:List Ys)(h:List Yj)(i:List be)(j:be)(k:be)(l:Int)(m:Int)(o:Int):Option Yp:=
 bif decide (c.Zv.Lo>c.Zv.Hi) then (z46 N (⟨d,(⟨e,f,g,h⟩:Yl),i,(⟨j,k,l⟩:Y6)⟩:Yp) c.Zu 2).bind fun p=>
 b p.Z2 p.p'.Zu p.p'.ZE p.p'.ZF p.p'.ZG p.Z3 p.Z4.ZY p.Z4.Zu p.Z4.ZZ (Yh (a+1))
 else bif decide (c.Zv.Lo<m) then (z46 N (⟨d,(⟨e,f,g,h⟩:Yl),i,(⟨j,k,l⟩:Y6)⟩:Yp) c.Zu 2).bind fun q=>
 b q.Z2 q.p'.Zu q.p'.ZE q.p'.ZF q.p'.ZG q.Z3 q.Z4.ZY q.Z4.Zu q.Z4.ZZ (Yh (a+1))
 else bif decide (c.Zv.Hi>o) then (z46 N (⟨d,(⟨e,f,g,h⟩:Yl),i,(⟨j,k,l⟩:Y6)⟩:Yp) c.Zu 2).bind fun r=>
 b r.Z2 r.p'.Zu r.p'.ZE r.p'.ZF r.p'.ZG r.Z3 r.Z4.ZY r.Z4.Zu r.Z4.ZZ (Yh (a+1))
 else b d e f g h i j k l (Yh (a+1))
def Gy(N:Nat)(a:Int)(b:List Yl->be->(List be)->(List Ys)->(List Yj)->(List be)->be->be->Int->Int->Option Yp)(c:T3)(d:List Yl)(e:be)(f:List be)(g:List Ys)(h:List Yj)(i:List be)(j:be)(k:be)(l:Int):Option Yp:=
 bif c.Zv.Zt==2 then Gw N a b c d e f g h i j k l 0 40
 else Gw N a b c d e f g h i j k l (-1000) 1000
def SE(N:Nat)(a:Int)(b:List Yl->be->(List be)->(List Ys)->(List Yj)->(List be)->be->be->Int->Int->Option Yp)(c:Ys):Nat->(List Yl)->be->(List be)->(List Ys)->(List Yj)->(List be)->be->be->Int->Int->Option Yp
 |0,_,_,_,_,_,_,_,_,_,_=>none
 |d+1,e,f,g,h,i,j,k,l,m,o=>
 bif decide (o<(c.Zz.length:Int)) then (idx c.Zz o).bind fun p=>
 (lsl c.Zz none (some o)).bind fun q=>
 (D4 N q p).bind fun r=>
 bif r then (z46 N (⟨e,(⟨f,g,h,i⟩:Yl),j,(⟨k,l,m⟩:Y6)⟩:Yp) p.Zu 9).bind fun s=>
 Gy N o (SE N a b c d) p s.Z2 s.p'.Zu s.p'.ZE s.p'.ZF s.p'.ZG s.Z3 s.Z4.ZY s.Z4.Zu s.Z4.ZZ
 else Gy N o (SE N a b c d) p e f g h i j k l m
 else BP a b e f g h i j k l m
def Gz(N:Nat)(a:Int)(b:List Yl->be->(List be)->(List Ys)->(List Yj)->(List be)->be->be->Int->Int->Option Yp)(c:Ys)(d:List Yl)(e:be)(f:List be)(g:List Ys)(h:List Yj)(i:List be)(j:be)(k:be)(l:Int):Option Yp:=
 SE N a b c N d e f g h i j k l 0
def US(N:Nat)(a:Yp):Nat->(List Yl)->be->(List be)->(List Ys)->(List Yj)->(List be)->be->be->Int->Int->Option Yp
 |0,_,_,_,_,_,_,_,_,_,_=>none
 |b+1,c,d,e,f,g,h,i,j,k,l=>
 bif decide (l<(a.p'.ZF.length:Int)) then (idx a.p'.ZF l).bind fun m=>
 (lsl f none (some l)).bind fun o=>
 (Zaj N o m).bind fun p=>
 bif p then (z46 N (⟨c,(⟨d,e,f,g⟩:Yl),h,(⟨i,j,k⟩:Y6)⟩:Yp) m.Zu 9).bind fun q=>
 Gz N l (US N a b) m q.Z2 q.p'.Zu q.p'.ZE q.p'.ZF q.p'.ZG q.Z3 q.Z4.ZY q.Z4.Zu q.Z4.ZZ
 else Gz N l (US N a b) m c d e f g h i j k
 else BO c d e f g h i j k
def BN(N:Nat)(a:Yp):Option Yp:=
 US N a N a.Z2 a.p'.Zu a.p'.ZE a.p'.ZF a.p'.ZG a.Z3 a.Z4.ZY a.Z4.Zu a.Z4.ZZ 0
def BR(a:List Yl)(b:be)(c:List be)(d:List Ys)(e:List Yj)(f:List be)(g:be)(h:be)(i:Int):Option Yp:=
 some (⟨a,(⟨b,c,d,e⟩:Yl),f,(⟨g,h,i⟩:Y6)⟩:Yp)
def BS(a:Int)(b:List Yl->be->(List be)->(List Ys)->(List Yj)->(List be)->be->be->Int->Int->Option Yp)(c:List Yl)(d:be)(e:List be)(f:List Ys)(g:List Yj)(h:List be)(i:be)(j:be)(k:Int):Option Yp:=
 b c d e f g h i j k (Yh (a+1))
def BT(N:Nat)(a:Ys)(b:Int)(c:List Yl->be->(List be)->(List Ys)->(List Yj)->(List be)->be->be->Int->Int->Option Yp)(d:Xv)(e:List Yl)(f:be)(g:List be)(h:List Ys)(i:List Yj)(j:List be)(k:be)(l:be)(m:Int)(o:Int):Option Yp:=
 bif o==1 then (z46 N (⟨e,(⟨f,g,h,i⟩:Yl),j,(⟨k,l,m⟩:Y6)⟩:Yp) a.Zu 11).bind fun p=>
 c p.Z2 p.p'.Zu p.p'.ZE p.p'.ZF p.p'.ZG p.Z3 p.Z4.ZY p.Z4.Zu p.Z4.ZZ (Yh (b+1))
 else bif o==2 then bif !(d.Op.toList==(str [61,61]).toList) then (z46 N (⟨e,(⟨f,g,h,i⟩:Yl),j,(⟨k,l,m⟩:Y6)⟩:Yp) a.Zu 11).bind fun q=>
 c q.Z2 q.p'.Zu q.p'.ZE q.p'.ZF q.p'.ZG q.Z3 q.Z4.ZY q.Z4.Zu q.Z4.ZZ (Yh (b+1))
 else bif d.Zx.N != 0 then (z46 N (⟨e,(⟨f,g,h,i⟩:Yl),j,(⟨k,l,m⟩:Y6)⟩:Yp) a.Zu 11).bind fun r=>
 c r.Z2 r.p'.Zu r.p'.ZE r.p'.ZF r.p'.ZG r.Z3 r.Z4.ZY r.Z4.Zu r.Z4.ZZ (Yh (b+1))
 else bif d.Zy.N != 0 then (z46 N (⟨e,(⟨f,g,h,i⟩:Yl),j,(⟨k,l,m⟩:Y6)⟩:Yp) a.Zu 11).bind fun s=>
 c s.Z2 s.p'.Zu s.p'.ZE s.p'.ZF s.p'.ZG s.Z3 s.Z4.ZY s.Z4.Zu s.Z4.ZZ (Yh (b+1))
 else c e f g h i j k l m (Yh (b+1))
 else c e f g h i j k l m (Yh (b+1))
def GB(a:Int)(b:Int)(c:Int)(d:Int)(e:List Yl->be->(List be)->(List Ys)->(List Yj)->(List be)->be->be->Int->Int->Int->Option Yp)(f:Int)(g:List Yl)(h:be)(i:List be)(j:List Ys)(k:List Yj)(l:List be)(m:be)(o:be)(p:Int):Option Yp:=
 bif f==2 then bif d==0 then bif a==2 then e g h i j k l m o p (Yh (c+1)) (Yh (d+1))
 else e g h i j k l m o p c (Yh (d+1))
 else bif d==1 then bif b==2 then e g h i j k l m o p (Yh (c+1)) (Yh (d+1))
 else e g h i j k l m o p c (Yh (d+1))
 else none
 else e g h i j k l m o p c (Yh (d+1))
def GC(N:Nat)(a:Ys)(b:Int)(c:Int)(d:List Yl)(e:be)(f:List be)(g:List Ys)(h:List Yj)(i:List be)(j:be)(k:be)(l:Int)(m:Int)(o:Int)(p:List Yl->be->(List be)->(List Ys)->(List Yj)->(List be)->be->be->Int->Int->Int->Option Yp)(q:Int)(r:Bool):Option Yp:=
 bif r then (z46 N (⟨d,(⟨e,f,g,h⟩:Yl),i,(⟨j,k,l⟩:Y6)⟩:Yp) a.Zu 11).bind fun s=>
 GB b c m o p q s.Z2 s.p'.Zu s.p'.ZE s.p'.ZF s.p'.ZG s.Z3 s.Z4.ZY s.Z4.Zu s.Z4.ZZ
 else GB b c m o p q d e f g h i j k l
def GD(N:Nat)(a:Ys)(b:Int)(c:Int)(d:List Yl)(e:be)(f:List be)(g:List Ys)(h:List Yj)(i:List be)(j:be)(k:be)(l:Int)(m:Int)(o:Int)(p:List Yl->be->(List be)->(List Ys)->(List Yj)->(List be)->be->be->Int->Int->Int->Option Yp)(q:Int)(r:be)(s:be)(t:Int):Option Yp:=
 bif q==3 then bif o==0 then GC N a b c d e f g h i j k l m o p q (b != 2)
 else bif o==1 then GC N a b c d e f g h i j k l m o p q (c != 2)
 else none
 else GC N a b c d e f g h i j k l m o p q false
def SF(N:Nat)(a:Ys)(b:Int)(c:List Yl->be->(List be)->(List Ys)->(List Yj)->(List be)->be->be->Int->Int->Option Yp)(d:Xv)(e:Int)(f:Int):Nat->(List Yl)->be->(List be)->(List Ys)->(List Yj)->(List be)->be->be->Int->Int->Int->Option Yp
 |0,_,_,_,_,_,_,_,_,_,_,_=>none
 |g+1,h,i,j,k,l,m,o,p,q,r,s=>
 bif decide (s<2) then bif s==0 then GD N a e f h i j k l m o p q r s (SF N a b c d e f g) d.Zx.Zt d.Zx.Zw d.Zx.Field d.Zx.N
 else bif s==1 then GD N a e f h i j k l m o p q r s (SF N a b c d e f g) d.Zy.Zt d.Zy.Zw d.Zy.Field d.Zy.N
 else none
 else BT N a b c d h i j k l m o p q r
def Zdx(N:Nat)(a:Ys)(b:Int)(c:List Yl->be->(List be)->(List Ys)->(List Yj)->(List be)->be->be->Int->Int->Option Yp)(d:Xv)(e:List Yl)(f:be)(g:List be)(h:List Ys)(i:List Yj)(j:List be)(k:be)(l:be)(m:Int)(o:Int)(p:Int):Option Yp:=
 SF N a b c d o p N e f g h i j k l m 0 0
def GA(N:Nat)(a:Ys)(b:List Yl)(c:be)(d:List be)(e:List Ys)(f:List Yj)(g:List be)(h:be)(i:be)(j:Int)(k:Int)(l:Int)(m:Int)(o:List Yl->be->(List be)->(List Ys)->(List Yj)->(List be)->be->be->Int->Int->Int->Int->Option Yp)(p:Int)(q:be)(r:be)(s:Int):Option Yp:=
 bif p==1 then o b c d e f g h i j k l (Yh (m+1))
 else (D5 N (⟨b,(⟨c,d,e,f⟩:Yl),g,(⟨h,i,j⟩:Y6)⟩:Yp) a (⟨p,q,r,s⟩:Y5)).bind fun t=>
 bif m==0 then bif m==0 then bif t==0 then (z46 N (⟨b,(⟨c,d,e,f⟩:Yl),g,(⟨h,i,j⟩:Y6)⟩:Yp) a.Zu 10).bind fun u=>
 o u.Z2 u.p'.Zu u.p'.ZE u.p'.ZF u.p'.ZG u.Z3 u.Z4.ZY u.Z4.Zu u.Z4.ZZ t l (Yh (m+1))
 else o b c d e f g h i j t l (Yh (m+1))
 else bif m==1 then bif l==0 then (z46 N (⟨b,(⟨c,d,e,f⟩:Yl),g,(⟨h,i,j⟩:Y6)⟩:Yp) a.Zu 10).bind fun v=>
 o v.Z2 v.p'.Zu v.p'.ZE v.p'.ZF v.p'.ZG v.Z3 v.Z4.ZY v.Z4.Zu v.Z4.ZZ t l (Yh (m+1))
 else o b c d e f g h i j t l (Yh (m+1))
 else none
 else bif m==1 then bif m==0 then bif k==0 then (z46 N (⟨b,(⟨c,d,e,f⟩:Yl),g,(⟨h,i,j⟩:Y6)⟩:Yp) a.Zu 10).bind fun w=>
 o w.Z2 w.p'.Zu w.p'.ZE w.p'.ZF w.p'.ZG w.Z3 w.Z4.ZY w.Z4.Zu w.Z4.ZZ k t (Yh (m+1))
 else o b c d e f g h i j k t (Yh (m+1))
 else bif m==1 then bif t==0 then (z46 N (⟨b,(⟨c,d,e,f⟩:Yl),g,(⟨h,i,j⟩:Y6)⟩:Yp) a.Zu 10).bind fun x=>
 o x.Z2 x.p'.Zu x.p'.ZE x.p'.ZF x.p'.ZG x.Z3 x.Z4.ZY x.Z4.Zu x.Z4.ZZ k t (Yh (m+1))
 else o b c d e f g h i j k t (Yh (m+1))
 else none
 else none
def Rs(N:Nat)(a:Ys)(b:Int)(c:List Yl->be->(List be)->(List Ys)->(List Yj)->(List be)->be->be->Int->Int->Option Yp)(d:Xv):Nat->(List Yl)->be->(List be)->(List Ys)->(List Yj)->(List be)->be->be->Int->Int->Int->Int->Option Yp
 |0,_,_,_,_,_,_,_,_,_,_,_,_=>none
 |e+1,f,g,h,i,j,k,l,m,o,p,q,r=>
 bif decide (r<2) then bif r==0 then GA N a f g h i j k l m o p q r (Rs N a b c d e) d.Zx.Zt d.Zx.Zw d.Zx.Field d.Zx.N
 else bif r==1 then GA N a f g h i j k l m o p q r (Rs N a b c d e) d.Zy.Zt d.Zy.Zw d.Zy.Field d.Zy.N
 else none
 else Zdx N a b c d f g h i j k l m o p q
def Un(N:Nat)(a:Int)(b:List Yl->be->(List be)->(List Ys)->(List Yj)->(List be)->be->be->Int->Int->Option Yp)(c:Ys):Nat->(List Yl)->be->(List be)->(List Ys)->(List Yj)->(List be)->be->be->Int->Int->Option Yp
 |0,_,_,_,_,_,_,_,_,_,_=>none
 |d+1,e,f,g,h,i,j,k,l,m,o=>
 bif decide (o<(c.ZA.length:Int)) then (idx c.ZA o).bind fun p=>
 Rs N c o (Un N a b c d) p N e f g h i j k l m 0 0 0
 else BS a b e f g h i j k l m
def Vr(N:Nat)(a:Yp):Nat->(List Yl)->be->(List be)->(List Ys)->(List Yj)->(List be)->be->be->Int->Int->Option Yp
 |0,_,_,_,_,_,_,_,_,_,_=>none
 |b+1,c,d,e,f,g,h,i,j,k,l=>
 bif decide (l<(a.p'.ZF.length:Int)) then (idx a.p'.ZF l).bind fun m=>
 Un N l (Vr N a b) m N c d e f g h i j k 0
 else BR c d e f g h i j k
def BQ(N:Nat)(a:Yp):Option Yp:=
 Vr N a N a.Z2 a.p'.Zu a.p'.ZE a.p'.ZF a.p'.ZG a.Z3 a.Z4.ZY a.Z4.Zu a.Z4.ZZ 0
def Zb5(N:Nat)(a:Yl)(b:Yl):Option Bool:=
 some (a.Zu.toList==b.Zu.toList)
def Zd5:Option Int:=
 some (-1)
def Lv(N:Nat)(a:List Yl)(b:Yl):Nat->Int->Option Int
 |0,_=>none
 |c+1,d=>
 bif decide (d<(a.length:Int)) then (idx a d).bind fun e=>
 (Zb5 N e b).bind fun f=>
 bif f then some d
 else (Lv N a b c) (Yh (d+1))
 else Zd5
def Zah(N:Nat)(a:List Yl)(b:Yl):Option Int:=
 Lv N a b N 0
def Zb6(a:List be):Option (List be):=
 some a
def Zb7(a:Int)(b:List be->Int->Option (List be))(c:List be):Option (List be):=
 b c (Yh (a+1))
def My(rc:List Yj->Option (List be))(a:Int)(b:List be->Int->Option (List be))(c:Yj):Nat->(List be)->Int->Option (List be)
 |0,_,_=>none
 |d+1,e,f=>
 bif decide (f<(c.ZD.length:Int)) then (idx c.ZD f).bind fun g=>
 (rc g).bind fun h=>
 (Y8 e h).bind fun i=>
 (My rc a b c d) i (Yh (f+1))
 else Zb7 a b e
def H3(N:Nat)(rc:List Yj->Option (List be))(a:Int)(b:List be->Int->Option (List be))(c:Yj)(d:List be):Option (List be):=
 My rc a b c N d 0
def Sy(N:Nat)(rc:List Yj->Option (List be))(a:List Yj):Nat->(List be)->Int->Option (List be)
 |0,_,_=>none
 |b+1,c,d=>
 bif decide (d<(a.length:Int)) then (idx a d).bind fun e=>
 bif e.Zt==6 then (Y8 c ([e.Zu]:List be)).bind fun f=>
 H3 N rc d (Sy N rc a b) e f
 else H3 N rc d (Sy N rc a b) e c
 else Zb6 c
def Bc(N:Nat)(rc:List Yj->Option (List be))(a:List Yj):Option (List be):=
 Sy N rc a N ([]:List be) 0
def Zb8:Nat->(List Yj)->Option (List be)
 |0,_=>none
 |N+1,a0=>Bc N (Zb8 N) a0
def Mx(N:Nat)(a:List Yj):Option (List be):=Zb8 N a
def Zb9(N:Nat)(a:List be):Option (List be):=bif decide ((a.length:Int)<=4611686018427387903) then some (Rj a) else none
def Zca(N:Nat)(a:List be):Option (List be):=bif decide ((a.length:Int)<=4611686018427387903) then some (Sg a) else none
def Zcc(N:Nat)(a:Yl)(b:be):Option Bool:=
 some (a.Zu.toList==b.toList)
def Zd6:Option Int:=
 some (-1)
def Lw(N:Nat)(a:List Yl)(b:be):Nat->Int->Option Int
 |0,_=>none
 |c+1,d=>
 bif decide (d<(a.length:Int)) then (idx a d).bind fun e=>
 (Zcc N e b).bind fun f=>
 bif f then some d
 else (Lw N a b c) (Yh (d+1))
 else Zd6
def Zai(N:Nat)(a:List Yl)(b:be):Option Int:=
 Lw N a b N 0
def BM(N:Nat)(a:List Yl)(b:be):Option Bool:=
 (Zai N a b).bind fun c=>
 some (decide (c>=0))
def Mz(N:Nat)(a:be)(b:Yp):Option Bool:=
 (BM N b.Z2 a).bind fun c=>
 some (!c)
def ZcK:Option Int:=
 some (-1)
def MQ(N:Nat)(a:List be)(b:Yp):Nat->Int->Option Int
 |0,_=>none
 |c+1,d=>
 bif decide (d<(a.length:Int)) then (idx a d).bind fun e=>
 (Mz N e b).bind fun f=>
 bif f then some d
 else (MQ N a b c) (Yh (d+1))
 else ZcK
def Bo(N:Nat)(a:List be)(b:Yp):Option Int:=
 MQ N a b N 0
def Zcb(a:List be)(b:Int):Option (List be):=
 (lsl a (some b) none).bind fun c=>
 (LW (str []) a (some b) none).bind fun d=>
 (lsl d none (some b)).bind fun e=>
 some e
def Pi(N:Nat)(a:Yp):Nat->(List be)->Int->Int->Option (List be)
 |0,_,_,_=>none
 |b+1,c,d,e=>
 bif decide (e<(c.length:Int)) then (idx c e).bind fun f=>
 (Mz N f a).bind fun g=>
 bif !g then (idx c d).bind fun h=>
 (Pi N a b) (YE c d f) (Yh (d+1)) (Yh (e+1))
 else (Pi N a b) c d (Yh (e+1))
 else Zcb c d
def Bd(N:Nat)(a:List be)(b:Yp):Option (List be):=
 (Bo N a b).bind fun c=>
 bif c==(-1) then some a
 else Pi N b N a c (Yh (c+1))
def Zdz(N:Nat)(a:Yp)(b:List be):Option Yp:=
 bif decide ((b.length:Int)>0) then (z46 N a a.p'.Zu 6).bind fun c=>
 some c
 else some a
def GH(N:Nat)(a:Yp)(b:Int)(c:List be->Int->Option Yp)(d:List be):Option Yp:=
 (Zb9 N d).bind fun e=>
 (Zca N e).bind fun f=>
 (Bd N f a).bind fun g=>
 c g (Yh (b+1))
def SG(N:Nat)(a:Yp)(b:List be)(c:Int)(d:List be->Int->Option Yp):Nat->(List be)->Int->Option Yp
 |0,_,_=>none
 |e+1,f,g=>
 bif decide (g<(a.Z2.length:Int)) then (idx a.Z2 g).bind fun h=>
 (Zah N a.Z2 h).bind fun i=>
 bif i==g then (V4 N b h.Zu).bind fun j=>
 bif j then (Mx N h.ZG).bind fun k=>
 (Y8 f k).bind fun l=>
 (SG N a b c d e) l (Yh (g+1))
 else (SG N a b c d e) f (Yh (g+1))
 else (SG N a b c d e) f (Yh (g+1))
 else GH N a c d f
def Rt(N:Nat)(a:Yp):Nat->(List be)->Int->Option Yp
 |0,_,_=>none
 |b+1,c,d=>
 bif decide (d<5) then SG N a c d (Rt N a b) N ([]:List be) 0
 else Zdz N a c
def z51(N:Nat)(a:Yp):Option Yp:=
 Rt N a N ([a.p'.Zu]:List be) 0
def ZgX:Option Y6:=
 some (⟨(str []),(str []),0⟩:Y6)
def Gg(N:Nat)(a:Int)(b:Int->Option Y6)(c:Yl)(d:List Yl)(e:be)(f:List be)(g:List Ys)(h:List Yj)(i:List be)(j:be)(k:be)(l:Int):Option Y6:=
 (BN N (⟨d,(⟨e,f,g,h⟩:Yl),i,(⟨j,k,l⟩:Y6)⟩:Yp)).bind fun m=>
 (BQ N m).bind fun o=>
 (V3 N o c.ZG ([]:List YT)).bind fun p=>
 (z51 N p).bind fun q=>
 bif q.Z4.ZZ != 0 then some q.Z4
 else b (Yh (a+1))
def Pr(N:Nat)(a:Int)(b:Int->Option Y6)(c:Yl):Nat->(List Yl)->be->(List be)->(List Ys)->(List Yj)->(List be)->be->be->Int->Int->Option Y6
 |0,_,_,_,_,_,_,_,_,_,_=>none
 |d+1,e,f,g,h,i,j,k,l,m,o=>
 bif decide (o<(c.ZE.length:Int)) then (Gv N c.ZE o).bind fun p=>
 bif p then (idx c.ZE o).bind fun q=>
 (z46 N (⟨e,(⟨f,g,h,i⟩:Yl),j,(⟨k,l,m⟩:Y6)⟩:Yp) q 9).bind fun r=>
 (Pr N a b c d) r.Z2 r.p'.Zu r.p'.ZE r.p'.ZF r.p'.ZG r.Z3 r.Z4.ZY r.Z4.Zu r.Z4.ZZ (Yh (o+1))
 else (Pr N a b c d) e f g h i j k l m (Yh (o+1))
 else Gg N a b c e f g h i j k l m
def Pq(N:Nat)(a:Int)(b:Int->Option Y6)(c:Yl)(d:List Yl)(e:be)(f:List be)(g:List Ys)(h:List Yj)(i:List be)(j:be)(k:be)(l:Int):Option Y6:=
 Pr N a b c N d e f g h i j k l 0
def UQ(N:Nat)(a:List Yl):Nat->Int->Option Y6
 |0,_=>none
 |b+1,c=>
 bif decide (c<(a.length:Int)) then (idx a c).bind fun d=>
 (lsl a none (some c)).bind fun e=>
 (Gu N e d).bind fun f=>
 bif f then (z46 N (⟨a,d,([]:List be),(⟨(str []),(str []),0⟩:Y6)⟩:Yp) d.Zu 9).bind fun g=>
 Pq N c (UQ N a b) d g.Z2 g.p'.Zu g.p'.ZE g.p'.ZF g.p'.ZG g.Z3 g.Z4.ZY g.Z4.Zu g.Z4.ZZ
 else Pq N c (UQ N a b) d a d.Zu d.ZE d.ZF d.ZG ([]:List be) (str []) (str []) 0
 else ZgX
def Po(N:Nat)(a:List Yl):Option Y6:=
 (MU N a).bind fun b=>
 bif !b then some (⟨(str []),(str []),1⟩:Y6)
 else UQ N a N 0
def z53(N:Nat)(rc:List Yj->Option Bool)(a:List Yj):Option Bool:=
 (rc a).bind fun b=>
 some (!b)
def Zce:Option Int:=
 some (-1)
def MA(N:Nat)(rc:List Yj->Option Bool)(a:(List (List Yj))):Nat->Int->Option Int
 |0,_=>none
 |b+1,c=>
 bif decide (c<(a.length:Int)) then (idx a c).bind fun d=>
 (z53 N rc d).bind fun e=>
 bif e then some c
 else (MA N rc a b) (Yh (c+1))
 else Zce
def Zcd(N:Nat)(rc:List Yj->Option Bool)(a:(List (List Yj))):Option Int:=
 MA N rc a N 0
def ZdA(N:Nat)(rc:List Yj->Option Bool)(a:(List (List Yj))):Option Bool:=
 (Zcd N rc a).bind fun b=>
 some (decide (b>=0))
def Zc5:Option Bool:=
 some true
def MY(N:Nat)(rc:List Yj->Option Bool)(a:List Yj):Nat->Int->Option Bool
 |0,_=>none
 |b+1,c=>
 bif decide (c<(a.length:Int)) then (idx a c).bind fun d=>
 bif d.Zt==6 then some false
 else bif d.Zt==5 then some false
 else (ZdA N rc d.ZD).bind fun e=>
 bif e then some false
 else (MY N rc a b) (Yh (c+1))
 else Zc5
def ZgZ(N:Nat)(rc:List Yj->Option Bool)(a:List Yj):Option Bool:=
 MY N rc a N 0
def Ps:Nat->(List Yj)->Option Bool
 |0,_=>none
 |N+1,a0=>ZgZ N (Ps N) a0
def z18(N:Nat)(a:List Yj):Option Bool:=Ps N a
def BY(N:Nat)(a:List T3):Option (List T3):=
 (Y8 ([]:List T3) a).bind fun b=>
 some b
def ZdC(N:Nat)(a:T0)(b:Y5):Option Bool:=
 some (a.Zu.toList==b.Zw.toList)
def ZdB:Option Int:=
 some (-1)
def Lc(N:Nat)(a:List T0)(b:Y5):Nat->Int->Option Int
 |0,_=>none
 |c+1,d=>
 bif decide (d<(a.length:Int)) then (idx a d).bind fun e=>
 (ZdC N e b).bind fun f=>
 bif f then some d
 else (Lc N a b c) (Yh (d+1))
 else ZdB
def BZ(N:Nat)(a:List T0)(b:Y5):Option Int:=
 Lc N a b N 0
def ZdG(N:Nat)(a:T3)(b:Y5):Option Bool:=
 some (a.Zu.toList==b.Field.toList)
def ZdF:Option Int:=
 some (-1)
def Lf(N:Nat)(a:List T3)(b:Y5):Nat->Int->Option Int
 |0,_=>none
 |c+1,d=>
 bif decide (d<(a.length:Int)) then (idx a d).bind fun e=>
 (ZdG N e b).bind fun f=>
 bif f then some d
 else (Lf N a b c) (Yh (d+1))
 else ZdF
def B5(N:Nat)(a:List T3)(b:Y5):Option Int:=
 Lf N a b N 0
def GI(N:Nat)(a:Y5)(b:be)(c:List T3)(d:Int)(e:List T1)(f:(List (Int×Int))):Option (Vs×Bool):=
 (B5 N c a).bind fun g=>
 bif a.Zt==2 then (idx c g).bind fun h=>
 some ((⟨(Yh (d+g)),a.N⟩:Vs),(h.Zv.Zt==2))
 else some ((⟨(Yh (d+g)),a.N⟩:Vs),false)
def Px(N:Nat)(a:Y5)(b:List T0)(c:Int):Option (Vs×Bool):=
 bif a.Zt==1 then some ((⟨(-1),a.N⟩:Vs),false)
 else (idx b c).bind fun d=>
 bif !(a.Zw.toList==(str []).toList) then (BZ N b a).bind fun e=>
 (idx b e).bind fun f=>
 GI N a f.Zu f.Zz f.ZN f.ZO.ZL f.ZO.ZM
 else GI N a d.Zu d.Zz d.ZN d.ZO.ZL d.ZO.ZM
def Ql(N:Nat)(a:Vs)(b:Vs)(c:Int):Option T1:=
 some (⟨a.x',b.x',(Yh ((Yh (b.n'-a.n'))-c))⟩:T1)
def B6(N:Nat)(a:be)(b:Vs)(c:Vs):Option (List T1):=
 bif a.toList==(str [60]).toList then (Ql N b c 1).bind fun d=>
 some ([d]:List T1)
 else bif a.toList==(str [60,61]).toList then (Ql N b c 0).bind fun e=>
 some ([e]:List T1)
 else bif a.toList==(str [62]).toList then (Ql N c b 1).bind fun f=>
 some ([f]:List T1)
 else bif a.toList==(str [62,61]).toList then (Ql N c b 0).bind fun g=>
 some ([g]:List T1)
 else (Ql N b c 0).bind fun h=>
 (Ql N c b 0).bind fun i=>
 some ([h,i]:List T1)
def WL(d:T0):T0:=⟨d.Zu,d.Zz,d.ZN,⟨[],[]⟩⟩
def Tx:List T0->List T5->List T0
 |d::ds,g::gs=>⟨d.Zu,d.Zz,d.ZN,g⟩::Tx ds gs
 |_,_=>[]
def UR(N:Nat)(ds:List T0)(i:Int)(ws:List Xv):Nat->Int->List T1->List (Int×Int)->Option (List T1×List (Int×Int))
 |0,_,_,_=>none
 |n+1,k,D,E=>bif decide (k<(ws.length:Int)) then ((idx ws k).bind fun a=>(Px N a.Zx ds i).bind fun x=>(Px N a.Zy ds i).bind fun y=>
   bif x.2 then ((Y8 E [(x.1.x',y.1.x')]).bind fun E'=>UR N ds i ws n (Yh (k+1)) D E')
   else ((B6 N a.Op x.1 y.1).bind fun dd=>(Y8 D dd).bind fun D'=>UR N ds i ws n (Yh (k+1)) D' E))
   else some (D,E)
def TW(D:List T1):Nat->Int->Option Bool
 |0,_=>none
 |n+1,k=>bif decide (k<(D.length:Int)) then ((idx D k).bind fun d=>bif decide (d.C<(-20000)) then some false else bif decide (d.C>20000) then some false else TW D n (Yh (k+1))) else some true
def TV(N:Nat)(a:List Ys)(ds:List T0):Nat->Int->List T5->Option (List T0×be×Int)
 |0,_,_=>none
 |n+1,i,G=>bif decide (i<(a.length:Int)) then ((idx a i).bind fun m=>bif decide (i=(G.length:Int)) then ((idx ds i).bind fun _=>
   (UR N ds i m.ZA N 0 [] []).bind fun p=>(TW p.1 N 0).bind fun ok=>
   bif ok then TV N a ds n (Yh (i+1)) (G++[⟨p.1,p.2⟩]) else some ([],m.Zu,2)) else none)
   else bif aF G.length ds.length then some (Tx ds G,str [],0) else none
def Bu(N:Nat)(a:List Ys)(ds:List T0)(n:Int):Option (List T0×be×Int):=
 bif decide (n>24) then some ([],str [],6) else TV N a (ds.map WL) N 0 []
def Pt(N:Nat)(a:List Ys):Nat->List T0->Int->Int->Option (List T0×be×Int)
 |0,_,_,_=>none
 |n+1,ds,c,i=>bif decide (i<(a.length:Int)) then ((idx a i).bind fun m=>(BY N m.Zz).bind fun fs=>(Y8 ds [⟨m.Zu,fs,c,⟨[],[]⟩⟩]).bind fun ds'=>
   Pt N a n ds' (Yh (c+(m.Zz.length:Int))) (Yh (i+1)))
   else Bu N a ds c
def Gh(N:Nat)(a:List Ys):Option (List T0×be×Int):=
 (Po N [⟨(str [80]),[(str [65])],a,[]⟩]).bind fun b=>bif b.ZZ != 0 then some ([],str [],1) else Pt N a N [] 0 0
def Zco(N:Nat)(a:Ys)(b:Yj):Option Bool:=
 some (a.Zu.toList==b.Zu.toList)
def Zcn:Option Int:=
 some (-1)
def MG(N:Nat)(a:List Ys)(b:Yj):Nat->Int->Option Int
 |0,_=>none
 |c+1,d=>
 bif decide (d<(a.length:Int)) then (idx a d).bind fun e=>
 (Zco N e b).bind fun f=>
 bif f then some d
 else (MG N a b c) (Yh (d+1))
 else Zcn
def Zcm(N:Nat)(a:List Ys)(b:Yj):Option Int:=
 MG N a b N 0
abbrev X4:=List (be×Int)
abbrev WJ:=Int×List YU
/-- A round of a send. -/
def Mi(N:Nat)(roles:List be)(x:Yj)(label:Int)(a:Nat)(i:Nat)(t:be)(b:WJ):Option WJ:=
  (TT N roles x.ZB).bind fun f=>(TT N roles t).bind fun q=>
    bif aY (a+b.2.length+1) lim then some (((a+b.2.length:Nat):Int),b.2++[⟨[],[⟨⟨f,q,label⟩,b.1,decide ((i:Int)>0)⟩],[]⟩]) else none
/-- The branches of a choice. -/
def QN(N:Nat)(lst:List Yj->Int->X4->Nat->Option WJ)(x:Yj)(lP:Int)(loops:X4)(a:Nat):Nat->Int->Int->List Int->List YU->Option (Int×List Int×List YU)
  |0,_,_,_,_=>none
  |n+1,i,o,D,ns=>bif decide (i<(x.ZD.length:Int)) then ((idx x.ZD i).bind fun b=>(lst b lP loops (a+1+ns.length)).bind fun r=>(Y8 D [r.1]).bind fun D'=>
      QN N lst x lP loops a n (Yh (i+1)) r.1 D' (ns++r.2)) else some (o,D,ns)
def P0(N:Nat)(roles:List be)(msgs:List Ys)(lst:List Yj->Int->X4->Nat->Option WJ)(x:Yj)(lP:Int)(loops:X4)(a:Nat):Option WJ:=
  bif x.Zt==4 then some ((YR loops x.Zu).getD 0,[])
  else bif x.Zt==1 then
    (Zcm N msgs x).bind fun label=>Sd (Mi N roles x label a) x.To (lP,[])
  else bif aY (a+1) lim then (bif x.Zt==3 then
      ((idx x.ZD 0).bind fun b=>(lst b lP (Xf loops x.Zu (a:Int)) (a+1)).bind fun r=>some ((a:Int),⟨[r.1],[],[]⟩::r.2))
    else ((TT N roles x.ZB).bind fun ro=>(QN N lst x lP loops a N 0 0 [] []).bind fun r=>
      some ((a:Int),⟨r.2.1,[],[⟨ro,x.ZC,r.1⟩]⟩::r.2.2))) else none
def Dx(itm:Yj->Int->X4->Nat->Option WJ)(l:List Yj)(lP:Int)(loops:X4)(a:Nat):Option WJ:=
  Sd (fun _ x (b:WJ)=>(itm x b.1 loops (a+b.2.length)).bind fun r=>some (r.1,b.2++r.2)) l (lP,[])
def Tz(N:Nat)(roles:List be)(msgs:List Ys):Nat->List Yj->Int->X4->Nat->Option WJ
  |0=>fun _ _ _ _=>none
  |n+1=>Dx (P0 N roles msgs (Tz N roles msgs n))
def G4(N:Nat)(roles:List be)(msgs:List Ys)(nodes:List YU)(l:List Yj)(lP:Int):Option WJ:=
 (Tz N roles msgs N l lP [] nodes.length).bind fun r=>some (r.1,nodes++r.2)
def Zch(N:Nat)(a:List Int):Option (List Int):=
 (Y8 ([]:List Int) a).bind fun b=>
 some b
def Zci(N:Nat)(a:List Int):Option (List Int):=bif decide ((a.length:Int)<=4611686018427387903) then some (Qe a) else none
def ZdH(N:Nat)(a:List Int):Option (List Int):=
 (Zci N a).bind fun b=>
 some b
def Qs(N:Nat)(a:X5):Nat->(List (Int×Bool))->(List Int)->(List Int)->Option (List Int)
 |0,_,_,_=>none
 |b+1,c,d,e=>
 bif decide ((e.length:Int)>0) then (idx e (Yh ((e.length:Int)-1))).bind fun f=>
 (lsl e none (some (Yh ((e.length:Int)-1)))).bind fun g=>
 (some ((YR c f).getD false)).bind fun h=>
 bif h then (Qs N a b) c d g
 else (Y8 d ([f]:List Int)).bind fun i=>
 (idx a.Ye f).bind fun j=>
 (Y8 g j.Yb).bind fun k=>
 (Qs N a b) (Xf c f true) i k
 else ZdH N d
def Lg(N:Nat)(a:X5)(b:List Int):Option (List Int):=
 (Zch N b).bind fun c=>
 Qs N a N ([]:(List (Int×Bool))) ([]:List Int) c
def ZcW(N:Nat)(a:be):Option be:=
 some ao
def Gi(a:be)(b:Int)(c:Bool):Option be:=
 bif c then (XO .shr .i32 b 12).bind fun d=>
 (XO .or .u8 224 (wk .u8 (d))).bind fun e=>
 (XO .shr .i32 b 6).bind fun f=>
 (XO .and .u8 (wk .u8 (f)) 63).bind fun g=>
 (XO .or .u8 128 g).bind fun h=>
 (XO .and .u8 (wk .u8 (b)) 63).bind fun i=>
 (XO .or .u8 128 i).bind fun j=>
 (Sa a ([e,h,j]:List Int)).bind fun k=>
 some k
 else bif decide ((wk .u32 (b))>65535) then bif decide ((wk .u32 (b))<=1114111) then (XO .shr .i32 b 18).bind fun l=>
 (XO .or .u8 240 (wk .u8 (l))).bind fun m=>
 (XO .shr .i32 b 12).bind fun o=>
 (XO .and .u8 (wk .u8 (o)) 63).bind fun p=>
 (XO .or .u8 128 p).bind fun q=>
 (XO .shr .i32 b 6).bind fun r=>
 (XO .and .u8 (wk .u8 (r)) 63).bind fun s=>
 (XO .or .u8 128 s).bind fun t=>
 (XO .and .u8 (wk .u8 (b)) 63).bind fun u=>
 (XO .or .u8 128 u).bind fun v=>
 (Sa a ([m,q,t,v]:List Int)).bind fun w=>
 some w
 else (Sa a ([239,191,189]:List Int)).bind fun x=>
 some x
 else (Sa a ([239,191,189]:List Int)).bind fun y=>
 some y
def Zc6(N:Nat)(a:be)(b:Int):Option be:=
 bif decide ((wk .u32 (b))<=2047) then (XO .shr .i32 b 6).bind fun c=>
 (XO .or .u8 192 (wk .u8 (c))).bind fun d=>
 (XO .and .u8 (wk .u8 (b)) 63).bind fun e=>
 (XO .or .u8 128 e).bind fun f=>
 (Sa a ([d,f]:List Int)).bind fun g=>
 some g
 else bif decide ((wk .u32 (b))<55296) then Gi a b true
 else bif decide (57343<(wk .u32 (b))) then Gi a b (decide ((wk .u32 (b))<=65535))
 else Gi a b false
def Ge(N:Nat)(a:be)(b:Int):Option be:=
 bif decide ((wk .u32 (b))<=127) then (Sa a ([(wk .u8 (b))]:List Int)).bind fun c=>
 some c
 else (Zc6 N a b).bind fun d=>
 some d
def H5(N:Nat)(a:Int)(b:be):Option (Int×Unit×be):=
 (ZcW N ao).bind fun c=>
 (Ge N c a).bind fun d=>
 some ((Yh ((d.size:Int)-(c.size:Int))),(),d)
def ZcY(N:Nat)(a:be):Option Unit:=
 some ()
def MC(N:Nat)(a:Int)(b:be):Option (Int×Unit×be):=
 (ZcY N b).bind fun c=>
 (Ge N b a).bind fun d=>
 some ((Yh ((d.size:Int)-(b.size:Int))),(),d)
def GR(N:Nat)(a:be):Option be:=
 (S2 a).bind fun b=>
 (S2 a).bind fun c=>
 some a
def Zhy(N:Nat)(a:be):Option be:=
 some ao
def Li(N:Nat)(a:List Int):Nat->be->Int->Option be
 |0,_,_=>none
 |b+1,c,d=>
 bif decide (d<(a.length:Int)) then (idx a d).bind fun e=>
 (MC N (wk .i32 (e)) c).bind fun f=>
 (Li N a b) f.2.2 (Yh (d+1))
 else (GR N c).bind fun g=>
 some g
def Lh(N:Nat)(a:List Int):Option be:=
 bif decide (0<(a.length:Int)) then (idx a 0).bind fun b=>
 (H5 N (wk .i32 (b)) ao).bind fun c=>
 Li N a N c.2.2 (Yh (0+1))
 else (Zhy N ao).bind fun d=>
 some d
def Gj(N:Nat)(a:Int):Option Bool:=
 some (a != a)
def MZ(N:Nat)(a:Int)(b:Int):Option Int:=
 (Gj N a).bind fun c=>
 (Gj N b).bind fun d=>
 bif c then bif d then some 0
 else some (-1)
 else bif d then some 1
 else bif decide (a<b) then some (-1)
 else bif decide (a>b) then some 1
 else some 0
def Zc8:Option Int:=
 some 0
def Rp(a:List Int):Nat->Int->Option Int
 |0,_=>none
 |b+1,c=>
 bif decide (c<(a.length:Int)) then (idx a c).bind fun d=>
 bif d != 0 then some d
 else (Rp a b) (Yh (c+1))
 else Zc8
def Zc7(N:Nat)(a:List Int):Option Int:=
 Rp a N 0
def z164(N:Nat)(a:T6)(b:T6):Option Int:=
 (MZ N a.ZB b.ZB).bind fun c=>
 (MZ N a.To b.To).bind fun d=>
 (MZ N a.ZP b.ZP).bind fun e=>
 (Zc7 N ([c,d,e]:List Int)).bind fun f=>
 some f
def Zc0(N:Nat)(a:List T6)(b:T6)(c:Int):Option (Int×Bool):=
 bif decide (c<(a.length:Int)) then (idx a c).bind fun d=>
 (z164 N d b).bind fun e=>
 some (c,(e==0))
 else some (c,false)
def SB(N:Nat)(a:List T6)(b:T6):Nat->Int->Int->Option (Int×Bool)
 |0,_,_=>none
 |c+1,d,e=>
 bif decide (d<e) then (XO .shr .u64 (wk .u64 ((Yh (d+e)))) 1).bind fun f=>
 (idx a (Yh (f))).bind fun g=>
 (z164 N g b).bind fun h=>
 bif decide (h<0) then (SB N a b c) (Yh ((Yh (f))+1)) e
 else (SB N a b c) d (Yh (f))
 else Zc0 N a b d
def Bq(N:Nat)(a:List T6)(b:T6):Option (Int×Bool):=
 SB N a b N 0 (a.length:Int)
def W6{α:Type}(xs:List α)(i:Nat)(x:α):List α:=xs.take i++[x]++xs.drop i
abbrev LD:=List T6×List (List Int)×Int×Int
/-- The arcs of a node. -/
def R3(N:Nat)(arcs:List T9):Nat->Int->List T6->List (List Int)->Int->Int->Option LD
  |0,_,_,_,_,_=>none
  |n+1,k,A,T,g,p=>bif decide (k<(arcs.length:Int)) then ((idx arcs k).bind fun a=>(Bq N A a.Z8).bind fun r=>
      bif decide (0<=r.1) && aY r.1.toNat A.length && aY (A.length+1) lim && aF T.length A.length then
        ((bif r.2 then T else W6 T r.1.toNat [])[r.1.toNat]?).bind fun t=>(Y8 t [a.to']).bind fun t'=>
          R3 N arcs n (Yh (k+1)) (bif r.2 then A else W6 A r.1.toNat a.Z8) ((bif r.2 then T else W6 T r.1.toNat []).set r.1.toNat t') (bif a.again' then Yh (g+1) else g) (bif a.again' then p else Yh (p+1))
      else none) else some (A,T,g,p)
def P6(N:Nat)(nodes:List YU)(set:List Int):Nat->Int->List T6->List (List Int)->Int->Int->Option LD
  |0,_,_,_,_,_=>none
  |n+1,k,A,T,g,p=>bif decide (k<(set.length:Int)) then ((idx set k).bind fun m=>(idx nodes m).bind fun nd=>(R3 N nd.Yc N 0 A T g p).bind fun q=>
      P6 N nodes set n (Yh (k+1)) q.1 q.2.1 q.2.2.1 q.2.2.2) else some (A,T,g,p)
def DA(N:Nat)(nodes:List YU)(set:List Int):Option LD:=P6 N nodes set N 0 [] [] 0 0
def G3(N:Nat)(a:X5)(b:List Int):Option LD:=DA N a.Ye b
def ZdI(a:List T6×(List (List Int))×Int×Int)(b:List YX):Option ((List (List Int))×Bool×(List YX)):=
 some (a.2.1,true,b)
def ZdJ(a:Int)(b:List YX->Int->Option ((List (List Int))×Bool×(List YX)))(c:List YX):Option ((List (List Int))×Bool×(List YX)):=
 b c (Yh (a+1))
def Ru(N:Nat)(a:X5)(b:Int)(c:List T6×(List (List Int))×Int×Int)(d:Int)(e:List YX->Int->Option ((List (List Int))×Bool×(List YX)))(f:YU):Nat->(List YX)->Int->Option ((List (List Int))×Bool×(List YX))
 |0,_,_=>none
 |g+1,h,i=>
 bif decide (i<(f.Yd.length:Int)) then (idx f.Yd i).bind fun j=>
 (idx h b).bind fun k=>
 bif (c.1.length:Int)==0 then some (c.2.1,false,h)
 else (idx c.1 0).bind fun l=>
 bif l.ZB != j.Z9 then some (c.2.1,false,h)
 else bif j.ticks'==0 then (Ru N a b c d e f g) h (Yh (i+1))
 else (Lg N a ([j.Ya]:List Int)).bind fun m=>
 (G3 N a m).bind fun o=>
 bif (o.1.length:Int) != 1 then some (c.2.1,false,h)
 else (idx m 0).bind fun p=>
 bif p==0 then some (c.2.1,false,h)
 else bif decide (k.ticks'>0) then bif k.ticks' != j.ticks' then some (c.2.1,false,h)
 else (idx o.1 0).bind fun q=>
 bif !((k.other'.ZB==q.ZB) && ((k.other'.To==q.To) && ((k.other'.ZP==q.ZP) && true))) then some (c.2.1,false,h)
 else (idx o.1 0).bind fun r=>
 (idx (YE h b (⟨k.set',k.end',k.again',j.ticks',k.other',k.acts',k.to'⟩:YX)) b).bind fun s=>
 (Ru N a b c d e f g) (YE (YE h b (⟨k.set',k.end',k.again',j.ticks',k.other',k.acts',k.to'⟩:YX)) b (⟨s.set',s.end',s.again',s.ticks',r,s.acts',s.to'⟩:YX)) (Yh (i+1))
 else (idx o.1 0).bind fun t=>
 (idx (YE h b (⟨k.set',k.end',k.again',j.ticks',k.other',k.acts',k.to'⟩:YX)) b).bind fun u=>
 (Ru N a b c d e f g) (YE (YE h b (⟨k.set',k.end',k.again',j.ticks',k.other',k.acts',k.to'⟩:YX)) b (⟨u.set',u.end',u.again',u.ticks',t,u.acts',u.to'⟩:YX)) (Yh (i+1))
 else ZdJ d e h
def Th(N:Nat)(a:X5)(b:Int)(c:List T6×(List (List Int))×Int×Int)(d:YX):Nat->(List YX)->Int->Option ((List (List Int))×Bool×(List YX))
 |0,_,_=>none
 |e+1,f,g=>
 bif decide (g<(d.set'.length:Int)) then (idx d.set' g).bind fun h=>
 (idx a.Ye h).bind fun i=>
 Ru N a b c g (Th N a b c d e) i N f 0
 else ZdI c f
def Vy(N:Nat)(a:X5)(b:List YX)(c:Int)(d:YX)(e:List T6×(List (List Int))×Int×Int)(f:Int)(g:YX)(h:YX)(i:Bool):Option ((List (List Int))×Bool×(List YX)):=
 bif i then some (e.2.1,false,(YE (YE (YE b c (⟨d.set',d.end',d.again',d.ticks',d.other',e.1,d.to'⟩:YX)) c (⟨g.set',g.end',(decide (e.2.2.1>0)),g.ticks',g.other',g.acts',g.to'⟩:YX)) c (⟨h.set',(f==0),h.again',h.ticks',h.other',h.acts',h.to'⟩:YX)))
 else (idx (YE (YE (YE b c (⟨d.set',d.end',d.again',d.ticks',d.other',e.1,d.to'⟩:YX)) c (⟨g.set',g.end',(decide (e.2.2.1>0)),g.ticks',g.other',g.acts',g.to'⟩:YX)) c (⟨h.set',(f==0),h.again',h.ticks',h.other',h.acts',h.to'⟩:YX)) c).bind fun j=>
 Th N a c e j N (YE (YE (YE b c (⟨d.set',d.end',d.again',d.ticks',d.other',e.1,d.to'⟩:YX)) c (⟨g.set',g.end',(decide (e.2.2.1>0)),g.ticks',g.other',g.acts',g.to'⟩:YX)) c (⟨h.set',(f==0),h.again',h.ticks',h.other',h.acts',h.to'⟩:YX)) 0
def Lj(N:Nat)(a:X5)(b:List YX)(c:Int):Option ((List (List Int))×Bool×(List YX)):=
 (idx b c).bind fun d=>
 (G3 N a d.set').bind fun e=>
 (idx d.set' 0).bind fun f=>
 (idx (YE b c (⟨d.set',d.end',d.again',d.ticks',d.other',e.1,d.to'⟩:YX)) c).bind fun g=>
 (idx (YE (YE b c (⟨d.set',d.end',d.again',d.ticks',d.other',e.1,d.to'⟩:YX)) c (⟨g.set',g.end',(decide (e.2.2.1>0)),g.ticks',g.other',g.acts',g.to'⟩:YX)) c).bind fun h=>
 (idx (YE (YE (YE b c (⟨d.set',d.end',d.again',d.ticks',d.other',e.1,d.to'⟩:YX)) c (⟨g.set',g.end',(decide (e.2.2.1>0)),g.ticks',g.other',g.acts',g.to'⟩:YX)) c (⟨h.set',(f==0),h.again',h.ticks',h.other',h.acts',h.to'⟩:YX)) c).bind fun i=>
 bif i.end' then bif decide ((e.1.length:Int)>0) then Vy N a b c d e f g h true
 else bif i.again' then bif decide (e.2.2.2>0) then Vy N a b c d e f g h true
 else bif decide ((e.1.length:Int)>1) then Vy N a b c d e f g h true
 else bif decide ((e.1.length:Int)>0) then (idx e.1 0).bind fun j=>
 (idx e.1 (Yh ((e.1.length:Int)-1))).bind fun k=>
 Vy N a b c d e f g h (j.ZB != k.ZB)
 else Vy N a b c d e f g h false
 else bif decide ((e.1.length:Int)>0) then (idx e.1 0).bind fun l=>
 (idx e.1 (Yh ((e.1.length:Int)-1))).bind fun m=>
 Vy N a b c d e f g h (l.ZB != m.ZB)
 else Vy N a b c d e f g h false
 else bif i.again' then bif decide (e.2.2.2>0) then Vy N a b c d e f g h true
 else bif decide ((e.1.length:Int)>1) then Vy N a b c d e f g h true
 else bif decide ((e.1.length:Int)>0) then (idx e.1 0).bind fun o=>
 (idx e.1 (Yh ((e.1.length:Int)-1))).bind fun p=>
 Vy N a b c d e f g h (o.ZB != p.ZB)
 else Vy N a b c d e f g h false
 else bif decide ((e.1.length:Int)>0) then (idx e.1 0).bind fun q=>
 (idx e.1 (Yh ((e.1.length:Int)-1))).bind fun r=>
 Vy N a b c d e f g h (q.ZB != r.ZB)
 else Vy N a b c d e f g h false
def WB(set:List Int):YX:=⟨set,false,false,0,⟨0,0,0⟩,[],none⟩
def HS(s:YX):YM:=⟨s.set',s.end',s.again',s.ticks',s.other',s.acts',s.to'.getD []⟩
def DX(s:YX)(D:List Int):YX:=⟨s.set',s.end',s.again',s.ticks',s.other',s.acts',some D⟩
/-- The z20 behind a state. -/
def Ri(N:Nat)(a:X5)(T:List (List Int)):Nat->Int->List YX->X4->List Int->Option (List YX×X4×List Int)
  |0,_,_,_,_=>none
  |n+1,k,l,kn,D=>bif decide (k<(T.length:Int)) then ((idx T k).bind fun t=>(Lg N a t).bind fun set=>(Lh N set).bind fun ks=>
      bif (YR kn ks).isSome then ((Y8 D [(YR kn ks).getD 0]).bind fun D'=>Ri N a T n (Yh (k+1)) l kn D')
      else ((Y8 l [WB set]).bind fun l'=>(Y8 D [(l.length:Int)]).bind fun D'=>Ri N a T n (Yh (k+1)) l' (Xf kn ks (l.length:Int)) D')) else some (l,kn,D)
def Mj(N:Nat)(a:X5):Nat->Int->Bool->List YX->X4->Option (List YM×Int)
  |0,_,_,_,_=>none
  |n+1,i,right,l,kn=>bif decide (i<(l.length:Int)) then ((Lj N a l i).bind fun r=>(idx r.2.2 i).bind fun x=>bif x.to'.isSome then none else
      (Ri N a r.1 N 0 r.2.2 kn []).bind fun q=>bif decide ((q.1.length:Int)>1000) then some ([],6) else
        Mj N a n (Yh (i+1)) (bif right then r.2.1 else false) (YE q.1 i (DX x q.2.2)) q.2.1)
    else bif !right then some ([],13) else some (l.map HS,0)
def sgG(N:Nat)(a:X5)(b:Int):Option (List YM×Int):=
  (Lg N a [b]).bind fun set=>(Lh N set).bind fun ks=>Mj N a N 0 true [WB set] (Xf [] ks 0)
def Zar(N:Nat)(a:X5)(b:Int):Option ((List YM)×Int):=sgG N a b
def GJ(N:Nat)(a:Int)(b:List Bool):Option Bool:=
 (idx b a).bind fun c=>
 some c
def Zct:Option Int:=
 some (-1)
def MH(N:Nat)(a:List Int)(b:List Bool):Nat->Int->Option Int
 |0,_=>none
 |c+1,d=>
 bif decide (d<(a.length:Int)) then (idx a d).bind fun e=>
 (GJ N e b).bind fun f=>
 bif f then some d
 else (MH N a b c) (Yh (d+1))
 else Zct
def Zcs(N:Nat)(a:List Int)(b:List Bool):Option Int:=
 MH N a b N 0
def ZdK(N:Nat)(a:List Int)(b:List Bool):Option Bool:=
 (Zcs N a b).bind fun c=>
 some (decide (c>=0))
def Zcv:Option Int:=
 some (-1)
def MI(a:List Bool)(b:Bool):Nat->Int->Option Int
 |0,_=>none
 |c+1,d=>
 bif decide (d<(a.length:Int)) then (idx a d).bind fun e=>
 bif b==e then some d
 else (MI a b c) (Yh (d+1))
 else Zcv
def Zcu(N:Nat)(a:List Bool)(b:Bool):Option Int:=
 MI a b N 0
def B7(N:Nat)(a:List Bool)(b:Bool):Option Bool:=
 (Zcu N a b).bind fun c=>
 some (decide (c>=0))
def PT(N:Nat)(l:List YM)(i:Nat)(b:List Bool×Bool):Option (List Bool×Bool):=
  (idx l (i:Int)).bind fun s=>(bif s.end' then some true else ZdK N s.to' b.1).bind fun ok=>
    bif ok then ((idx b.1 (i:Int)).bind fun g=>bif g then some b else some (YE b.1 (i:Int) true,true)) else some b
def Dk(N:Nat)(l:List YM):Nat->List Bool×Bool->Option Bool
  |0,_=>none
  |n+1,b=>bif b.2 then ((Sd (fun i (_:YM) b=>PT N l i b) l (b.1,false)).bind fun b'=>Dk N l n b') else ((B7 N b.1 false).bind fun c=>some (!c))
def Za6(N:Nat)(l:List YM):Option Bool:=(Vj false (l.length:Int) (l.length:Int)).bind fun g=>Dk N l N (g,true)
def Zbc(N:Nat)(a:List YM):Option Bool:=Za6 N a
def Bw(N:Nat)(a:List be):Option (List be):=
 (Y8 ([]:List be) a).bind fun b=>
 some b
def MV(N:Nat)(a:List Int):Nat->be->Int->Option be
 |0,_,_=>none
 |b+1,c,d=>
 bif decide (d<(a.length:Int)) then (idx a d).bind fun e=>
 (MC N (wk .i32 (e)) c).bind fun f=>
 (MV N a b) f.2.2 (Yh (d+1))
 else some c
def Br(N:Nat)(a:List Int)(b:be):Option be:=
 bif decide (0<(a.length:Int)) then (idx a 0).bind fun c=>
 (H5 N (wk .i32 (c)) ao).bind fun d=>
 MV N a N d.2.2 (Yh (0+1))
 else ZaQ 0
def Zc1(a:be):Option be:=
 some a
def MW(N:Nat)(a:List Int):Nat->be->Int->Option be
 |0,_,_=>none
 |b+1,c,d=>
 bif decide (d<(a.length:Int)) then (idx a d).bind fun e=>
 (MC N (wk .i32 (e)) c).bind fun f=>
 (MW N a b) f.2.2 (Yh (d+1))
 else Zc1 c
def Bs(N:Nat)(a:List Int)(b:be):Option be:=
 MW N a N b 0
def Zcw(N:Nat)(a:be):Option be:=
 (GR N a).bind fun b=>
 some b
def MJ(N:Nat)(a:YM)(b:List Int):Nat->be->Int->Option be
 |0,_,_=>none
 |c+1,d,e=>
 bif decide (e<(a.acts'.length:Int)) then (idx a.acts' e).bind fun f=>
 (idx a.to' e).bind fun g=>
 (idx b g).bind fun h=>
 (Bs N ([f.ZB,f.To,f.ZP,h]:List Int) d).bind fun i=>
 (MJ N a b c) i (Yh (e+1))
 else Zcw N d
def H6(N:Nat)(a:YM)(b:List Int)(c:Int):Option be:=
 (Br N ([c,a.ticks',a.other'.ZB,a.other'.To,a.other'.ZP]:List Int) ao).bind fun d=>
 MJ N a b N d 0
def Bk(N:Nat)(a:YM)(b:List Int)(c:Int):Option be:=
 bif a.again' then H6 N a b (Yh (c+2))
 else H6 N a b c
def Bj(N:Nat)(a:YM)(b:List Int):Option be:=
 bif a.end' then Bk N a b 1
 else Bk N a b 0
def Lk(a:Int)(b:List Int->Int->Option (List Int))(c:(List (be×Int)))(d:List Int):Option (List Int):=
 bif (c.length:Int)==a then some d
 else b d (c.length:Int)
def Rv(N:Nat)(a:List YM)(b:List Int)(c:Int)(d:List Int->Int->Option (List Int)):Nat->(List (be×Int))->(List Int)->Int->Option (List Int)
 |0,_,_,_=>none
 |e+1,f,g,h=>
 bif decide (h<(a.length:Int)) then (idx a h).bind fun i=>
 (Bj N i b).bind fun j=>
 (some ((YR f j).getD 0)).bind fun k=>
 bif !((YR f j).isSome) then (some ((YR (Xf f j (f.length:Int)) j).getD 0)).bind fun l=>
 (idx g h).bind fun m=>
 (Rv N a b c d e) (Xf f j (f.length:Int)) (YE g h l) (Yh (h+1))
 else (some ((YR f j).getD 0)).bind fun o=>
 (idx g h).bind fun p=>
 (Rv N a b c d e) f (YE g h o) (Yh (h+1))
 else Lk c d f g
def Ll(N:Nat)(a:List YM):Nat->(List Int)->Int->Option (List Int)
 |0,_,_=>none
 |b+1,c,d=>
 (Vj 0 (a.length:Int) (a.length:Int)).bind fun e=>
 Rv N a c d (Ll N a b) N ([]:(List (be×Int))) e 0
def z70(N:Nat)(a:List YM):Option (List Int):=
 (Vj 0 (a.length:Int) (a.length:Int)).bind fun b=>
 Ll N a N b 1
def Zdg(a:T4)(b:Int)(c:Int)(d:List T2)(e:List T8):Option T4:=
 some (⟨a.Zu,a.ZE,a.ZS,b,a.ZU,c,d,e⟩:T4)
def By(a:Int)(b:Int->Int->(List T2)->(List T8)->(List (Int×Int))->(List Int)->Option T4)(c:Int)(d:List T2)(e:List T8)(f:(List (Int×Int)))(g:List Int):Option T4:=
 b (Yh (a+1)) c d e f g
def Gk(a:Int)(b:YM)(c:List T2)(d:Int)(e:List T2->(List T8)->(List (Int×Int))->(List Int)->Int->Option T4)(f:T6)(g:Int)(h:(List (Int×Int)))(i:List Int)(j:List T8):Option T4:=
 (some ((YR h g).getD 0)).bind fun k=>
 (Y8 c ([(⟨a,f,k,b.again'⟩:T2)]:List T2)).bind fun l=>
 e l j h i (Yh (d+1))
def Bz(a:Int)(b:YM)(c:List T2)(d:List T8)(e:Int)(f:List T2->(List T8)->(List (Int×Int))->(List Int)->Int->Option T4)(g:T6)(h:Int)(i:(List (Int×Int)))(j:List Int)(k:Bool):Option T4:=
 bif k then (Y8 d ([(⟨a,b.ticks',(c.length:Int)⟩:T8)]:List T8)).bind fun l=>
 Gk a b c e f g h i j l
 else Gk a b c e f g h i j d
def Gl(a:Int)(b:YM)(c:List T2)(d:List T8)(e:Int)(f:List T2->(List T8)->(List (Int×Int))->(List Int)->Int->Option T4)(g:T6)(h:Int)(i:(List (Int×Int)))(j:List Int):Option T4:=
 bif decide (b.ticks'>0) then Bz a b c d e f g h i j ((g.ZB==b.other'.ZB) && ((g.To==b.other'.To) && ((g.ZP==b.other'.ZP) && true)))
 else Bz a b c d e f g h i j false
def VK(a:List Int)(b:Int)(c:Int->Int->(List T2)->(List T8)->(List (Int×Int))->(List Int)->Option T4)(d:YM)(e:Int):Nat->(List T2)->(List T8)->(List (Int×Int))->(List Int)->Int->Option T4
 |0,_,_,_,_,_=>none
 |f+1,g,h,i,j,k=>
 bif decide (k<(d.acts'.length:Int)) then (idx d.acts' k).bind fun l=>
 (idx d.to' k).bind fun m=>
 (idx a m).bind fun o=>
 (some ((YR i o).getD 0)).bind fun p=>
 bif !((YR i o).isSome) then (idx d.to' k).bind fun q=>
 (Y8 j ([q]:List Int)).bind fun r=>
 Gl b d g h k (VK a b c d e f) l o (Xf i o (j.length:Int)) r
 else Gl b d g h k (VK a b c d e f) l o i j
 else By b c e g h i j
def Gm(N:Nat)(a:List Int)(b:Int)(c:List T2)(d:List T8)(e:(List (Int×Int)))(f:List Int)(g:Int->Int->(List T2)->(List T8)->(List (Int×Int))->(List Int)->Option T4)(h:YM)(i:Int):Option T4:=
 VK a b g h i N c d e f 0
def VJ(N:Nat)(a:T4)(b:List YM)(c:List Int):Nat->Int->Int->(List T2)->(List T8)->(List (Int×Int))->(List Int)->Option T4
 |0,_,_,_,_,_,_=>none
 |d+1,e,f,g,h,i,j=>
 bif decide (e<(j.length:Int)) then (idx j e).bind fun k=>
 (idx b k).bind fun l=>
 bif l.end' then Gm N c e g h i j (VJ N a b c d) l e
 else Gm N c e g h i j (VJ N a b c d) l f
 else Zdg a e f g h
def Bx(N:Nat)(a:T4)(b:List YM):Option T4:=
 (z70 N b).bind fun c=>
 (idx c 0).bind fun d=>
 VJ N a b c N a.ZT a.ZV a.ZW a.ZX (Xf ([]:(List (Int×Int))) d 0) ([0]:List Int)
def HX(N:Nat)(a:Yl):Option (T4×Int):=
 (Po N ([a]:List Yl)).bind fun b=>
 bif b.ZZ != 0 then some ((⟨(str []),([]:List be),([]:List T0),0,0,0,([]:List T2),([]:List T8)⟩:T4),1)
 else (z18 N a.ZG).bind fun c=>
 bif !c then some ((⟨(str []),([]:List be),([]:List T0),0,0,0,([]:List T2),([]:List T8)⟩:T4),1)
 else (Gh N a.ZF).bind fun d=>
 bif d.2.2 != 0 then some ((⟨(str []),([]:List be),([]:List T0),0,0,0,([]:List T2),([]:List T8)⟩:T4),d.2.2)
 else (Vj (⟨([]:List Int),([]:List T9),([]:List V7)⟩:YU) 1 1).bind fun e=>
 (G4 N a.ZE a.ZF e a.ZG 0).bind fun f=>
 (Zar N (⟨a,f.2⟩:X5) f.1).bind fun g=>
 bif g.2 != 0 then some ((⟨(str []),([]:List be),([]:List T0),0,0,0,([]:List T2),([]:List T8)⟩:T4),g.2)
 else (Zbc N g.1).bind fun h=>
 bif !h then some ((⟨(str []),([]:List be),([]:List T0),0,0,0,([]:List T2),([]:List T8)⟩:T4),15)
 else (Bw N a.ZE).bind fun i=>
 (Bx N (⟨a.Zu,i,d.1,0,0,0,([]:List T2),([]:List T8)⟩:T4) g.1).bind fun j=>
 bif decide (j.ZT>200) then some ((⟨(str []),([]:List be),([]:List T0),0,0,0,([]:List T2),([]:List T8)⟩:T4),6)
 else bif decide ((j.ZW.length:Int)>400) then some ((⟨(str []),([]:List be),([]:List T0),0,0,0,([]:List T2),([]:List T8)⟩:T4),6)
 else some (j,0)
def z5(N:Nat):Option Bool:=
 (z9 N (str [112,114,111,116,111,99,111,108,32,80,40,65,44,32,66,41,32,123,32,109,101,115,115,97,103,101,32,120,40,41,59,32,109,101,115,115,97,103,101,32,121,40,41,59,32,108,111,111,112,32,76,32,123,32,99,104,111,105,99,101,32,97,116,32,65,32,123,32,65,32,45,62,32,66,58,32,120,59,32,97,103,97,105,110,32,76,59,32,125,32,111,114,32,123,32,65,32,45,62,32,66,58,32,121,59,32,125,32,125,32,125])).bind fun a=>
 bif a.2.2 != 0 then some false
 else bif (a.1.length:Int) != 1 then some false
 else (idx a.1 0).bind fun b=>
 (HX N b).bind fun c=>
 bif c.2==0 then bif c.1.ZT==2 then bif c.1.ZU==0 then bif c.1.ZV==1 then bif (c.1.ZW.length:Int)==2 then (idx c.1.ZW 0).bind fun d=>
 bif d.To==0 then (idx c.1.ZW 1).bind fun e=>
 some (e.To==1)
 else some false
 else some false
 else some false
 else some false
 else some false
 else some false
def Zcp(a:Int):Option Int:=
 some a
def Zcq(a:Int)(b:Int->Int->Option Int)(c:Int):Option Int:=
 b c (Yh (a+1))
def Pl(rc:List Xq->Option Int)(a:List Xq)(b:Int)(c:Int->Int->Option Int):Nat->Int->Int->Option Int
 |0,_,_=>none
 |d+1,e,f=>
 (idx a b).bind fun g=>
 bif decide (f<(g.ZD.length:Int)) then (idx a b).bind fun h=>
 (idx h.ZD f).bind fun i=>
 (rc i).bind fun j=>
 (Pl rc a b c d) (Yh (e+j)) (Yh (f+1))
 else Zcq b c e
def Qm(N:Nat)(rc:List Xq->Option Int)(a:List Xq):Nat->Int->Int->Option Int
 |0,_,_=>none
 |b+1,c,d=>
 bif decide (d<(a.length:Int)) then Pl rc a d (Qm N rc a b) N (Yh (c+1)) 0
 else Zcp c
def Bh(N:Nat)(rc:List Xq->Option Int)(a:List Xq):Option Int:=
 Qm N rc a N 0 0
def Zcr:Nat->(List Xq)->Option Int
 |0,_=>none
 |N+1,a0=>Bh N (Zcr N) a0
def Pj(N:Nat)(a:List Xq):Option Int:=Zcr N a
def Zcf(a:List Xp)(b:Int)(c:Int):Option Bool:=
 bif decide ((a.length:Int)<=12) then bif decide (b<=320) then some (decide (c<=60))
 else some false
 else some false
def Zcg(a:Int)(b:Int)(c:Int)(d:Int->Int->Int->Option Bool)(e:Int)(f:Xp):Option Bool:=
 d (Yh (a+e)) (Yh (b+(f.ZF.length:Int))) (Yh (c+1))
def MB(a:List Xp)(b:Int)(c:Int)(d:Int)(e:Int->Int->Int->Option Bool)(f:Int)(g:Xp):Nat->Int->Option Bool
 |0,_=>none
 |h+1,i=>
 (idx a d).bind fun j=>
 bif decide (i<(j.ZF.length:Int)) then (idx a d).bind fun k=>
 (idx k.ZF i).bind fun l=>
 bif decide ((l.Zz.length:Int)>8) then some false
 else (idx a d).bind fun m=>
 (idx m.ZF i).bind fun o=>
 bif decide ((o.ZA.length:Int)>10) then some false
 else (MB a b c d e f g h) (Yh (i+1))
 else Zcg b c d e f g
def Rk(N:Nat)(a:List Xp):Nat->Int->Int->Int->Option Bool
 |0,_,_,_=>none
 |b+1,c,d,e=>
 bif decide (e<(a.length:Int)) then (idx a e).bind fun f=>
 (Pj N f.ZG).bind fun g=>
 (idx a e).bind fun h=>
 MB a c d e (Rk N a b) g h N 0
 else Zcf a c d
def Ba(N:Nat)(a:List Xp):Option Bool:=
 Rk N a N 0 0 0
def z6(N:Nat)(a:Xp):Option Bool:=
 (Ba N ([a]:List Xp)).bind fun b=>
 bif b then (Pj N a.ZG).bind fun c=>
 bif decide (c<=60) then some (decide ((a.ZF.length:Int)<=20))
 else some false
 else some false
def Zdh(a:List Yj):Option (List Yj):=
 some a
def BB(a:List Yj)(b:Int)(c:List Yj->Int->Option (List Yj))(d:Xq)(e:(List (List Yj))):Option (List Yj):=
 (Y8 a ([(⟨d.Zt,d.ZB,d.To,d.Zu,d.As,d.ZC,e⟩:Yj)]:List Yj)).bind fun f=>
 c f (Yh (b+1))
def Pu(rc:List Xq->Option (List Yj))(a:List Yj)(b:Int)(c:List Yj->Int->Option (List Yj))(d:Xq):Nat->(List (List Yj))->Int->Option (List Yj)
 |0,_,_=>none
 |e+1,f,g=>
 bif decide (g<(d.ZD.length:Int)) then (idx d.ZD g).bind fun h=>
 (rc h).bind fun i=>
 (Y8 f ([i]:List (List Yj))).bind fun j=>
 (Pu rc a b c d e) j (Yh (g+1))
 else BB a b c d f
def Qq(N:Nat)(rc:List Xq->Option (List Yj))(a:List Xq):Nat->(List Yj)->Int->Option (List Yj)
 |0,_,_=>none
 |b+1,c,d=>
 bif decide (d<(a.length:Int)) then (idx a d).bind fun e=>
 Pu rc c d (Qq N rc a b) e N ([]:List (List Yj)) 0
 else Zdh c
def BA(N:Nat)(rc:List Xq->Option (List Yj))(a:List Xq):Option (List Yj):=
 Qq N rc a N ([]:List Yj) 0
def Zdi:Nat->(List Xq)->Option (List Yj)
 |0,_=>none
 |N+1,a0=>BA N (Zdi N) a0
def M3(N:Nat)(a:List Xq):Option (List Yj):=Zdi N a
def ZcC(a:List Yl):Option (List Yl):=
 some a
def Bm(a:List Yl)(b:Int)(c:List Yl->Int->Option (List Yl))(d:Xp)(e:List Yj)(f:List Ys):Option (List Yl):=
 (Y8 a ([(⟨d.Zu,d.ZE,f,e⟩:Yl)]:List Yl)).bind fun g=>
 c g (Yh (b+1))
def Bn(a:List Ys)(b:Int)(c:List Ys->Int->Option (List Yl))(d:Vg)(e:List Xv):Option (List Yl):=
 (Y8 a ([(⟨d.Zu,d.Zz,e⟩:Ys)]:List Ys)).bind fun f=>
 c f (Yh (b+1))
def Pm(a:List Ys)(b:Int)(c:List Ys->Int->Option (List Yl))(d:Vg):Nat->(List Xv)->Int->Option (List Yl)
 |0,_,_=>none
 |e+1,f,g=>
 bif decide (g<(d.ZA.length:Int)) then (idx d.ZA g).bind fun h=>
 (Y8 f ([(⟨h.Zx,h.Op,h.Zy⟩:Xv)]:List Xv)).bind fun i=>
 (Pm a b c d e) i (Yh (g+1))
 else Bn a b c d f
def Rn(N:Nat)(a:List Yl)(b:Int)(c:List Yl->Int->Option (List Yl))(d:Xp)(e:List Yj):Nat->(List Ys)->Int->Option (List Yl)
 |0,_,_=>none
 |f+1,g,h=>
 bif decide (h<(d.ZF.length:Int)) then (idx d.ZF h).bind fun i=>
 Pm g h (Rn N a b c d e f) i N ([]:List Xv) 0
 else Bm a b c d e g
def SA(N:Nat)(a:List Xp):Nat->(List Yl)->Int->Option (List Yl)
 |0,_,_=>none
 |b+1,c,d=>
 bif decide (d<(a.length:Int)) then (idx a d).bind fun e=>
 (M3 N e.ZG).bind fun f=>
 Rn N c d (SA N a b) e f N ([]:List Ys) 0
 else ZcC c
def Bi(N:Nat)(a:List Xp):Option (List Yl):=
 SA N a N ([]:List Yl) 0
def z7(N:Nat)(a:Xp):Option (T4×Int):=
 (Bi N ([a]:List Xp)).bind fun b=>
 (idx b 0).bind fun c=>
 (HX N c).bind fun d=>
 some (d.1,d.2)
def Zd0(a:be):Option be:=
 some a
def Rx(a:Int)(b:T4):Nat->be->Int->Option be
 |0,_,_=>none
 |c+1,d,e=>
 bif decide (e<(b.ZX.length:Int)) then (idx b.ZX e).bind fun f=>
 bif f.ZQ==a then bif decide (f.ZR>=0) then bif decide (f.ZR<(b.ZW.length:Int)) then (Xy (str [116,105,109,101,100]) (bE (wk .i32 ((Yh (200+f.ZC)))))).bind fun g=>
 (idx b.ZW f.ZR).bind fun h=>
 (idx b.ZW f.ZR).bind fun i=>
 (Xy g (Qf ([(wk .u8 (h.Act.To)),(wk .u8 (i.Act.ZP))]:List Int))).bind fun j=>
 (Xy d j).bind fun k=>
 (Rx a b c) k (Yh (e+1))
 else (Rx a b c) d (Yh (e+1))
 else (Rx a b c) d (Yh (e+1))
 else (Rx a b c) d (Yh (e+1))
 else Zd0 d
def Lp(N:Nat)(a:Int)(b:T4)(c:be):Option be:=
 Rx a b N c 0
def Qv(N:Nat)(a:Int)(b:List Int)(c:T4):Nat->be->Int->Option be
 |0,_,_=>none
 |d+1,e,f=>
 bif decide (f<(c.ZW.length:Int)) then (idx c.ZW f).bind fun g=>
 bif g.ZB==a then (Xy (str [124]) (Qf ([(wk .u8 ((Yh (97+g.Act.ZB)))),(wk .u8 ((Yh (97+g.Act.To)))),(wk .u8 (g.Act.ZP))]:List Int))).bind fun h=>
 (idx b g.To).bind fun i=>
 (Xy h (bE (wk .i32 ((Yh (48+i)))))).bind fun j=>
 (Xy e j).bind fun k=>
 bif g.Again then (Xy k (str [97,103,97,105,110])).bind fun l=>
 (Qv N a b c d) l (Yh (f+1))
 else (Qv N a b c d) k (Yh (f+1))
 else (Qv N a b c d) e (Yh (f+1))
 else Lp N a c e
def GM(N:Nat)(a:Int)(b:List Int)(c:T4)(d:be):Option be:=
 Qv N a b c N d 0
def Zaa(N:Nat)(a:Int)(b:List Int)(c:T4):Option be:=
 bif a==c.ZV then GM N a b c (str [101,110,100])
 else GM N a b c (str [])
def Zbo:Option Bool:=
 some true
def Hl(a:Int)(b:Int->Option Bool):Option Bool:=
 b (Yh (a+1))
def Q0(a:List Int)(b:Int)(c:Int->Option Bool)(d:List Int):Nat->Int->Option Bool
 |0,_=>none
 |e+1,f=>
 bif decide (f<(d.length:Int)) then (idx d f).bind fun g=>
 (idx a b).bind fun h=>
 bif g==h then some false
 else (Q0 a b c d e) (Yh (f+1))
 else Hl b c
def RW(N:Nat)(a:List Int):Nat->Int->Option Bool
 |0,_=>none
 |b+1,c=>
 bif decide (c<(a.length:Int)) then (lsl a none (some c)).bind fun d=>
 Q0 a c (RW N a b) d N 0
 else Zbo
def Dv(N:Nat)(a:List Int):Option Bool:=
 RW N a N 0
def Hm(a:Int)(b:List Int->Int->Option Bool)(c:List Int):Option Bool:=
 b c (Yh (a+1))
def S9(N:Nat)(a:T4×Int)(b:List Int)(c:Int)(d:List Int->Int->Option Bool):Nat->(List Int)->(List (be×Int))->Int->Option Bool
 |0,_,_,_=>none
 |e+1,f,g,h=>
 bif decide (h<a.1.ZT) then (idx b h).bind fun i=>
 (Zaa N h b a.1).bind fun j=>
 (Xy (bE (wk .i32 ((Yh (48+i))))) j).bind fun k=>
 (some ((YR g k).getD 0)).bind fun l=>
 bif !((YR g k).isSome) then (some ((YR (Xf g k (g.length:Int)) k).getD 0)).bind fun m=>
 (idx f h).bind fun o=>
 (S9 N a b c d e) (YE f h m) (Xf g k (g.length:Int)) (Yh (h+1))
 else (some ((YR g k).getD 0)).bind fun p=>
 (idx f h).bind fun q=>
 (S9 N a b c d e) (YE f h p) g (Yh (h+1))
 else Hm c d f
def Ty(N:Nat)(a:T4×Int):Nat->(List Int)->Int->Option Bool
 |0,_,_=>none
 |b+1,c,d=>
 bif decide (d<a.1.ZT) then (Vj 0 a.1.ZT a.1.ZT).bind fun e=>
 S9 N a c d (Ty N a b) N e ([]:(List (be×Int))) 0
 else Dv N c
def RV(N:Nat)(a:Xp):Option Bool:=
 (z5 N).bind fun b=>
 bif !b then (z5 N).bind fun c=>
 some c
 else (z6 N a).bind fun d=>
 bif !d then (z5 N).bind fun e=>
 some e
 else (z7 N a).bind fun f=>
 bif f.2 != 0 then some true
 else (Vj 0 f.1.ZT f.1.ZT).bind fun g=>
 Ty N f N g 0
end Gx
end
