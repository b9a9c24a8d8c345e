/- What each function of the statement computes, as plain definitions. -/
import Derived.Test.YthmedickagkdoaaGreatDoorGuardDeclsCore4
set_option linter.all false
section
open Go Go.Kx
namespace Gx
def V6:Nat->Nat->List UInt8
 | 0,_=>[]
 | f+1,u=>bif Nat.blt u 10 then [UInt8.ofNat (48+u)] else V6 f (u / 10)++[UInt8.ofNat (48+u % 10)]
def UM (n:Int):ByteArray:=⟨(bif decide (n < 0) then 45::V6 25 n.natAbs else V6 25 n.toNat).toArray⟩
def Wq (sep:List UInt8):List (List UInt8)->List UInt8
 | []=>[]
 | x::r=>x++(r.map (sep++·)).flatten
structure T4 where
  Zq:Int
  Lo:Int
  Hi:Int
structure T2 where
  Zt:ByteArray
  Zu:T4
structure Yq where
  Zq:Int
  Zv:ByteArray
  Field:ByteArray
  N:Int
structure Wu where
  Zw:Yq
  Op:ByteArray
  Zx:Yq
structure Yg where
  Zt:ByteArray
  Zy:List T2
  Zz:List Wu
structure ZY where
  Zq:Int
  ZA:ByteArray
  To:List ByteArray
  Zt:ByteArray
  As:ByteArray
  ZB:Int
  ZC:(List (List ZY))
structure Z3 where
  Zt:ByteArray
  ZD:List ByteArray
  ZE:List Yg
  ZF:List ZY
structure Y5 where
  Zw:Yq
  Op:ByteArray
  Zx:Yq
structure Z2 where
  Zt:ByteArray
  Zy:List T2
  Zz:List Y5
structure ZS where
  Zq:Int
  ZA:ByteArray
  To:List ByteArray
  Zt:ByteArray
  As:ByteArray
  ZB:Int
  ZC:(List (List ZS))
structure ZT where
  Zt:ByteArray
  ZD:List ByteArray
  ZE:List Z2
  ZF:List ZS
structure T7 where
  Zq:Int
  ZG:ByteArray
  Value:Int
  ZA:Int
structure T8 where
  s':ByteArray
  at':Int
structure Z9 where
  l':List T7
  n':Int
  end':Int
  at':Int
  err':Int
structure Yk where
  Builder:ByteArray
  depth':Int
structure T1 where
  X:Int
  Y:Int
  C:Int
structure T3 where
  ZH:List T1
  ZI:(List (Int × Int))
structure T0 where
  Zt:ByteArray
  Zy:List T2
  ZJ:Int
  ZK:T3
structure T9 where
  ZL:ByteArray
  Zt:ByteArray
  ZM:Int
structure ZX where
  all':List ZT
  p':ZT
  calls':List ByteArray
  out':T9
structure Yv where
  name':ByteArray
  tail':Bool
  hidden':Bool
structure T6 where
  x':Int
  n':Int
structure T5 where
  Zq:Int
  N:Int
  S:ByteArray
structure YI where
  N:Int
  B:List Int
structure Z7 where
  l':List Z3
  p':Z3
  calls':List ByteArray
  first':T9
def DM (N:Nat) (a:ByteArray) (b:Int):Option Int :=
 some (ZeH a b)
def Dn (N:Nat) (a:ByteArray) (b:Int):Option Int :=
 (DM N a b).bind fun c =>
 some c
def ZgF (N:Nat) (a:Int):Option Bool :=
 bif decide (0<=a) then bif decide (a < 55296) then some true
 else bif decide (57343 < a) then bif decide (a<=1114111) then some true
 else some false
 else some false
 else bif decide (57343 < a) then bif decide (a<=1114111) then some true
 else some false
 else some false
def Zgt (a:Nat):Option Int :=
 some (-1)
def Zck (a:ByteArray):Nat->Nat->Option Int
 | 0,_=>none
 | b+1,c =>
 bif decide (c < a.size) then bif ((Utf8.decode a c).1:Int)==65533 then some ((c:Nat):Int)
 else (Zck a b) (c+(Utf8.decode a c).2)
 else Zgt c
def Zgu:Option Int :=
 some (-1)
def Zgv (a:Int) (b:Int):Option Int :=
 some (ZN (b-(ZN (((Utf8.encode a).size:Int)-1))))
def Zcl (a:ByteArray) (b:Int) (c:Int):Nat->Int->Option Int
 | 0,_=>none
 | d+1,e =>
 bif decide (e < ((Utf8.encode b).size:Int)) then (Xc a (ZN (c-e))).bind fun f =>
 (Xc (Utf8.encode b) (ZN ((ZN (((Utf8.encode b).size:Int)-1))-e))).bind fun g =>
 bif f != g then Ga 0
 else (Zcl a b c d) (ZN (e+1))
 else Zgv b c
def Zci (N:Nat) (a:ByteArray) (b:Int) (c:Int):Option Int :=
 Zcl a b c N 1
def Zgw (N:Nat) (a:ByteArray) (b:Int):Nat->Option Int
 | 0=>none
 | c+1 =>
 bif decide ((ZN (((Utf8.encode b).size:Int)-1)) < (a.size:Int)) then (Xc a (ZN (((Utf8.encode b).size:Int)-1))).bind fun d =>
 (Xc (Utf8.encode b) (ZN (((Utf8.encode b).size:Int)-1))).bind fun e =>
 bif d != e then (ssl a (some (ZN ((ZN (((Utf8.encode b).size:Int)-1))+1))) none).bind fun f =>
 (Xc (Utf8.encode b) (ZN (((Utf8.encode b).size:Int)-1))).bind fun g =>
 (Dn N f g).bind fun h =>
 bif decide (h < 0) then some (-1)
 else Zci N a b (ZN ((ZN (((Utf8.encode b).size:Int)-1))+(ZN (h+1))))
 else Zci N a b (ZN (((Utf8.encode b).size:Int)-1))
 else Zgu
def Zcj (N:Nat) (a:ByteArray) (b:Int) (c:Bool):Option Int :=
 bif c then (Dn N a (wk .u8 (b))).bind fun d =>
 some d
 else bif b==65533 then Zck a N (0:Nat)
 else (ZgF N b).bind fun e =>
 bif !e then some (-1)
 else Zgw N a b N
def Zgs (N:Nat) (a:ByteArray) (b:Int):Option Int :=
 bif decide (0<=b) then Zcj N a b (decide (b < 128))
 else Zcj N a b false
def Zgb (N:Nat) (a:ByteArray) (b:Int):Option Bool :=
 (Zgs N a b).bind fun c =>
 some (decide (c>=0))
def Zgp (N:Nat) (a:ByteArray) (b:ByteArray):Option Bool :=
 bif decide ((a.size:Int)>=(b.size:Int)) then (ssl a none (some (b.size:Int))).bind fun c =>
 some (c.toList==b.toList)
 else some false
def z95 (N:Nat) (a:ByteArray) (b:ByteArray):Option Bool :=
 (Zgp N a b).bind fun c =>
 some c
def Zhd (a:T8) (b:Int):Option T8 :=
 some (⟨a.s',b⟩:T8)
def HH (N:Nat) (a:T8):Nat->Int->Option T8
 | 0,_=>none
 | b+1,c =>
 bif decide (c < (a.s'.size:Int)) then (ssl a.s' (some c) none).bind fun d =>
 (Xc d 0).bind fun e =>
 (Zgb N (str [32,9,10,13]) (wk .i32 (e))).bind fun f =>
 bif f then (HH N a b) (ZN (c+1))
 else (z95 N d (str [47,47])).bind fun g =>
 bif g then (Dn N d 10).bind fun h =>
 bif decide (h < 0) then (HH N a b) (ZN (c+(ZN ((ZN ((d.size:Int)-1))+1))))
 else (HH N a b) (ZN (c+(ZN (h+1))))
 else some (⟨a.s',c⟩:T8)
 else Zhd a c
def z70 (N:Nat) (a:T8):Option T8 :=
 HH N a N a.at'
def z72 (N:Nat) (a:Int):Option Bool :=
 bif decide (97<=a) then bif decide (a<=122) then some true
 else bif decide (65<=a) then some (decide (a<=90))
 else some false
 else bif decide (65<=a) then some (decide (a<=90))
 else some false
def HI (N:Nat) (a:Int):Option Bool :=
 bif decide (48<=a) then some (decide (a<=57))
 else some false
def PE (N:Nat) (a:Int):Option Bool :=
 (z72 N a).bind fun b =>
 bif b then some true
 else (HI N a).bind fun c =>
 bif c then some true
 else some (a==95)
def ZbG (a:T8) (b:Int):Option (ByteArray × T8) :=
 (ssl a.s' (some a.at') (some b)).bind fun c =>
 some (c,(⟨a.s',b⟩:T8))
def ZbH (N:Nat) (a:T8):Nat->Int->Option (ByteArray × T8)
 | 0,_=>none
 | b+1,c =>
 bif decide (c < (a.s'.size:Int)) then (Xc a.s' c).bind fun d =>
 (PE N d).bind fun e =>
 bif e then (ZbH N a b) (ZN (c+1))
 else ZbG a c
 else ZbG a c
def Zge (N:Nat) (a:T8):Option (ByteArray × T8) :=
 ZbH N a N a.at'
def z73 (N:Nat) (a:T8):Option (T7 × Int × T8) :=
 (Zge N a).bind fun b =>
 bif decide ((b.1.size:Int) > 16) then some ((⟨0,(str []),0,0⟩:T7),6,b.2)
 else some ((⟨1,b.1,0,0⟩:T7),0,b.2)
def ZbI (a:T8) (b:Int):Option (ByteArray × T8) :=
 (ssl a.s' (some a.at') (some b)).bind fun c =>
 some (c,(⟨a.s',b⟩:T8))
def ZbJ (N:Nat) (a:T8):Nat->Int->Option (ByteArray × T8)
 | 0,_=>none
 | b+1,c =>
 bif decide (c < (a.s'.size:Int)) then (Xc a.s' c).bind fun d =>
 (HI N d).bind fun e =>
 bif e then (ZbJ N a b) (ZN (c+1))
 else ZbI a c
 else ZbI a c
def Zgf (N:Nat) (a:T8):Option (ByteArray × T8) :=
 ZbJ N a N a.at'
def Zhj (a:ByteArray × T8) (b:Int):Option (T7 × Int × T8) :=
 some ((⟨2,(str []),b,0⟩:T7),0,a.2)
def Zds (a:ByteArray × T8):Nat->Int->Int->Option (T7 × Int × T8)
 | 0,_,_=>none
 | b+1,c,d =>
 bif decide (d < (a.1.size:Int)) then (Xc a.1 d).bind fun e =>
 (Zds a b) (ZN ((ZN (10 * c))+(ZN ((wk .u8 (e-48)))))) (ZN (d+1))
 else Zhj a c
def Bz (N:Nat) (a:ByteArray × T8) (b:Bool):Option (T7 × Int × T8) :=
 bif b then some ((⟨0,(str []),0,0⟩:T7),2,a.2)
 else Zds a N 0 0
def Zdr (N:Nat) (a:ByteArray × T8) (b:Bool):Option (T7 × Int × T8) :=
 bif b then some ((⟨0,(str []),0,0⟩:T7),3,a.2)
 else bif decide ((a.1.size:Int) > 6) then Bz N a true
 else bif decide ((a.1.size:Int) > 1) then (Xc a.1 0).bind fun c =>
 Bz N a (c==48)
 else Bz N a false
def z75 (N:Nat) (a:T8):Option (T7 × Int × T8) :=
 (Zgf N a).bind fun b =>
 bif decide (b.2.at' < (b.2.s'.size:Int)) then (Xc b.2.s' b.2.at').bind fun c =>
 (PE N c).bind fun d =>
 Zdr N b d
 else Zdr N b false
def Zhk (a:T8) (b:Int):Option (T7 × Int × T8) :=
 some ((⟨0,(str []),0,0⟩:T7),3,(⟨a.s',b⟩:T8))
def BA (a:T8) (b:List Int) (c:Int->(List Int)->Option (T7 × Int × T8)) (d:Int) (e:Int):Option (T7 × Int × T8) :=
 bif decide (e < 32) then some ((⟨0,(str []),0,0⟩:T7),3,(⟨a.s',d⟩:T8))
 else bif decide (e > 126) then some ((⟨0,(str []),0,0⟩:T7),3,(⟨a.s',d⟩:T8))
 else (YJ b ([e]:List Int)).bind fun f =>
 c (ZN (d+1)) f
def Mx (a:T8):Nat->Int->(List Int)->Option (T7 × Int × T8)
 | 0,_,_=>none
 | b+1,c,d =>
 bif decide (c < (a.s'.size:Int)) then (Xc a.s' c).bind fun e =>
 bif e==34 then bif decide ((d.length:Int) > 40) then some ((⟨0,(str []),0,0⟩:T7),6,(⟨a.s',(ZN (c+1))⟩:T8))
 else some ((⟨3,(ZaY d),0,0⟩:T7),0,(⟨a.s',(ZN (c+1))⟩:T8))
 else bif e==92 then bif (ZN (c+1))==(a.s'.size:Int) then some ((⟨0,(str []),0,0⟩:T7),3,(⟨a.s',(ZN (c+1))⟩:T8))
 else (Xc a.s' (ZN (c+1))).bind fun f =>
 bif f != 34 then (Xc a.s' (ZN (c+1))).bind fun g =>
 bif g != 92 then some ((⟨0,(str []),0,0⟩:T7),3,(⟨a.s',(ZN (c+1))⟩:T8))
 else (Xc a.s' (ZN (c+1))).bind fun h =>
 BA a d (Mx a b) (ZN (c+1)) h
 else (Xc a.s' (ZN (c+1))).bind fun i =>
 BA a d (Mx a b) (ZN (c+1)) i
 else BA a d (Mx a b) c e
 else Zhk a c
def z76 (N:Nat) (a:T8):Option (T7 × Int × T8) :=
 Mx a N (ZN (a.at'+1)) ([]:List Int)
def ZcJ (N:Nat) (a:ByteArray) (b:ByteArray):Option Int :=
 bif (b.size:Int)==0 then some 0
 else bif b.toList==a.toList then some 0
 else bif (b.size:Int)==1 then (Xc b 0).bind fun c =>
 (DM N a c).bind fun d =>
 some d
 else bif decide ((b.size:Int)>=(a.size:Int)) then some (-1)
 else Ga 0
def PY (N:Nat) (a:ByteArray) (b:ByteArray):Option Int :=
 (ZcJ N a b).bind fun c =>
 some c
def Zgd (N:Nat) (a:ByteArray) (b:ByteArray):Option Bool :=
 (PY N a b).bind fun c =>
 some (decide (c>=0))
def Zhf (N:Nat) (a:T8):Option (T7 × Int × T8) :=
 (ssl a.s' (some a.at') (some (ZN (a.at'+1)))).bind fun b =>
 (Zgd N (str [40,41,123,125,44,59,58,46,43,45,42,47,37,60,62,61,33]) b).bind fun c =>
 bif !c then some ((⟨0,(str []),0,0⟩:T7),3,a)
 else some ((⟨4,b,0,0⟩:T7),0,(⟨a.s',(ZN (a.at'+1))⟩:T8))
def Zdq (N:Nat) (a:T8):Nat->Int->Option (T7 × Int × T8)
 | 0,_=>none
 | b+1,c =>
 bif decide (c < 8) then (ZW ([(str [45,62]),(str [46,46]),(str [60,61]),(str [62,61]),(str [61,61]),(str [33,61]),(str [38,38]),(str [124,124])]:List ByteArray) c).bind fun d =>
 (ssl a.s' (some a.at') none).bind fun e =>
 (z95 N e d).bind fun f =>
 bif f then some ((⟨4,d,0,0⟩:T7),0,(⟨a.s',(ZN (a.at'+2))⟩:T8))
 else (Zdq N a b) (ZN (c+1))
 else Zhf N a
def z71 (N:Nat) (a:T8):Option (T7 × Int × T8) :=
 Zdq N a N 0
def ZgQ (a:List T7):Option ((List T7) × Int × Int) :=
 some (a,0,0)
def Mg (N:Nat) (a:ByteArray):Nat->(List T7)->ByteArray->Int->Option ((List T7) × Int × Int)
 | 0,_,_,_=>none
 | b+1,c,d,e =>
 bif decide (e < (a.size:Int)) then (Xc a e).bind fun f =>
 (z72 N f).bind fun g =>
 bif g then (z73 N (⟨d,e⟩:T8)).bind fun h =>
 bif h.2.1 != 0 then some (([]:List T7),e,h.2.1)
 else (YJ c ([(⟨h.1.Zq,h.1.ZG,h.1.Value,e⟩:T7)]:List T7)).bind fun i =>
 (z70 N h.2.2).bind fun j =>
 (Mg N a b) i j.s' j.at'
 else (HI N f).bind fun k =>
 bif k then (z75 N (⟨d,e⟩:T8)).bind fun l =>
 bif l.2.1 != 0 then some (([]:List T7),e,l.2.1)
 else (YJ c ([(⟨l.1.Zq,l.1.ZG,l.1.Value,e⟩:T7)]:List T7)).bind fun m =>
 (z70 N l.2.2).bind fun o =>
 (Mg N a b) m o.s' o.at'
 else bif f==34 then (z76 N (⟨d,e⟩:T8)).bind fun p =>
 bif p.2.1 != 0 then some (([]:List T7),e,p.2.1)
 else (YJ c ([(⟨p.1.Zq,p.1.ZG,p.1.Value,e⟩:T7)]:List T7)).bind fun q =>
 (z70 N p.2.2).bind fun r =>
 (Mg N a b) q r.s' r.at'
 else (z71 N (⟨d,e⟩:T8)).bind fun s =>
 bif s.2.1 != 0 then some (([]:List T7),e,s.2.1)
 else (YJ c ([(⟨s.1.Zq,s.1.ZG,s.1.Value,e⟩:T7)]:List T7)).bind fun t =>
 (z70 N s.2.2).bind fun u =>
 (Mg N a b) t u.s' u.at'
 else ZgQ c
def z30 (N:Nat) (a:ByteArray):Option ((List T7) × Int × Int) :=
 bif decide ((a.size:Int) > 8000) then some (([]:List T7),8000,6)
 else (z70 N (⟨a,0⟩:T8)).bind fun b =>
 Mg N a N ([]:List T7) b.s' b.at'
def z146 (N:Nat) (a:Z9):Option T7 :=
 bif a.err' != 0 then some (⟨0,(str []),0,0⟩:T7)
 else bif decide (a.n'>=(a.l'.length:Int)) then some (⟨0,(str []),0,0⟩:T7)
 else (ZW a.l' a.n').bind fun b =>
 some b
def ZbK (N:Nat) (a:Z9) (b:ByteArray):Option Bool :=
 (z146 N a).bind fun c =>
 bif c.Zq==4 then some (c.ZG.toList==b.toList)
 else bif c.Zq==1 then some (c.ZG.toList==b.toList)
 else some false
def Ws (N:Nat) (a:Z9) (b:ByteArray):Option (Bool × Z9) :=
 (ZbK N a b).bind fun c =>
 bif !c then some (false,a)
 else some (true,(⟨a.l',(ZN (a.n'+1)),a.end',a.at',a.err'⟩:Z9))
def Sp (N:Nat) (a:Z9) (b:Int):Option Z9 :=
 bif a.err' != 0 then some a
 else bif decide (a.n' < (a.l'.length:Int)) then (ZW a.l' a.n').bind fun c =>
 some (⟨a.l',a.n',a.end',c.ZA,b⟩:Z9)
 else some (⟨a.l',a.n',a.end',a.end',b⟩:Z9)
def XP (N:Nat) (a:Z9) (b:ByteArray):Option Z9 :=
 (Ws N a b).bind fun c =>
 bif !c.1 then (Sp N c.2 3).bind fun d =>
 some d
 else some c.2
def ZbF:Option Bool :=
 some true
def So (N:Nat) (a:ByteArray):Nat->Int->Option Bool
 | 0,_=>none
 | b+1,c =>
 bif decide (c < (a.size:Int)) then (Xc a c).bind fun d =>
 (PE N d).bind fun e =>
 bif !e then some false
 else (So N a b) (ZN (c+1))
 else ZbF
def Rl (N:Nat) (a:ByteArray):Option Bool :=
 bif a.toList==(str []).toList then some false
 else bif decide ((a.size:Int) > 16) then some false
 else (Xc a 0).bind fun b =>
 (z72 N b).bind fun c =>
 bif !c then some false
 else So N a N 0
def Dw:Option Int :=
 some (-1)
def Sq (a:List ByteArray) (b:ByteArray):Nat->Int->Option Int
 | 0,_=>none
 | c+1,d =>
 bif decide (d < (a.length:Int)) then (ZW a d).bind fun e =>
 bif b.toList==e.toList then some d
 else (Sq a b c) (ZN (d+1))
 else Dw
def LW (N:Nat) (a:List ByteArray) (b:ByteArray):Option Int :=
 Sq a b N 0
def Vu (N:Nat) (a:List ByteArray) (b:ByteArray):Option Bool :=
 (LW N a b).bind fun c =>
 some (decide (c>=0))
def Wr (N:Nat) (a:ByteArray):Option Bool :=
 (Rl N a).bind fun b =>
 bif b then (Vu N ([(str [97,103,97,105,110]),(str [97,110,100]),(str [97,115]),(str [97,116]),(str [99,97,108,108]),(str [99,104,111,105,99,101]),(str [101,108,115,101]),(str [102,114,111,109]),(str [105,102]),(str [105,110,116]),(str [108,101,110]),(str [108,111,111,112]),(str [109,101,115,115,97,103,101]),(str [111,102]),(str [111,102,102,101,114]),(str [111,110]),(str [111,114]),(str [112,97,114]),(str [112,108,97,121,115]),(str [112,114,111,116,111,99,111,108]),(str [115,101,114,118,105,99,101]),(str [116,101,120,116]),(str [116,105,109,101,115]),(str [116,111]),(str [118,97,114]),(str [119,104,101,114,101]),(str [119,104,105,108,101]),(str [119,105,116,104,105,110])]:List ByteArray) a).bind fun c =>
 some (!c)
 else some false
def U8 (N:Nat) (a:Z9):Option (ByteArray × Z9) :=
 (z146 N a).bind fun b =>
 bif b.Zq != 1 then (Sp N a 3).bind fun c =>
 some ((str []),c)
 else (Wr N b.ZG).bind fun d =>
 bif !d then (Sp N a 3).bind fun e =>
 some ((str []),e)
 else some (b.ZG,(⟨a.l',(ZN (a.n'+1)),a.end',a.at',a.err'⟩:Z9))
def Zhm (a:List T7) (b:Int) (c:Int) (d:Int) (e:Int) (f:List ByteArray):Option ((List ByteArray) × Z9) :=
 some (f,(⟨a,b,c,d,e⟩:Z9))
def Zdt (N:Nat):Nat->(List T7)->Int->Int->Int->Int->(List ByteArray)->Option ((List ByteArray) × Z9)
 | 0,_,_,_,_,_,_=>none
 | a+1,b,c,d,e,f,g =>
 (Ws N (⟨b,c,d,e,f⟩:Z9) (str [44])).bind fun h =>
 bif h.1 then (U8 N h.2).bind fun i =>
 (YJ g ([i.1]:List ByteArray)).bind fun j =>
 (Zdt N a) i.2.l' i.2.n' i.2.end' i.2.at' i.2.err' j
 else Zhm h.2.l' h.2.n' h.2.end' h.2.at' h.2.err' g
def BB (N:Nat) (a:Z9):Option ((List ByteArray) × Z9) :=
 (U8 N a).bind fun b =>
 Zdt N N b.2.l' b.2.n' b.2.end' b.2.at' b.2.err' ([b.1]:List ByteArray)
def Zgh (a:List T7) (b:Int) (c:Int) (d:Int) (e:Int) (f:ByteArray):Option (ByteArray × Z9) :=
 some (f,(⟨a,b,c,d,e⟩:Z9))
def ZbL (N:Nat):Nat->(List T7)->Int->Int->Int->Int->ByteArray->Option (ByteArray × Z9)
 | 0,_,_,_,_,_,_=>none
 | a+1,b,c,d,e,f,g =>
 (Ws N (⟨b,c,d,e,f⟩:Z9) (str [46])).bind fun h =>
 bif h.1 then (U8 N h.2).bind fun i =>
 (Yp (str [46]) i.1).bind fun j =>
 (Yp g j).bind fun k =>
 (ZbL N a) i.2.l' i.2.n' i.2.end' i.2.at' i.2.err' k
 else Zgh h.2.l' h.2.n' h.2.end' h.2.at' h.2.err' g
def z148 (N:Nat) (a:Z9):Option (ByteArray × Z9) :=
 (U8 N a).bind fun b =>
 ZbL N N b.2.l' b.2.n' b.2.end' b.2.at' b.2.err' b.1
def U3 (N:Nat) (a:Z9):Option (Int × Z9) :=
 (z146 N a).bind fun b =>
 bif b.Zq != 2 then (Sp N a 3).bind fun c =>
 some (0,c)
 else some (b.Value,(⟨a.l',(ZN (a.n'+1)),a.end',a.at',a.err'⟩:Z9))
def L9 (N:Nat) (a:Z9):Option (Int × Z9) :=
 (Ws N a (str [45])).bind fun b =>
 bif b.1 then (U3 N b.2).bind fun c =>
 some ((ZN (0-c.1)),c.2)
 else (U3 N b.2).bind fun d =>
 some (d.1,d.2)
def ZbM (N:Nat) (a:Z9):Option (T2 × Z9) :=
 (U8 N a).bind fun b =>
 (XP N b.2 (str [58])).bind fun c =>
 (Ws N c (str [105,110,116])).bind fun d =>
 bif !d.1 then (XP N d.2 (str [116,101,120,116])).bind fun e =>
 (U3 N e).bind fun f =>
 (XP N f.2 (str [46,46])).bind fun g =>
 (U3 N g).bind fun h =>
 some ((⟨b.1,(⟨2,f.1,h.1⟩:T4)⟩:T2),h.2)
 else (L9 N d.2).bind fun i =>
 (XP N i.2 (str [46,46])).bind fun j =>
 (L9 N j).bind fun k =>
 some ((⟨b.1,(⟨1,i.1,k.1⟩:T4)⟩:T2),k.2)
def ZgM:Option Int :=
 some (-1)
def ZcP (a:ByteArray) (b:Int):Nat->Int->Option Int
 | 0,_=>none
 | c+1,d =>
 bif decide (d>=0) then (Xc a d).bind fun e =>
 bif e==b then some d
 else (ZcP a b c) (ZN (d-1))
 else ZgM
def ZgL (N:Nat) (a:ByteArray) (b:Int):Option Int :=
 ZcP a b N (ZN ((a.size:Int)-1))
def z228 (N:Nat) (a:ByteArray) (b:Int):Option Int :=
 (ZgL N a b).bind fun c =>
 some c
def Zcq (N:Nat) (a:List T7) (b:Int) (c:Int) (d:Int) (e:Int) (f:Int) (g:ByteArray) (h:ByteArray):Option (Yq × Z9) :=
 (Ws N (⟨a,b,c,d,e⟩:Z9) (str [43])).bind fun i =>
 bif i.1 then (U3 N i.2).bind fun j =>
 some ((⟨f,g,h,j.1⟩:Yq),j.2)
 else (Ws N i.2 (str [45])).bind fun k =>
 bif k.1 then (U3 N k.2).bind fun l =>
 some ((⟨f,g,h,(ZN (0-l.1))⟩:Yq),l.2)
 else some ((⟨f,g,h,0⟩:Yq),k.2)
def Zcr (N:Nat) (a:List T7) (b:Int) (c:Int) (d:Int) (e:Int) (f:Int) (g:ByteArray):Option (Yq × Z9) :=
 (z228 N g 46).bind fun h =>
 bif decide (h>=0) then (ssl g none (some h)).bind fun i =>
 (ssl g (some (ZN (h+1))) none).bind fun j =>
 Zcq N a b c d e f i j
 else Zcq N a b c d e f (str []) g
def Ha (N:Nat) (a:Z9):Option (Yq × Z9) :=
 (ZbK N a (str [45])).bind fun b =>
 bif b then (L9 N a).bind fun c =>
 some ((⟨1,(str []),(str []),c.1⟩:Yq),c.2)
 else (z146 N a).bind fun d =>
 bif d.Zq==2 then (L9 N a).bind fun e =>
 some ((⟨1,(str []),(str []),e.1⟩:Yq),e.2)
 else (Ws N a (str [108,101,110])).bind fun f =>
 bif f.1 then (XP N f.2 (str [40])).bind fun g =>
 (z148 N g).bind fun h =>
 (XP N h.2 (str [41])).bind fun i =>
 Zcr N i.l' i.n' i.end' i.at' i.err' 3 h.1
 else (z148 N f.2).bind fun j =>
 Zcr N j.2.l' j.2.n' j.2.end' j.2.at' j.2.err' 2 j.1
def LR (N:Nat):Option (List ByteArray) :=
 some ([(str [60]),(str [60,61]),(str [61,61]),(str [62,61]),(str [62])]:List ByteArray)
def ZbQ (N:Nat) (a:Z9):Option (Y5 × Z9) :=
 (Ha N a).bind fun b =>
 (z146 N b.2).bind fun c =>
 bif c.Zq==4 then (LR N).bind fun d =>
 (Vu N d c.ZG).bind fun e =>
 bif e then (Ha N (⟨b.2.l',(ZN (b.2.n'+1)),b.2.end',b.2.at',b.2.err'⟩:Z9)).bind fun f =>
 some ((⟨b.1,c.ZG,f.1⟩:Y5),f.2)
 else (Sp N b.2 3).bind fun g =>
 (Ha N g).bind fun h =>
 some ((⟨b.1,(str []),h.1⟩:Y5),h.2)
 else (Sp N b.2 3).bind fun i =>
 (Ha N i).bind fun j =>
 some ((⟨b.1,(str []),j.1⟩:Y5),j.2)
def Zho (N:Nat) (a:ByteArray × Z9) (b:List T2) (c:List T7) (d:Int) (e:Int) (f:Int) (g:Int) (h:List Y5):Option (Z2 × Z9) :=
 (XP N (⟨c,d,e,f,g⟩:Z9) (str [59])).bind fun i =>
 some ((⟨a.1,b,h⟩:Z2),i)
def Zdw (N:Nat) (a:ByteArray × Z9) (b:List T2):Nat->(List T7)->Int->Int->Int->Int->(List Y5)->Option (Z2 × Z9)
 | 0,_,_,_,_,_,_=>none
 | c+1,d,e,f,g,h,i =>
 (Ws N (⟨d,e,f,g,h⟩:Z9) (str [97,110,100])).bind fun j =>
 bif j.1 then (ZbQ N j.2).bind fun k =>
 (YJ i ([k.1]:List Y5)).bind fun l =>
 (Zdw N a b c) k.2.l' k.2.n' k.2.end' k.2.at' k.2.err' l
 else Zho N a b j.2.l' j.2.n' j.2.end' j.2.at' j.2.err' i
def Zdv (N:Nat) (a:ByteArray × Z9) (b:List T7) (c:Int) (d:Int) (e:Int) (f:Int) (g:List T2):Option (Z2 × Z9) :=
 (Ws N (⟨b,c,d,e,f⟩:Z9) (str [119,104,101,114,101])).bind fun h =>
 bif h.1 then (ZbQ N h.2).bind fun i =>
 (YJ ([]:List Y5) ([i.1]:List Y5)).bind fun j =>
 Zdw N a g N i.2.l' i.2.n' i.2.end' i.2.at' i.2.err' j
 else (XP N h.2 (str [59])).bind fun k =>
 some ((⟨a.1,g,([]:List Y5)⟩:Z2),k)
def Zhp (N:Nat) (a:ByteArray × Z9) (b:List T7) (c:Int) (d:Int) (e:Int) (f:Int) (g:List T2):Option (Z2 × Z9) :=
 (XP N (⟨b,c,d,e,f⟩:Z9) (str [41])).bind fun h =>
 Zdv N a h.l' h.n' h.end' h.at' h.err' g
def Zdx (N:Nat) (a:ByteArray × Z9):Nat->(List T7)->Int->Int->Int->Int->(List T2)->Option (Z2 × Z9)
 | 0,_,_,_,_,_,_=>none
 | b+1,c,d,e,f,g,h =>
 (Ws N (⟨c,d,e,f,g⟩:Z9) (str [44])).bind fun i =>
 bif i.1 then (ZbM N i.2).bind fun j =>
 (YJ h ([j.1]:List T2)).bind fun k =>
 (Zdx N a b) j.2.l' j.2.n' j.2.end' j.2.at' j.2.err' k
 else Zhp N a i.2.l' i.2.n' i.2.end' i.2.at' i.2.err' h
def z81 (N:Nat) (a:Z9):Option (Z2 × Z9) :=
 (z148 N a).bind fun b =>
 (XP N b.2 (str [40])).bind fun c =>
 (Ws N c (str [41])).bind fun d =>
 bif !d.1 then (ZbM N d.2).bind fun e =>
 (YJ ([]:List T2) ([e.1]:List T2)).bind fun f =>
 Zdx N b N e.2.l' e.2.n' e.2.end' e.2.at' e.2.err' f
 else Zdv N b d.2.l' d.2.n' d.2.end' d.2.at' d.2.err' ([]:List T2)
def Rr (N:Nat) (rc:Z9->Option ((List ZS) × Z9)) (a:Z9):Option ((List ZS) × Z9) :=
 (XP N a (str [123])).bind fun b =>
 (rc b).bind fun c =>
 (XP N c.2 (str [125])).bind fun d =>
 some (c.1,d)
def Zgz (N:Nat) (rc:Z9->Option ((List ZS) × Z9)) (a:ByteArray × Z9) (b:Int) (c:List T7) (d:Int) (e:Int) (f:Int) (g:Int) (h:(List (List ZS))):Option (ZS × Z9) :=
 bif decide (b > 0) then (XP N (⟨c,d,e,f,g⟩:Z9) (str [101,108,115,101])).bind fun i =>
 (Rr N rc i).bind fun j =>
 (YJ h ([j.1]:List (List ZS))).bind fun k =>
 some ((⟨2,a.1,([]:List ByteArray),(str []),(str []),b,k⟩:ZS),j.2)
 else some ((⟨2,a.1,([]:List ByteArray),(str []),(str []),b,h⟩:ZS),(⟨c,d,e,f,g⟩:Z9))
def Zcs (N:Nat) (rc:Z9->Option ((List ZS) × Z9)) (a:ByteArray × Z9) (b:Int):Nat->(List T7)->Int->Int->Int->Int->(List (List ZS))->Option (ZS × Z9)
 | 0,_,_,_,_,_,_=>none
 | c+1,d,e,f,g,h,i =>
 (Ws N (⟨d,e,f,g,h⟩:Z9) (str [111,114])).bind fun j =>
 bif j.1 then (Rr N rc j.2).bind fun k =>
 (YJ i ([k.1]:List (List ZS))).bind fun l =>
 (Zcs N rc a b c) k.2.l' k.2.n' k.2.end' k.2.at' k.2.err' l
 else Zgz N rc a b j.2.l' j.2.n' j.2.end' j.2.at' j.2.err' i
def PZ (N:Nat) (rc:Z9->Option ((List ZS) × Z9)) (a:ByteArray × Z9) (b:List T7) (c:Int) (d:Int) (e:Int) (f:Int) (g:Int):Option (ZS × Z9) :=
 (Rr N rc (⟨b,c,d,e,f⟩:Z9)).bind fun h =>
 Zcs N rc a g N h.2.l' h.2.n' h.2.end' h.2.at' h.2.err' ([h.1]:List (List ZS))
def Zgy (N:Nat) (rc:Z9->Option ((List ZS) × Z9)) (a:Z9):Option (ZS × Z9) :=
 (XP N a (str [97,116])).bind fun b =>
 (U8 N b).bind fun c =>
 (Ws N c.2 (str [119,105,116,104,105,110])).bind fun d =>
 bif d.1 then (z146 N d.2).bind fun e =>
 bif e.Zq==2 then bif decide (e.Value < 1) then (Sp N d.2 2).bind fun f =>
 (U3 N f).bind fun g =>
 PZ N rc c g.2.l' g.2.n' g.2.end' g.2.at' g.2.err' g.1
 else bif decide (e.Value > 1000) then (Sp N d.2 2).bind fun h =>
 (U3 N h).bind fun i =>
 PZ N rc c i.2.l' i.2.n' i.2.end' i.2.at' i.2.err' i.1
 else (U3 N d.2).bind fun j =>
 PZ N rc c j.2.l' j.2.n' j.2.end' j.2.at' j.2.err' j.1
 else (U3 N d.2).bind fun k =>
 PZ N rc c k.2.l' k.2.n' k.2.end' k.2.at' k.2.err' k.1
 else PZ N rc c d.2.l' d.2.n' d.2.end' d.2.at' d.2.err' 0
def Zgi (a:List T7) (b:Int) (c:Int) (d:Int) (e:Int) (f:(List (List ZS))):Option (ZS × Z9) :=
 some ((⟨5,(str []),([]:List ByteArray),(str []),(str []),0,f⟩:ZS),(⟨a,b,c,d,e⟩:Z9))
def ZbS (N:Nat) (rc:Z9->Option ((List ZS) × Z9)):Nat->(List T7)->Int->Int->Int->Int->(List (List ZS))->Option (ZS × Z9)
 | 0,_,_,_,_,_,_=>none
 | a+1,b,c,d,e,f,g =>
 (Ws N (⟨b,c,d,e,f⟩:Z9) (str [97,110,100])).bind fun h =>
 bif h.1 then (Rr N rc h.2).bind fun i =>
 (YJ g ([i.1]:List (List ZS))).bind fun j =>
 (ZbS N rc a) i.2.l' i.2.n' i.2.end' i.2.at' i.2.err' j
 else Zgi h.2.l' h.2.n' h.2.end' h.2.at' h.2.err' g
def ZbR (N:Nat) (rc:Z9->Option ((List ZS) × Z9)) (a:Z9):Option (ZS × Z9) :=
 (Ws N a (str [99,104,111,105,99,101])).bind fun b =>
 bif b.1 then (Zgy N rc b.2).bind fun c =>
 some (c.1,c.2)
 else (Ws N b.2 (str [108,111,111,112])).bind fun d =>
 bif d.1 then (z148 N d.2).bind fun e =>
 (Rr N rc e.2).bind fun f =>
 some ((⟨3,(str []),([]:List ByteArray),e.1,(str []),0,([f.1]:List (List ZS))⟩:ZS),f.2)
 else (Ws N d.2 (str [97,103,97,105,110])).bind fun g =>
 bif g.1 then (z148 N g.2).bind fun h =>
 (XP N h.2 (str [59])).bind fun i =>
 some ((⟨4,(str []),([]:List ByteArray),h.1,(str []),0,([]:List (List ZS))⟩:ZS),i)
 else (Ws N g.2 (str [112,97,114])).bind fun j =>
 bif j.1 then (Rr N rc j.2).bind fun k =>
 (XP N k.2 (str [97,110,100])).bind fun l =>
 (Rr N rc l).bind fun m =>
 (YJ ([k.1]:List (List ZS)) ([m.1]:List (List ZS))).bind fun o =>
 ZbS N rc N m.2.l' m.2.n' m.2.end' m.2.at' m.2.err' o
 else (Ws N j.2 (str [99,97,108,108])).bind fun p =>
 bif p.1 then (U8 N p.2).bind fun q =>
 (XP N q.2 (str [40])).bind fun r =>
 (BB N r).bind fun s =>
 (XP N s.2 (str [41])).bind fun t =>
 (XP N t (str [97,115])).bind fun u =>
 (U8 N u).bind fun v =>
 (XP N v.2 (str [59])).bind fun w =>
 some ((⟨6,(str []),s.1,q.1,v.1,0,([]:List (List ZS))⟩:ZS),w)
 else (U8 N p.2).bind fun x =>
 (XP N x.2 (str [45,62])).bind fun y =>
 (BB N y).bind fun z =>
 (XP N z.2 (str [58])).bind fun A =>
 (z148 N A).bind fun B =>
 (XP N B.2 (str [59])).bind fun C =>
 some ((⟨1,x.1,z.1,B.1,(str []),0,([]:List (List ZS))⟩:ZS),C)
def BE (N:Nat) (rc:Z9->Option ((List ZS) × Z9)):Nat->(List T7)->Int->Int->Int->Int->(List ZS)->Option ((List ZS) × Z9)
 | 0,_,_,_,_,_,_=>none
 | a+1,b,c,d,e,f,g =>
 (z146 N (⟨b,c,d,e,f⟩:Z9)).bind fun h =>
 bif h.Zq != 1 then some (g,(⟨b,c,d,e,f⟩:Z9))
 else (Wr N h.ZG).bind fun i =>
 bif !i then (Vu N ([(str [99,104,111,105,99,101]),(str [108,111,111,112]),(str [97,103,97,105,110]),(str [112,97,114]),(str [99,97,108,108])]:List ByteArray) h.ZG).bind fun j =>
 bif !j then some (g,(⟨b,c,d,e,f⟩:Z9))
 else (ZbR N rc (⟨b,c,d,e,f⟩:Z9)).bind fun k =>
 (YJ g ([k.1]:List ZS)).bind fun l =>
 (BE N rc a) k.2.l' k.2.n' k.2.end' k.2.at' k.2.err' l
 else (ZbR N rc (⟨b,c,d,e,f⟩:Z9)).bind fun m =>
 (YJ g ([m.1]:List ZS)).bind fun o =>
 (BE N rc a) m.2.l' m.2.n' m.2.end' m.2.at' m.2.err' o
def Zhq (N:Nat) (rc:Z9->Option ((List ZS) × Z9)) (a:Z9):Option ((List ZS) × Z9) :=
 BE N rc N a.l' a.n' a.end' a.at' a.err' ([]:List ZS)
def Zdy:Nat->Z9->Option ((List ZS) × Z9)
 | 0,_=>none
 | N+1,a0=>Zhq N (Zdy N) a0
def z82 (N:Nat) (a:Z9):Option ((List ZS) × Z9):=Zdy N a
def ZgR (N:Nat) (a:ByteArray × Z9) (b:List ByteArray × Z9) (c:List T7) (d:Int) (e:Int) (f:Int) (g:Int) (h:List Z2):Option (ZT × Z9) :=
 (z82 N (⟨c,d,e,f,g⟩:Z9)).bind fun i =>
 (XP N i.2 (str [125])).bind fun j =>
 some ((⟨a.1,b.1,h,i.1⟩:ZT),j)
def ZcY (N:Nat) (a:ByteArray × Z9) (b:List ByteArray × Z9):Nat->(List T7)->Int->Int->Int->Int->(List Z2)->Option (ZT × Z9)
 | 0,_,_,_,_,_,_=>none
 | c+1,d,e,f,g,h,i =>
 (Ws N (⟨d,e,f,g,h⟩:Z9) (str [109,101,115,115,97,103,101])).bind fun j =>
 bif j.1 then (z81 N j.2).bind fun k =>
 (YJ i ([k.1]:List Z2)).bind fun l =>
 (ZcY N a b c) k.2.l' k.2.n' k.2.end' k.2.at' k.2.err' l
 else ZgR N a b j.2.l' j.2.n' j.2.end' j.2.at' j.2.err' i
def z31 (N:Nat) (a:Z9):Option (ZT × Z9) :=
 (XP N a (str [112,114,111,116,111,99,111,108])).bind fun b =>
 (U8 N b).bind fun c =>
 (XP N c.2 (str [40])).bind fun d =>
 (BB N d).bind fun e =>
 (XP N e.2 (str [41])).bind fun f =>
 (XP N f (str [123])).bind fun g =>
 ZcY N c e N g.l' g.n' g.end' g.at' g.err' ([]:List Z2)
def ZbT (N:Nat) (a:ByteArray):Option Bool :=
 (Wr N a).bind fun b =>
 some (!b)
def Zb9:Option Int :=
 some (-1)
def PO (N:Nat) (a:List ByteArray):Nat->Int->Option Int
 | 0,_=>none
 | b+1,c =>
 bif decide (c < (a.length:Int)) then (ZW a c).bind fun d =>
 (ZbT N d).bind fun e =>
 bif e then some c
 else (PO N a b) (ZN (c+1))
 else Zb9
def Zb8 (N:Nat) (a:List ByteArray):Option Int :=
 PO N a N 0
def ZbC (N:Nat) (a:List ByteArray):Option Bool :=
 (Zb8 N a).bind fun b =>
 some (decide (b>=0))
def My (N:Nat) (a:List ByteArray) (b:Int):Option Bool :=
 bif decide ((a.length:Int)>=1) then bif decide ((a.length:Int)<=b) then (ZbC N a).bind fun c =>
 some (!c)
 else some false
 else some false
def ZgJ (a:Int) (b:Nat):Option Int :=
 some a
def ZcM (a:ByteArray):Nat->Int->Nat->Option Int
 | 0,_,_=>none
 | b+1,c,d =>
 bif decide (d < a.size) then (ZcM a b) (ZN (c+1)) (d+(Utf8.decode a d).2)
 else ZgJ c d
def ZcL (N:Nat) (a:ByteArray):Option Int :=
 ZcM a N 0 (0:Nat)
def ZcQ (N:Nat) (a:ByteArray):Option (Int × Int) :=
 bif decide ((a.size:Int) < 1) then some (65533,0)
 else (Xc a 0).bind fun b =>
 Ga 0
def ZgK (N:Nat) (a:ByteArray):Option (Int × Int) :=
 bif !(a.toList==(str []).toList) then (Xc a 0).bind fun b =>
 bif decide (b < 128) then (Xc a 0).bind fun c =>
 some ((wk .i32 (c)),1)
 else (ZcQ N a).bind fun d =>
 some (d.1,d.2)
 else (ZcQ N a).bind fun e =>
 some (e.1,e.2)
def ZgE (a:Int) (b:ByteArray) (c:List ByteArray):Option (List ByteArray) :=
 bif decide (a > 0) then (ZW c (ZN (a-1))).bind fun d =>
 some (YQ c (ZN (a-1)) b)
 else some c
def ZcH (N:Nat) (a:Int):Nat->ByteArray->(List ByteArray)->Int->Option (List ByteArray)
 | 0,_,_,_=>none
 | b+1,c,d,e =>
 bif decide (e < (ZN (a-1))) then (ZgK N c).bind fun f =>
 (ssl c none (some f.2)).bind fun g =>
 (ZW d e).bind fun h =>
 (ssl c (some f.2) none).bind fun i =>
 (ZcH N a b) i (YQ d e g) (ZN (e+1))
 else ZgE a c d
def ZcF (N:Nat) (a:ByteArray) (b:Int):Option (List ByteArray) :=
 (Sc (str []) b b).bind fun c =>
 ZcH N b N a c 0
def ZcG (N:Nat) (a:ByteArray) (b:Int) (c:Int) (d:Bool):Option (List ByteArray) :=
 bif d then ZcF N a c
 else ZcF N a b
def ZgD (N:Nat) (a:ByteArray) (b:Int):Option (List ByteArray) :=
 (ZcL N a).bind fun c =>
 bif decide (b < 0) then ZcG N a b c true
 else ZcG N a b c (decide (b > c))
def ZcI (N:Nat) (a:ByteArray):Nat->ByteArray->Int->Option Int
 | 0,_,_=>none
 | b+1,c,d =>
 (PY N c a).bind fun e =>
 bif e==(-1) then some d
 else (ssl c (some (ZN (e+(a.size:Int)))) none).bind fun f =>
 (ZcI N a b) f (ZN (d+1))
def z222 (N:Nat) (a:ByteArray) (b:ByteArray):Option Int :=
 bif (b.size:Int)==0 then (ZcL N a).bind fun c =>
 some (ZN (c+1))
 else bif (b.size:Int)==1 then (Xc b 0).bind fun d =>
 some (B9 a d)
 else ZcI N b N a 0
def L8 (a:ByteArray) (b:List ByteArray) (c:Int):Option (List ByteArray) :=
 (ZW b c).bind fun d =>
 (lsl (YQ b c a) none (some (ZN (c+1)))).bind fun e =>
 some e
def Qh (N:Nat) (a:ByteArray) (b:ByteArray) (c:Int) (d:Int):Nat->ByteArray->(List ByteArray)->Int->Option (List ByteArray)
 | 0,_,_,_=>none
 | e+1,f,g,h =>
 bif decide (h < (ZN ((XJ d (ZN ((a.size:Int)+1)))-1))) then (PY N f b).bind fun i =>
 bif decide (i < 0) then L8 f g h
 else (ssl f none (some (ZN (i+c)))).bind fun j =>
 (ZW g h).bind fun k =>
 (ssl f (some (ZN (i+(b.size:Int)))) none).bind fun l =>
 (Qh N a b c d e) l (YQ g h j) (ZN (h+1))
 else L8 f g h
def DJ (N:Nat) (a:ByteArray) (b:ByteArray) (c:Int) (d:Int):Option (List ByteArray) :=
 (Sc (str []) (XJ d (ZN ((a.size:Int)+1))) (XJ d (ZN ((a.size:Int)+1)))).bind fun e =>
 Qh N a b c d N a e 0
def Zch (N:Nat) (a:ByteArray) (b:ByteArray) (c:Int) (d:Int):Option (List ByteArray) :=
 bif d==0 then some ([]:List ByteArray)
 else bif b.toList==(str []).toList then (ZgD N a d).bind fun e =>
 some e
 else bif decide (d < 0) then (z222 N a b).bind fun f =>
 DJ N a b c (ZN (f+1))
 else DJ N a b c d
def Dm (N:Nat) (a:ByteArray) (b:ByteArray):Option (List ByteArray) :=
 (Zch N a b 0 (-1)).bind fun c =>
 some c
def ZbE (N:Nat) (a:ByteArray):Option Bool :=
 (Wr N a).bind fun b =>
 some (!b)
def Zcc:Option Int :=
 some (-1)
def PQ (N:Nat) (a:List ByteArray):Nat->Int->Option Int
 | 0,_=>none
 | b+1,c =>
 bif decide (c < (a.length:Int)) then (ZW a c).bind fun d =>
 (ZbE N d).bind fun e =>
 bif e then some c
 else (PQ N a b) (ZN (c+1))
 else Zcc
def Zca (N:Nat) (a:List ByteArray):Option Int :=
 PQ N a N 0
def ZbD (N:Nat) (a:List ByteArray):Option Bool :=
 (Zca N a).bind fun b =>
 some (decide (b>=0))
def SB (N:Nat) (a:ByteArray):Option Bool :=
 bif decide ((a.size:Int)<=50) then (Dm N a (str [46])).bind fun b =>
 (ZbD N b).bind fun c =>
 some (!c)
 else some false
def PH (N:Nat) (a:ZS) (b:Bool):Option Bool :=
 bif b then bif a.ZA.toList==(str []).toList then bif (a.To.length:Int)==0 then (SB N a.Zt).bind fun c =>
 bif c then bif a.As.toList==(str []).toList then bif a.ZB==0 then bif (a.Zq==3)==((a.ZC.length:Int)==1) then some (decide ((a.ZC.length:Int)<=1))
 else some false
 else some false
 else some false
 else some false
 else some false
 else some false
 else bif a.Zq==5 then bif a.ZA.toList==(str []).toList then bif (a.To.length:Int)==0 then bif a.Zt.toList==(str []).toList then bif a.As.toList==(str []).toList then bif a.ZB==0 then bif decide ((a.ZC.length:Int)>=2) then some (decide ((a.ZC.length:Int)<=8))
 else some false
 else some false
 else some false
 else some false
 else some false
 else some false
 else bif a.Zq==6 then bif a.ZA.toList==(str []).toList then (My N a.To 6).bind fun d =>
 bif d then (Wr N a.Zt).bind fun e =>
 bif e then (Wr N a.As).bind fun f =>
 bif f then bif a.ZB==0 then some ((a.ZC.length:Int)==0)
 else some false
 else some false
 else some false
 else some false
 else some false
 else some false
def Dp (N:Nat) (a:ZS):Option Bool :=
 bif a.Zq==1 then (Wr N a.ZA).bind fun b =>
 bif b then (My N a.To 5).bind fun c =>
 bif c then (SB N a.Zt).bind fun d =>
 bif d then bif a.As.toList==(str []).toList then bif a.ZB==0 then some ((a.ZC.length:Int)==0)
 else some false
 else some false
 else some false
 else some false
 else some false
 else bif a.Zq==2 then (Wr N a.ZA).bind fun e =>
 bif e then bif (a.To.length:Int)==0 then bif a.Zt.toList==(str []).toList then bif a.As.toList==(str []).toList then bif decide (a.ZB>=0) then bif decide (a.ZB<=1000) then bif decide ((a.ZC.length:Int)>=(ZN (1+(XJ a.ZB 1)))) then some (decide ((a.ZC.length:Int)<=8))
 else some false
 else some false
 else some false
 else some false
 else some false
 else some false
 else some false
 else bif a.Zq==3 then PH N a true
 else PH N a (a.Zq==4)
def Zdz (a:Int):Option (Bool × Int) :=
 some (true,a)
def ZdA (a:Int) (b:Int->Int->Option (Bool × Int)) (c:Int):Option (Bool × Int) :=
 b c (ZN (a+1))
def Mz (rc:List ZS->Int->Int->Option (Bool × Int)) (a:Int) (b:Int) (c:Int->Int->Option (Bool × Int)) (d:ZS):Nat->Int->Int->Option (Bool × Int)
 | 0,_,_=>none
 | e+1,f,g =>
 bif decide (g < (d.ZC.length:Int)) then (ZW d.ZC g).bind fun h =>
 (rc h (ZN (a+1)) f).bind fun i =>
 bif !i.1 then some (false,i.2)
 else (Mz rc a b c d e) i.2 (ZN (g+1))
 else ZdA b c f
def RB (N:Nat) (rc:List ZS->Int->Int->Option (Bool × Int)) (a:List ZS) (b:Int):Nat->Int->Int->Option (Bool × Int)
 | 0,_,_=>none
 | c+1,d,e =>
 bif decide (e < (a.length:Int)) then (ZW a e).bind fun f =>
 bif decide (b > 10) then some (false,(ZN (d+1)))
 else bif decide ((ZN (d+1)) > 300) then some (false,(ZN (d+1)))
 else (Dp N f).bind fun g =>
 bif !g then some (false,(ZN (d+1)))
 else Mz rc b e (RB N rc a b c) f N (ZN (d+1)) 0
 else Zdz d
def BF (N:Nat) (rc:List ZS->Int->Int->Option (Bool × Int)) (a:List ZS) (b:Int) (c:Int):Option (Bool × Int) :=
 RB N rc a b N c 0
def ZdB:Nat->(List ZS)->Int->Int->Option (Bool × Int)
 | 0,_,_,_=>none
 | N+1,a0,a1,a2=>BF N (ZdB N) a0 a1 a2
def HJ (N:Nat) (a:List ZS) (b:Int) (c:Int):Option (Bool × Int):=ZdB N a b c
def Zct (N:Nat) (a:Int):Option Bool :=
 bif decide (a>=(-999999)) then some (decide (a<=999999))
 else some false
def PI (N:Nat) (a:Yq) (b:Bool):Option Bool :=
 bif b then (Wr N a.Field).bind fun c =>
 bif c then bif a.Zv.toList==(str []).toList then some true
 else (SB N a.Zv).bind fun d =>
 some d
 else some false
 else some false
def LQ (N:Nat) (a:Yq):Option Bool :=
 (Zct N a.N).bind fun b =>
 bif !b then some false
 else bif a.Zq==1 then bif a.Zv.toList==(str []).toList then some (a.Field.toList==(str []).toList)
 else some false
 else bif a.Zq==2 then PI N a true
 else PI N a (a.Zq==3)
def ZdC:Option Bool :=
 some true
def HL (N:Nat) (a:Z2):Nat->Int->Option Bool
 | 0,_=>none
 | b+1,c =>
 bif decide (c < (a.Zz.length:Int)) then (ZW a.Zz c).bind fun d =>
 (LQ N d.Zw).bind fun e =>
 bif !e then some false
 else (LQ N d.Zx).bind fun f =>
 bif !f then some false
 else (LR N).bind fun g =>
 (Vu N g d.Op).bind fun h =>
 bif !h then some false
 else (HL N a b) (ZN (c+1))
 else ZdC
def ZdD (N:Nat) (a:Z2):Option Bool :=
 HL N a N 0
def HK (N:Nat) (a:Int) (b:Int->Option Bool) (c:T2) (d:Int):Option Bool :=
 (Wr N c.Zt).bind fun e =>
 bif !e then some false
 else bif c.Zu.Zq != 1 then bif c.Zu.Zq != 2 then some false
 else bif decide ((XJ c.Zu.Lo c.Zu.Hi) < d) then some false
 else bif decide ((Wy c.Zu.Lo c.Zu.Hi) > 999999) then some false
 else b (ZN (a+1))
 else bif decide ((XJ c.Zu.Lo c.Zu.Hi) < d) then some false
 else bif decide ((Wy c.Zu.Lo c.Zu.Hi) > 999999) then some false
 else b (ZN (a+1))
def SF (N:Nat) (a:Z2):Nat->Int->Option Bool
 | 0,_=>none
 | b+1,c =>
 bif decide (c < (a.Zy.length:Int)) then (ZW a.Zy c).bind fun d =>
 bif d.Zu.Zq==2 then HK N c (SF N a b) d 0
 else HK N c (SF N a b) d (-999999)
 else ZdD N a
def BG (N:Nat) (a:Z2):Option Bool :=
 (SB N a.Zt).bind fun b =>
 bif !b then some false
 else bif decide ((a.Zy.length:Int) > 4) then some false
 else bif decide ((a.Zz.length:Int) > 6) then some false
 else SF N a N 0
def VQ (N:Nat) (a:List ByteArray) (b:ByteArray):Option ByteArray:=bif decide (a.length<=140737488355328) && decide ((Wq b.data.toList (a.map (·.data.toList))).length<=140737488355328) then some ⟨(Wq b.data.toList (a.map (·.data.toList))).toArray⟩ else none
def Lh (l:List UInt8):Nat->List UInt8
 | 0=>[]
 | n+1=>l++Lh l n
def Qo (N:Nat) (a:ByteArray) (b:Int):Option ByteArray :=
 bif (decide (0<=b) && decide (b<=140737488355328)) && decide (a.size * b.toNat<=140737488355328) then some ⟨(Lh a.data.toList b.toNat).toArray⟩ else none
def ZbZ (N:Nat) (a:Yk):Option Yk :=
 some (⟨ByteArray.empty,a.depth'⟩:Yk)
def ZdP (N:Nat) (a:ByteArray) (b:Yk):Option (Int × Unit × Yk) :=
 (ZbZ N (⟨ByteArray.empty,b.depth'⟩:Yk)).bind fun c =>
 (QJ c.Builder a).bind fun d =>
 some ((a.size:Int),(),(⟨d,c.depth'⟩:Yk))
def Dr (N:Nat) (a:List ByteArray) (b:Yk):Option Yk :=
 (Qo N (str [9]) b.depth').bind fun c =>
 (VQ N a (str [])).bind fun d =>
 (Yp c d).bind fun e =>
 (Yp e (str [10])).bind fun f =>
 (ZdP N f (⟨ByteArray.empty,b.depth'⟩:Yk)).bind fun g =>
 some g.2.2
def TF (N:Nat) (a:Int):Option ByteArray:=bif decide ((-9223372036854775808)<=a) && decide (a<=9223372036854775807) then some (UM a) else none
def Qi (N:Nat) (a:Yq) (b:ByteArray):Option ByteArray :=
 bif decide (a.N > 0) then (TF N a.N).bind fun c =>
 (Yp (str [32,43,32]) c).bind fun d =>
 (Yp b d).bind fun e =>
 some e
 else bif decide (a.N < 0) then (TF N (ZN (0-a.N))).bind fun f =>
 (Yp (str [32,45,32]) f).bind fun g =>
 (Yp b g).bind fun h =>
 some h
 else some b
def Qj (N:Nat) (a:Yq) (b:ByteArray):Option ByteArray :=
 bif a.Zq==3 then (Yp (str [108,101,110,40]) b).bind fun c =>
 (Yp c (str [41])).bind fun d =>
 Qi N a d
 else Qi N a b
def P1 (N:Nat) (a:Yq):Option ByteArray :=
 bif a.Zq==1 then (TF N a.N).bind fun b =>
 some b
 else bif !(a.Zv.toList==(str []).toList) then (Yp a.Zv (str [46])).bind fun c =>
 (Yp c a.Field).bind fun d =>
 Qj N a d
 else Qj N a a.Field
def Zb0 (N:Nat) (a:Yk):Option Unit :=
 some ()
def ZdO (N:Nat) (a:ByteArray) (b:Yk):Option (Int × Unit × Yk) :=
 (Zb0 N b).bind fun c =>
 (QJ b.Builder a).bind fun d =>
 some ((a.size:Int),(),(⟨d,b.depth'⟩:Yk))
def WR (N:Nat) (a:List ByteArray) (b:Yk):Option Yk :=
 (Qo N (str [9]) b.depth').bind fun c =>
 (VQ N a (str [])).bind fun d =>
 (Yp c d).bind fun e =>
 (Yp e (str [10])).bind fun f =>
 (ZdO N f b).bind fun g =>
 some g.2.2
def Ds (N:Nat) (a:Z2) (b:Yk) (c:List ByteArray) (d:List ByteArray):Option Yk :=
 bif decide ((d.length:Int) > 0) then (VQ N d (str [32,97,110,100,32])).bind fun e =>
 (Yp (str [32,119,104,101,114,101,32]) e).bind fun f =>
 (VQ N c (str [44,32])).bind fun g =>
 (WR N ([(str [109,101,115,115,97,103,101,32]),a.Zt,(str [40]),g,(str [41]),f,(str [59])]:List ByteArray) b).bind fun h =>
 some h
 else (VQ N c (str [44,32])).bind fun i =>
 (WR N ([(str [109,101,115,115,97,103,101,32]),a.Zt,(str [40]),i,(str [41]),(str []),(str [59])]:List ByteArray) b).bind fun j =>
 some j
def PK (N:Nat) (a:Z2) (b:Yk) (c:List ByteArray):Nat->(List ByteArray)->Int->Option Yk
 | 0,_,_=>none
 | d+1,e,f =>
 bif decide (f < (a.Zz.length:Int)) then (ZW a.Zz f).bind fun g =>
 (P1 N g.Zw).bind fun h =>
 (Yp h (str [32])).bind fun i =>
 (Yp i g.Op).bind fun j =>
 (Yp j (str [32])).bind fun k =>
 (P1 N g.Zx).bind fun l =>
 (Yp k l).bind fun m =>
 (YJ e ([m]:List ByteArray)).bind fun o =>
 (PK N a b c d) o (ZN (f+1))
 else Ds N a b c e
def Dt (N:Nat) (a:Z2) (b:Yk) (c:List ByteArray):Option Yk :=
 PK N a b c N ([]:List ByteArray) 0
def LU (N:Nat) (a:List ByteArray) (b:Int) (c:List ByteArray->Int->Option Yk) (d:T2) (e:ByteArray):Option Yk :=
 (Yp d.Zt e).bind fun f =>
 (TF N d.Zu.Lo).bind fun g =>
 (Yp f g).bind fun h =>
 (Yp h (str [46,46])).bind fun i =>
 (TF N d.Zu.Hi).bind fun j =>
 (Yp i j).bind fun k =>
 (YJ a ([k]:List ByteArray)).bind fun l =>
 c l (ZN (b+1))
def Ro (N:Nat) (a:Z2) (b:Yk):Nat->(List ByteArray)->Int->Option Yk
 | 0,_,_=>none
 | c+1,d,e =>
 bif decide (e < (a.Zy.length:Int)) then (ZW a.Zy e).bind fun f =>
 bif f.Zu.Zq==2 then LU N d e (Ro N a b c) f (str [58,32,116,101,120,116,32])
 else LU N d e (Ro N a b c) f (str [58,32,105,110,116,32])
 else Dt N a b d
def PJ (N:Nat) (a:Z2) (b:Yk):Option Yk :=
 Ro N a b N ([]:List ByteArray) 0
def Zcw (N:Nat) (a:ByteArray) (b:Int):Option Yk :=
 (WR N ([(str [125])]:List ByteArray) (⟨a,b⟩:Yk)).bind fun c =>
 some c
def Qk (rc:List ZS->Yk->Option Yk) (a:Int) (b:ByteArray->Int->Int->Option Yk) (c:List ZS) (d:ByteArray) (e:Int):Option Yk :=
 (rc c (⟨d,(ZN (e+1))⟩:Yk)).bind fun f =>
 b f.Builder (ZN (f.depth'-1)) (ZN (a+1))
def U4 (N:Nat) (rc:List ZS->Yk->Option Yk) (a:ByteArray) (b:ByteArray) (c:ByteArray) (d:(List (List ZS))):Nat->ByteArray->Int->Int->Option Yk
 | 0,_,_,_=>none
 | e+1,f,g,h =>
 bif decide (h < (d.length:Int)) then (ZW d h).bind fun i =>
 bif h==0 then (WR N ([a,(str [32,123])]:List ByteArray) (⟨f,g⟩:Yk)).bind fun j =>
 Qk rc h (U4 N rc a b c d e) i j.Builder j.depth'
 else bif h==(ZN ((d.length:Int)-1)) then bif !(c.toList==(str []).toList) then (WR N ([(str [125,32]),c,(str [32,123])]:List ByteArray) (⟨f,g⟩:Yk)).bind fun k =>
 Qk rc h (U4 N rc a b c d e) i k.Builder k.depth'
 else (WR N ([(str [125,32]),b,(str [32,123])]:List ByteArray) (⟨f,g⟩:Yk)).bind fun l =>
 Qk rc h (U4 N rc a b c d e) i l.Builder l.depth'
 else (WR N ([(str [125,32]),b,(str [32,123])]:List ByteArray) (⟨f,g⟩:Yk)).bind fun m =>
 Qk rc h (U4 N rc a b c d e) i m.Builder m.depth'
 else Zcw N f g
def Rs (N:Nat) (rc:List ZS->Yk->Option Yk) (a:ByteArray) (b:ByteArray) (c:ByteArray) (d:(List (List ZS))) (e:Yk):Option Yk :=
 U4 N rc a b c d N e.Builder e.depth' 0
def ZbU (a:ByteArray) (b:Int):Option Yk :=
 some (⟨a,b⟩:Yk)
def VR (N:Nat) (rc:List ZS->Yk->Option Yk) (a:List ZS):Nat->ByteArray->Int->Int->Option Yk
 | 0,_,_,_=>none
 | b+1,c,d,e =>
 bif decide (e < (a.length:Int)) then (ZW a e).bind fun f =>
 bif f.Zq==1 then (VQ N f.To (str [44,32])).bind fun g =>
 (WR N ([f.ZA,(str [32,45,62,32]),g,(str [58,32]),f.Zt,(str [59])]:List ByteArray) (⟨c,d⟩:Yk)).bind fun h =>
 (VR N rc a b) h.Builder h.depth' (ZN (e+1))
 else bif f.Zq==2 then bif decide (f.ZB > 0) then (Yp (str [99,104,111,105,99,101,32,97,116,32]) f.ZA).bind fun i =>
 (Yp i (str [32,119,105,116,104,105,110,32])).bind fun j =>
 (TF N f.ZB).bind fun k =>
 (Yp j k).bind fun l =>
 (Rs N rc l (str [111,114]) (str [101,108,115,101]) f.ZC (⟨c,d⟩:Yk)).bind fun m =>
 (VR N rc a b) m.Builder m.depth' (ZN (e+1))
 else (Yp (str [99,104,111,105,99,101,32,97,116,32]) f.ZA).bind fun o =>
 (Rs N rc o (str [111,114]) (str []) f.ZC (⟨c,d⟩:Yk)).bind fun p =>
 (VR N rc a b) p.Builder p.depth' (ZN (e+1))
 else bif f.Zq==3 then (Yp (str [108,111,111,112,32]) f.Zt).bind fun q =>
 (Rs N rc q (str []) (str []) f.ZC (⟨c,d⟩:Yk)).bind fun r =>
 (VR N rc a b) r.Builder r.depth' (ZN (e+1))
 else bif f.Zq==4 then (WR N ([(str [97,103,97,105,110,32]),f.Zt,(str [59])]:List ByteArray) (⟨c,d⟩:Yk)).bind fun s =>
 (VR N rc a b) s.Builder s.depth' (ZN (e+1))
 else bif f.Zq==5 then (Rs N rc (str [112,97,114]) (str [97,110,100]) (str []) f.ZC (⟨c,d⟩:Yk)).bind fun t =>
 (VR N rc a b) t.Builder t.depth' (ZN (e+1))
 else bif f.Zq==6 then (VQ N f.To (str [44,32])).bind fun u =>
 (WR N ([(str [99,97,108,108,32]),f.Zt,(str [40]),u,(str [41,32,97,115,32]),f.As,(str [59])]:List ByteArray) (⟨c,d⟩:Yk)).bind fun v =>
 (VR N rc a b) v.Builder v.depth' (ZN (e+1))
 else (VR N rc a b) c d (ZN (e+1))
 else ZbU c d
def Du (N:Nat) (rc:List ZS->Yk->Option Yk) (a:List ZS) (b:Yk):Option Yk :=
 VR N rc a N b.Builder b.depth' 0
def ZbV:Nat->(List ZS)->Yk->Option Yk
 | 0,_,_=>none
 | N+1,a0,a1=>Du N (ZbV N) a0 a1
def Rp (N:Nat) (a:List ZS) (b:Yk):Option Yk:=ZbV N a b
def HP (N:Nat) (a:Yk):Option ByteArray :=
 (M4 a.Builder).bind fun b =>
 (M4 a.Builder).bind fun c =>
 some a.Builder
def ZhC (N:Nat) (a:Yk):Option ByteArray :=
 some ByteArray.empty
def BI (N:Nat) (a:Int) (b:ByteArray->Int->Int->Option ByteArray) (c:ZT) (d:ByteArray) (e:Int):Option ByteArray :=
 (Rp N c.ZF (⟨d,e⟩:Yk)).bind fun f =>
 (WR N ([(str [125])]:List ByteArray) (⟨f.Builder,(ZN (f.depth'-1))⟩:Yk)).bind fun g =>
 b g.Builder g.depth' (ZN (a+1))
def MA (N:Nat) (a:Int) (b:ByteArray->Int->Int->Option ByteArray) (c:ZT):Nat->ByteArray->Int->Int->Option ByteArray
 | 0,_,_,_=>none
 | d+1,e,f,g =>
 bif decide (g < (c.ZE.length:Int)) then (ZW c.ZE g).bind fun h =>
 (PJ N h (⟨e,f⟩:Yk)).bind fun i =>
 (MA N a b c d) i.Builder i.depth' (ZN (g+1))
 else BI N a b c e f
def U9 (N:Nat) (a:List ZT):Nat->ByteArray->Int->Int->Option ByteArray
 | 0,_,_,_=>none
 | b+1,c,d,e =>
 bif decide (e < (a.length:Int)) then (ZW a e).bind fun f =>
 (VQ N f.ZD (str [44,32])).bind fun g =>
 (WR N ([(str [112,114,111,116,111,99,111,108,32]),f.Zt,(str [40]),g,(str [41,32,123])]:List ByteArray) (⟨c,d⟩:Yk)).bind fun h =>
 MA N e (U9 N a b) f N h.Builder (ZN (h.depth'+1)) 0
 else (HP N (⟨c,d⟩:Yk)).bind fun i =>
 some i
def BJ (N:Nat) (a:List ZT) (b:ZT) (c:ByteArray) (d:Int):Option ByteArray :=
 (Rp N b.ZF (⟨c,d⟩:Yk)).bind fun e =>
 (WR N ([(str [125])]:List ByteArray) (⟨e.Builder,(ZN (e.depth'-1))⟩:Yk)).bind fun f =>
 U9 N a N f.Builder f.depth' (ZN (0+1))
def MB (N:Nat) (a:List ZT) (b:ZT):Nat->ByteArray->Int->Int->Option ByteArray
 | 0,_,_,_=>none
 | c+1,d,e,f =>
 bif decide (f < (b.ZE.length:Int)) then (ZW b.ZE f).bind fun g =>
 (PJ N g (⟨d,e⟩:Yk)).bind fun h =>
 (MB N a b c) h.Builder h.depth' (ZN (f+1))
 else BJ N a b d e
def BH (N:Nat) (a:List ZT):Option ByteArray :=
 bif decide (0 < (a.length:Int)) then (ZW a 0).bind fun b =>
 (VQ N b.ZD (str [44,32])).bind fun c =>
 (Dr N ([(str [112,114,111,116,111,99,111,108,32]),b.Zt,(str [40]),c,(str [41,32,123])]:List ByteArray) (⟨ByteArray.empty,0⟩:Yk)).bind fun d =>
 MB N a b N d.Builder (ZN (d.depth'+1)) 0
 else (ZhC N (⟨ByteArray.empty,0⟩:Yk)).bind fun e =>
 some e
def ZcZ (N:Nat) (a:List ZT):Option Bool :=
 (BH N a).bind fun b =>
 some (decide ((b.size:Int)<=8000))
def Zc0 (a:Int) (b:Int->Option Bool):Option Bool :=
 b (ZN (a+1))
def Mi (N:Nat) (a:Int) (b:Int->Option Bool) (c:ZT):Nat->Int->Option Bool
 | 0,_=>none
 | d+1,e =>
 bif decide (e < (c.ZE.length:Int)) then (ZW c.ZE e).bind fun f =>
 (BG N f).bind fun g =>
 bif !g then some false
 else (Mi N a b c d) (ZN (e+1))
 else Zc0 a b
def Rw (N:Nat) (a:List ZT):Nat->Int->Option Bool
 | 0,_=>none
 | b+1,c =>
 bif decide (c < (a.length:Int)) then (ZW a c).bind fun d =>
 (Wr N d.Zt).bind fun e =>
 bif !e then some false
 else (My N d.ZD 6).bind fun f =>
 bif !f then some false
 else bif decide ((d.ZE.length:Int) > 40) then some false
 else (HJ N d.ZF 1 0).bind fun g =>
 bif !g.1 then some false
 else Mi N c (Rw N a b) d N 0
 else ZcZ N a
def Mh (N:Nat) (a:List ZT):Option Bool :=
 bif decide ((a.length:Int) > 10) then some false
 else Rw N a N 0
def Zbj (N:Nat) (a:List ZT) (b:List T7) (c:Int) (d:Int) (e:Int) (f:Int):Option ((List ZT) × Int × Int) :=
 bif f != 0 then some (([]:List ZT),e,f)
 else (Mh N a).bind fun g =>
 bif !g then some (([]:List ZT),0,6)
 else some (a,0,0)
def Zbk (N:Nat) (a:List T7 × Int × Int):Nat->(List ZT)->(List T7)->Int->Int->Int->Int->Option ((List ZT) × Int × Int)
 | 0,_,_,_,_,_,_=>none
 | b+1,c,d,e,f,g,h =>
 bif decide (e < (a.1.length:Int)) then bif h==0 then (z31 N (⟨d,e,f,g,h⟩:Z9)).bind fun i =>
 (YJ c ([i.1]:List ZT)).bind fun j =>
 (Zbk N a b) j i.2.l' i.2.n' i.2.end' i.2.at' i.2.err'
 else Zbj N c d e f g h
 else Zbj N c d e f g h
def z11 (N:Nat) (a:ByteArray):Option ((List ZT) × Int × Int) :=
 (z30 N a).bind fun b =>
 bif b.2.2 != 0 then some (([]:List ZT),b.2.1,b.2.2)
 else Zbk N b N ([]:List ZT) b.1 0 (a.size:Int) 0 0
def Zc9 (N:Nat) (a:ZT) (b:ZT):Option Bool :=
 some (a.Zt.toList==b.Zt.toList)
def Za1:Option Int :=
 some (-1)
def Pf (N:Nat) (a:List ZT) (b:ZT):Nat->Int->Option Int
 | 0,_=>none
 | c+1,d =>
 bif decide (d < (a.length:Int)) then (ZW a d).bind fun e =>
 (Zc9 N e b).bind fun f =>
 bif f then some d
 else (Pf N a b c) (ZN (d+1))
 else Za1
def GQ (N:Nat) (a:List ZT) (b:ZT):Option Int :=
 Pf N a b N 0
def Ht (N:Nat) (a:List ZT) (b:ZT):Option Bool :=
 (GQ N a b).bind fun c =>
 some (decide (c>=0))
def z46 (N:Nat) (a:List ByteArray) (b:Int):Option Bool :=
 (lsl a none (some b)).bind fun c =>
 (ZW a b).bind fun d =>
 (Vu N c d).bind fun e =>
 some e
def Za5 (N:Nat) (a:Z2) (b:Z2):Option Bool :=
 some (a.Zt.toList==b.Zt.toList)
def Zb1:Option Int :=
 some (-1)
def PL (N:Nat) (a:List Z2) (b:Z2):Nat->Int->Option Int
 | 0,_=>none
 | c+1,d =>
 bif decide (d < (a.length:Int)) then (ZW a d).bind fun e =>
 (Za5 N e b).bind fun f =>
 bif f then some d
 else (PL N a b c) (ZN (d+1))
 else Zb1
def Dx (N:Nat) (a:List Z2) (b:Z2):Option Int :=
 PL N a b N 0
def GV (N:Nat) (a:List Z2) (b:Z2):Option Bool :=
 (Dx N a b).bind fun c =>
 some (decide (c>=0))
def Za6 (N:Nat) (a:T2) (b:T2):Option Bool :=
 some (a.Zt.toList==b.Zt.toList)
def Zcx:Option Int :=
 some (-1)
def P2 (N:Nat) (a:List T2) (b:T2):Nat->Int->Option Int
 | 0,_=>none
 | c+1,d =>
 bif decide (d < (a.length:Int)) then (ZW a d).bind fun e =>
 (Za6 N e b).bind fun f =>
 bif f then some d
 else (P2 N a b c) (ZN (d+1))
 else Zcx
def DN (N:Nat) (a:List T2) (b:T2):Option Int :=
 P2 N a b N 0
def Bt (N:Nat) (a:List T2) (b:T2):Option Bool :=
 (DN N a b).bind fun c =>
 some (decide (c>=0))
def Zb4 (N:Nat) (a:Z2) (b:Yq):Option Bool :=
 some (a.Zt.toList==b.Zv.toList)
def Zb2:Option Int :=
 some (-1)
def PM (N:Nat) (a:List Z2) (b:Yq):Nat->Int->Option Int
 | 0,_=>none
 | c+1,d =>
 bif decide (d < (a.length:Int)) then (ZW a d).bind fun e =>
 (Zb4 N e b).bind fun f =>
 bif f then some d
 else (PM N a b c) (ZN (d+1))
 else Zb2
def Dy (N:Nat) (a:List Z2) (b:Yq):Option Int :=
 PM N a b N 0
def Zb5 (N:Nat) (a:T2) (b:Yq):Option Bool :=
 some (a.Zt.toList==b.Field.toList)
def Zcy:Option Int :=
 some (-1)
def P3 (N:Nat) (a:List T2) (b:Yq):Nat->Int->Option Int
 | 0,_=>none
 | c+1,d =>
 bif decide (d < (a.length:Int)) then (ZW a d).bind fun e =>
 (Zb5 N e b).bind fun f =>
 bif f then some d
 else (P3 N a b c) (ZN (d+1))
 else Zcy
def DO (N:Nat) (a:List T2) (b:Yq):Option Int :=
 P3 N a b N 0
def LC (N:Nat) (a:Yq) (b:ByteArray) (c:List T2) (d:List Y5):Option Int :=
 (DO N c a).bind fun e =>
 bif decide (e < 0) then some 0
 else (ZW c e).bind fun f =>
 some f.Zu.Zq
def GX (N:Nat) (a:ZX) (b:Z2) (c:Yq):Option Int :=
 bif !(c.Zv.toList==(str []).toList) then (Dy N a.p'.ZE c).bind fun d =>
 bif decide (d < 0) then some 0
 else (ZW a.p'.ZE d).bind fun e =>
 LC N c e.Zt e.Zy e.Zz
 else LC N c b.Zt b.Zy b.Zz
def Za7 (N:Nat) (a:List Yv):Option (List Yv) :=
 (YJ ([]:List Yv) a).bind fun b =>
 some b
def Zb6 (N:Nat) (a:Z2) (b:ZS):Option Bool :=
 some (a.Zt.toList==b.Zt.toList)
def Zb3:Option Int :=
 some (-1)
def PN (N:Nat) (a:List Z2) (b:ZS):Nat->Int->Option Int
 | 0,_=>none
 | c+1,d =>
 bif decide (d < (a.length:Int)) then (ZW a d).bind fun e =>
 (Zb6 N e b).bind fun f =>
 bif f then some d
 else (PN N a b c) (ZN (d+1))
 else Zb3
def Dz (N:Nat) (a:List Z2) (b:ZS):Option Int :=
 PN N a b N 0
def GW (N:Nat) (a:List Z2) (b:ZS):Option Bool :=
 (Dz N a b).bind fun c =>
 some (decide (c>=0))
def Za8 (N:Nat) (a:Yv) (b:ZS):Option Bool :=
 some (a.name'.toList==b.Zt.toList)
def Za9:Option Int :=
 some (-1)
def Pl (N:Nat) (a:List Yv) (b:ZS):Nat->Int->Option Int
 | 0,_=>none
 | c+1,d =>
 bif decide (d < (a.length:Int)) then (ZW a d).bind fun e =>
 (Za8 N e b).bind fun f =>
 bif f then some d
 else (Pl N a b c) (ZN (d+1))
 else Za9
def G2 (N:Nat) (a:List Yv) (b:ZS):Option Int :=
 Pl N a b N 0
def GZ (N:Nat) (a:List Yv) (b:ZS):Option Bool :=
 (G2 N a b).bind fun c =>
 some (decide (c>=0))
def Zbb (N:Nat) (a:Yv) (b:ZS):Option Bool :=
 bif a.name'.toList==b.Zt.toList then some (!a.hidden')
 else some false
def Zba:Option Int :=
 some (-1)
def Pm (N:Nat) (a:List Yv) (b:ZS):Nat->Int->Option Int
 | 0,_=>none
 | c+1,d =>
 bif decide (d < (a.length:Int)) then (ZW a d).bind fun e =>
 (Zbb N e b).bind fun f =>
 bif f then some d
 else (Pm N a b c) (ZN (d+1))
 else Zba
def G3 (N:Nat) (a:List Yv) (b:ZS):Option Int :=
 Pm N a b N 0
def Zb7 (N:Nat) (a:ZT) (b:ZS):Option Bool :=
 some (a.Zt.toList==b.Zt.toList)
def Za2:Option Int :=
 some (-1)
def Pg (N:Nat) (a:List ZT) (b:ZS):Nat->Int->Option Int
 | 0,_=>none
 | c+1,d =>
 bif decide (d < (a.length:Int)) then (ZW a d).bind fun e =>
 (Zb7 N e b).bind fun f =>
 bif f then some d
 else (Pg N a b c) (ZN (d+1))
 else Za2
def GR (N:Nat) (a:List ZT) (b:ZS):Option Int :=
 Pg N a b N 0
def Xo (N:Nat) (a:ZX) (b:ByteArray) (c:Int):Option ZX :=
 bif a.out'.ZM==0 then some (⟨a.all',a.p',a.calls',(⟨a.p'.Zt,b,c⟩:T9)⟩:ZX)
 else some a
def z109 (N:Nat) (a:ZX) (b:List ByteArray) (c:Int):Option ZX :=
 (ZW b c).bind fun d =>
 (Vu N a.p'.ZD d).bind fun e =>
 bif !e then (ZW b c).bind fun f =>
 (Xo N a f 12).bind fun g =>
 some g
 else (z46 N b c).bind fun h =>
 bif h then (ZW b c).bind fun i =>
 (Xo N a i 12).bind fun j =>
 some j
 else some a
def Pn (N:Nat) (a:ZS) (b:List ZT) (c:ByteArray) (d:List ByteArray) (e:List Z2) (f:List ZS) (g:List ByteArray) (h:ByteArray) (i:ByteArray) (j:Int):Option ZX :=
 (Vu N g a.As).bind fun k =>
 bif k then (Xo N (⟨b,(⟨c,d,e,f⟩:ZT),g,(⟨h,i,j⟩:T9)⟩:ZX) a.As 9).bind fun l =>
 (YJ l.calls' ([a.As]:List ByteArray)).bind fun m =>
 some (⟨l.all',l.p',m,l.out'⟩:ZX)
 else (YJ g ([a.As]:List ByteArray)).bind fun o =>
 some (⟨b,(⟨c,d,e,f⟩:ZT),o,(⟨h,i,j⟩:T9)⟩:ZX)
def Po (N:Nat) (a:ZS):Nat->(List ZT)->ByteArray->(List ByteArray)->(List Z2)->(List ZS)->(List ByteArray)->ByteArray->ByteArray->Int->Int->Option ZX
 | 0,_,_,_,_,_,_,_,_,_,_=>none
 | b+1,c,d,e,f,g,h,i,j,k,l =>
 bif decide (l < (a.To.length:Int)) then (z109 N (⟨c,(⟨d,e,f,g⟩:ZT),h,(⟨i,j,k⟩:T9)⟩:ZX) a.To l).bind fun m =>
 (Po N a b) m.all' m.p'.Zt m.p'.ZD m.p'.ZE m.p'.ZF m.calls' m.out'.ZL m.out'.Zt m.out'.ZM (ZN (l+1))
 else Pn N a c d e f g h i j k
def LF (N:Nat) (a:ZS) (b:List ZT) (c:ByteArray) (d:List ByteArray) (e:List Z2) (f:List ZS) (g:List ByteArray) (h:ByteArray) (i:ByteArray) (j:Int):Option ZX :=
 Po N a N b c d e f g h i j 0
def G4 (N:Nat) (a:ZX) (b:ZS):Option ZX :=
 (GR N a.all' b).bind fun c =>
 bif decide (c < 0) then (Xo N a b.Zt 10).bind fun d =>
 some d
 else (ZW a.all' c).bind fun e =>
 bif (e.ZD.length:Int) != (b.To.length:Int) then (Xo N a b.Zt 1).bind fun f =>
 LF N b f.all' f.p'.Zt f.p'.ZD f.p'.ZE f.p'.ZF f.calls' f.out'.ZL f.out'.Zt f.out'.ZM
 else LF N b a.all' a.p'.Zt a.p'.ZD a.p'.ZE a.p'.ZF a.calls' a.out'.ZL a.out'.Zt a.out'.ZM
def LD (N:Nat) (a:ZS) (b:List ZT) (c:ByteArray) (d:List ByteArray) (e:List Z2) (f:List ZS) (g:List ByteArray) (h:ByteArray) (i:ByteArray) (j:Int):Option ZX :=
 (GW N e a).bind fun k =>
 bif !k then (Xo N (⟨b,(⟨c,d,e,f⟩:ZT),g,(⟨h,i,j⟩:T9)⟩:ZX) a.Zt 10).bind fun l =>
 some l
 else some (⟨b,(⟨c,d,e,f⟩:ZT),g,(⟨h,i,j⟩:T9)⟩:ZX)
def Pj (N:Nat) (a:ZS) (b:List ByteArray):Nat->(List ZT)->ByteArray->(List ByteArray)->(List Z2)->(List ZS)->(List ByteArray)->ByteArray->ByteArray->Int->Int->Option ZX
 | 0,_,_,_,_,_,_,_,_,_,_=>none
 | c+1,d,e,f,g,h,i,j,k,l,m =>
 bif decide (m < (b.length:Int)) then (z109 N (⟨d,(⟨e,f,g,h⟩:ZT),i,(⟨j,k,l⟩:T9)⟩:ZX) b m).bind fun o =>
 (Pj N a b c) o.all' o.p'.Zt o.p'.ZD o.p'.ZE o.p'.ZF o.calls' o.out'.ZL o.out'.Zt o.out'.ZM (ZN (m+1))
 else LD N a d e f g h i j k l
def GY (N:Nat) (a:ZX) (b:ZS):Option ZX :=
 (YJ ([b.ZA]:List ByteArray) b.To).bind fun c =>
 Pj N b c N a.all' a.p'.Zt a.p'.ZD a.p'.ZE a.p'.ZF a.calls' a.out'.ZL a.out'.Zt a.out'.ZM 0
def Be (a:List ZT) (b:ByteArray) (c:List ByteArray) (d:List Z2) (e:List ZS) (f:List ByteArray) (g:ByteArray) (h:ByteArray) (i:Int):Option ZX :=
 some (⟨a,(⟨b,c,d,e⟩:ZT),f,(⟨g,h,i⟩:T9)⟩:ZX)
def Bf (a:Int) (b:List ZT->ByteArray->(List ByteArray)->(List Z2)->(List ZS)->(List ByteArray)->ByteArray->ByteArray->Int->Int->Option ZX) (c:List ZT) (d:ByteArray) (e:List ByteArray) (f:List Z2) (g:List ZS) (h:List ByteArray) (i:ByteArray) (j:ByteArray) (k:Int):Option ZX :=
 b c d e f g h i j k (ZN (a+1))
def Ml (rc:ZX->(List ZS)->(List Yv)->Option ZX) (a:Int) (b:List ZT->ByteArray->(List ByteArray)->(List Z2)->(List ZS)->(List ByteArray)->ByteArray->ByteArray->Int->Int->Option ZX) (c:ZS) (d:List Yv):Nat->(List ZT)->ByteArray->(List ByteArray)->(List Z2)->(List ZS)->(List ByteArray)->ByteArray->ByteArray->Int->Int->Option ZX
 | 0,_,_,_,_,_,_,_,_,_,_=>none
 | e+1,f,g,h,i,j,k,l,m,o,p =>
 bif decide (p < (c.ZC.length:Int)) then (ZW c.ZC p).bind fun q =>
 (rc (⟨f,(⟨g,h,i,j⟩:ZT),k,(⟨l,m,o⟩:T9)⟩:ZX) q d).bind fun r =>
 (Ml rc a b c d e) r.all' r.p'.Zt r.p'.ZD r.p'.ZE r.p'.ZF r.calls' r.out'.ZL r.out'.Zt r.out'.ZM (ZN (p+1))
 else Bf a b f g h i j k l m o
def Bg (N:Nat) (rc:ZX->(List ZS)->(List Yv)->Option ZX) (a:Int) (b:List ZT->ByteArray->(List ByteArray)->(List Z2)->(List ZS)->(List ByteArray)->ByteArray->ByteArray->Int->Int->Option ZX) (c:ZS) (d:List ZT) (e:ByteArray) (f:List ByteArray) (g:List Z2) (h:List ZS) (i:List ByteArray) (j:ByteArray) (k:ByteArray) (l:Int) (m:List Yv):Option ZX :=
 Ml rc a b c m N d e f g h i j k l 0
def Qp (N:Nat) (rc:ZX->(List ZS)->(List Yv)->Option ZX) (a:Int) (b:List ZT->ByteArray->(List ByteArray)->(List Z2)->(List ZS)->(List ByteArray)->ByteArray->ByteArray->Int->Int->Option ZX) (c:ZS) (d:List ZT) (e:ByteArray) (f:List ByteArray) (g:List Z2) (h:List ZS) (i:List ByteArray) (j:ByteArray) (k:ByteArray) (l:Int) (m:List Yv):Nat->(List Yv)->Int->Option ZX
 | 0,_,_=>none
 | o+1,p,q =>
 bif decide (q < (m.length:Int)) then (ZW p q).bind fun r =>
 bif r.hidden' then (ZW p q).bind fun s =>
 (Qp N rc a b c d e f g h i j k l m o) (YQ p q (⟨s.name',s.tail',true⟩:Yv)) (ZN (q+1))
 else (ZW p q).bind fun t =>
 (Qp N rc a b c d e f g h i j k l m o) (YQ p q (⟨t.name',t.tail',(c.Zq==5)⟩:Yv)) (ZN (q+1))
 else Bg N rc a b c d e f g h i j k l p
def Ue (N:Nat) (rc:ZX->(List ZS)->(List Yv)->Option ZX) (a:Int) (b:List ZT->ByteArray->(List ByteArray)->(List Z2)->(List ZS)->(List ByteArray)->ByteArray->ByteArray->Int->Int->Option ZX) (c:ZS) (d:List ZT) (e:ByteArray) (f:List ByteArray) (g:List Z2) (h:List ZS) (i:List ByteArray) (j:ByteArray) (k:ByteArray) (l:Int) (m:List Yv):Option ZX :=
 Qp N rc a b c d e f g h i j k l m N m 0
def HB (N:Nat) (rc:ZX->(List ZS)->(List Yv)->Option ZX) (a:List ZT) (b:ByteArray) (c:List ByteArray) (d:List Z2) (e:List ZS) (f:List ByteArray) (g:ByteArray) (h:ByteArray) (i:Int) (j:Int) (k:List ZT->ByteArray->(List ByteArray)->(List Z2)->(List ZS)->(List ByteArray)->ByteArray->ByteArray->Int->Int->Option ZX) (l:ZS) (m:List Yv):Option ZX :=
 bif l.Zq==1 then (GY N (⟨a,(⟨b,c,d,e⟩:ZT),f,(⟨g,h,i⟩:T9)⟩:ZX) l).bind fun o =>
 Ue N rc j k l o.all' o.p'.Zt o.p'.ZD o.p'.ZE o.p'.ZF o.calls' o.out'.ZL o.out'.Zt o.out'.ZM m
 else bif l.Zq==2 then (z109 N (⟨a,(⟨b,c,d,e⟩:ZT),f,(⟨g,h,i⟩:T9)⟩:ZX) ([l.ZA]:List ByteArray) 0).bind fun p =>
 Ue N rc j k l p.all' p.p'.Zt p.p'.ZD p.p'.ZE p.p'.ZF p.calls' p.out'.ZL p.out'.Zt p.out'.ZM m
 else bif l.Zq==3 then (GZ N m l).bind fun q =>
 bif q then (Xo N (⟨a,(⟨b,c,d,e⟩:ZT),f,(⟨g,h,i⟩:T9)⟩:ZX) l.Zt 9).bind fun r =>
 (YJ m ([(⟨l.Zt,true,false⟩:Yv)]:List Yv)).bind fun s =>
 Ue N rc j k l r.all' r.p'.Zt r.p'.ZD r.p'.ZE r.p'.ZF r.calls' r.out'.ZL r.out'.Zt r.out'.ZM s
 else (YJ m ([(⟨l.Zt,true,false⟩:Yv)]:List Yv)).bind fun t =>
 Ue N rc j k l a b c d e f g h i t
 else bif l.Zq==4 then (G3 N m l).bind fun u =>
 bif decide (u < 0) then (Xo N (⟨a,(⟨b,c,d,e⟩:ZT),f,(⟨g,h,i⟩:T9)⟩:ZX) l.Zt 10).bind fun v =>
 Ue N rc j k l v.all' v.p'.Zt v.p'.ZD v.p'.ZE v.p'.ZF v.calls' v.out'.ZL v.out'.Zt v.out'.ZM m
 else (ZW m u).bind fun w =>
 bif !w.tail' then (Xo N (⟨a,(⟨b,c,d,e⟩:ZT),f,(⟨g,h,i⟩:T9)⟩:ZX) l.Zt 7).bind fun x =>
 Ue N rc j k l x.all' x.p'.Zt x.p'.ZD x.p'.ZE x.p'.ZF x.calls' x.out'.ZL x.out'.Zt x.out'.ZM m
 else Ue N rc j k l a b c d e f g h i m
 else bif l.Zq==6 then (G4 N (⟨a,(⟨b,c,d,e⟩:ZT),f,(⟨g,h,i⟩:T9)⟩:ZX) l).bind fun y =>
 Ue N rc j k l y.all' y.p'.Zt y.p'.ZD y.p'.ZE y.p'.ZF y.calls' y.out'.ZL y.out'.Zt y.out'.ZM m
 else Ue N rc j k l a b c d e f g h i m
def Qq (N:Nat) (rc:ZX->(List ZS)->(List Yv)->Option ZX) (a:List ZS) (b:List ZT) (c:ByteArray) (d:List ByteArray) (e:List Z2) (f:List ZS) (g:List ByteArray) (h:ByteArray) (i:ByteArray) (j:Int) (k:Int) (l:List ZT->ByteArray->(List ByteArray)->(List Z2)->(List ZS)->(List ByteArray)->ByteArray->ByteArray->Int->Int->Option ZX) (m:ZS) (o:List Yv):Nat->(List Yv)->Int->Option ZX
 | 0,_,_=>none
 | p+1,q,r =>
 bif decide (r < (o.length:Int)) then (ZW q r).bind fun s =>
 bif s.tail' then (ZW q r).bind fun t =>
 (Qq N rc a b c d e f g h i j k l m o p) (YQ q r (⟨t.name',(k==(ZN ((a.length:Int)-1))),t.hidden'⟩:Yv)) (ZN (r+1))
 else (ZW q r).bind fun u =>
 (Qq N rc a b c d e f g h i j k l m o p) (YQ q r (⟨u.name',false,u.hidden'⟩:Yv)) (ZN (r+1))
 else HB N rc b c d e f g h i j k l m q
def Vg (N:Nat) (rc:ZX->(List ZS)->(List Yv)->Option ZX) (a:List ZS) (b:List Yv):Nat->(List ZT)->ByteArray->(List ByteArray)->(List Z2)->(List ZS)->(List ByteArray)->ByteArray->ByteArray->Int->Int->Option ZX
 | 0,_,_,_,_,_,_,_,_,_,_=>none
 | c+1,d,e,f,g,h,i,j,k,l,m =>
 bif decide (m < (a.length:Int)) then (ZW a m).bind fun o =>
 (Za7 N b).bind fun p =>
 Qq N rc a d e f g h i j k l m (Vg N rc a b c) o p N p 0
 else Be d e f g h i j k l
def Bd (N:Nat) (rc:ZX->(List ZS)->(List Yv)->Option ZX) (a:ZX) (b:List ZS) (c:List Yv):Option ZX :=
 Vg N rc b c N a.all' a.p'.Zt a.p'.ZD a.p'.ZE a.p'.ZF a.calls' a.out'.ZL a.out'.Zt a.out'.ZM 0
def Zdb:Nat->ZX->(List ZS)->(List Yv)->Option ZX
 | 0,_,_,_=>none
 | N+1,a0,a1,a2=>Bd N (Zdb N) a0 a1 a2
def Vw (N:Nat) (a:ZX) (b:List ZS) (c:List Yv):Option ZX:=Zdb N a b c
def D7 (a:List ZT) (b:ByteArray) (c:List ByteArray) (d:List Z2) (e:List ZS) (f:List ByteArray) (g:ByteArray) (h:ByteArray) (i:Int):Option ZX :=
 some (⟨a,(⟨b,c,d,e⟩:ZT),f,(⟨g,h,i⟩:T9)⟩:ZX)
def D8 (a:Int) (b:List ZT->ByteArray->(List ByteArray)->(List Z2)->(List ZS)->(List ByteArray)->ByteArray->ByteArray->Int->Int->Option ZX) (c:List ZT) (d:ByteArray) (e:List ByteArray) (f:List Z2) (g:List ZS) (h:List ByteArray) (i:ByteArray) (j:ByteArray) (k:Int):Option ZX :=
 b c d e f g h i j k (ZN (a+1))
def Hu (N:Nat) (a:Int) (b:List ZT->ByteArray->(List ByteArray)->(List Z2)->(List ZS)->(List ByteArray)->ByteArray->ByteArray->Int->Int->Option ZX) (c:T2) (d:List ZT) (e:ByteArray) (f:List ByteArray) (g:List Z2) (h:List ZS) (i:List ByteArray) (j:ByteArray) (k:ByteArray) (l:Int) (m:Int) (o:Int):Option ZX :=
 bif decide (c.Zu.Lo > c.Zu.Hi) then (Xo N (⟨d,(⟨e,f,g,h⟩:ZT),i,(⟨j,k,l⟩:T9)⟩:ZX) c.Zt 2).bind fun p =>
 b p.all' p.p'.Zt p.p'.ZD p.p'.ZE p.p'.ZF p.calls' p.out'.ZL p.out'.Zt p.out'.ZM (ZN (a+1))
 else bif decide (c.Zu.Lo < m) then (Xo N (⟨d,(⟨e,f,g,h⟩:ZT),i,(⟨j,k,l⟩:T9)⟩:ZX) c.Zt 2).bind fun q =>
 b q.all' q.p'.Zt q.p'.ZD q.p'.ZE q.p'.ZF q.calls' q.out'.ZL q.out'.Zt q.out'.ZM (ZN (a+1))
 else bif decide (c.Zu.Hi > o) then (Xo N (⟨d,(⟨e,f,g,h⟩:ZT),i,(⟨j,k,l⟩:T9)⟩:ZX) c.Zt 2).bind fun r =>
 b r.all' r.p'.Zt r.p'.ZD r.p'.ZE r.p'.ZF r.calls' r.out'.ZL r.out'.Zt r.out'.ZM (ZN (a+1))
 else b d e f g h i j k l (ZN (a+1))
def Hv (N:Nat) (a:Int) (b:List ZT->ByteArray->(List ByteArray)->(List Z2)->(List ZS)->(List ByteArray)->ByteArray->ByteArray->Int->Int->Option ZX) (c:T2) (d:List ZT) (e:ByteArray) (f:List ByteArray) (g:List Z2) (h:List ZS) (i:List ByteArray) (j:ByteArray) (k:ByteArray) (l:Int):Option ZX :=
 bif c.Zu.Zq==2 then Hu N a b c d e f g h i j k l 0 40
 else Hu N a b c d e f g h i j k l (-1000) 1000
def TG (N:Nat) (a:Int) (b:List ZT->ByteArray->(List ByteArray)->(List Z2)->(List ZS)->(List ByteArray)->ByteArray->ByteArray->Int->Int->Option ZX) (c:Z2):Nat->(List ZT)->ByteArray->(List ByteArray)->(List Z2)->(List ZS)->(List ByteArray)->ByteArray->ByteArray->Int->Int->Option ZX
 | 0,_,_,_,_,_,_,_,_,_,_=>none
 | d+1,e,f,g,h,i,j,k,l,m,o =>
 bif decide (o < (c.Zy.length:Int)) then (ZW c.Zy o).bind fun p =>
 (lsl c.Zy none (some o)).bind fun q =>
 (Bt N q p).bind fun r =>
 bif r then (Xo N (⟨e,(⟨f,g,h,i⟩:ZT),j,(⟨k,l,m⟩:T9)⟩:ZX) p.Zt 9).bind fun s =>
 Hv N o (TG N a b c d) p s.all' s.p'.Zt s.p'.ZD s.p'.ZE s.p'.ZF s.calls' s.out'.ZL s.out'.Zt s.out'.ZM
 else Hv N o (TG N a b c d) p e f g h i j k l m
 else D8 a b e f g h i j k l m
def Hw (N:Nat) (a:Int) (b:List ZT->ByteArray->(List ByteArray)->(List Z2)->(List ZS)->(List ByteArray)->ByteArray->ByteArray->Int->Int->Option ZX) (c:Z2) (d:List ZT) (e:ByteArray) (f:List ByteArray) (g:List Z2) (h:List ZS) (i:List ByteArray) (j:ByteArray) (k:ByteArray) (l:Int):Option ZX :=
 TG N a b c N d e f g h i j k l 0
def Ud (N:Nat) (a:ZX):Nat->(List ZT)->ByteArray->(List ByteArray)->(List Z2)->(List ZS)->(List ByteArray)->ByteArray->ByteArray->Int->Int->Option ZX
 | 0,_,_,_,_,_,_,_,_,_,_=>none
 | b+1,c,d,e,f,g,h,i,j,k,l =>
 bif decide (l < (a.p'.ZE.length:Int)) then (ZW a.p'.ZE l).bind fun m =>
 (lsl f none (some l)).bind fun o =>
 (GV N o m).bind fun p =>
 bif p then (Xo N (⟨c,(⟨d,e,f,g⟩:ZT),h,(⟨i,j,k⟩:T9)⟩:ZX) m.Zt 9).bind fun q =>
 Hw N l (Ud N a b) m q.all' q.p'.Zt q.p'.ZD q.p'.ZE q.p'.ZF q.calls' q.out'.ZL q.out'.Zt q.out'.ZM
 else Hw N l (Ud N a b) m c d e f g h i j k
 else D7 c d e f g h i j k
def D6 (N:Nat) (a:ZX):Option ZX :=
 Ud N a N a.all' a.p'.Zt a.p'.ZD a.p'.ZE a.p'.ZF a.calls' a.out'.ZL a.out'.Zt a.out'.ZM 0
def Ba (a:List ZT) (b:ByteArray) (c:List ByteArray) (d:List Z2) (e:List ZS) (f:List ByteArray) (g:ByteArray) (h:ByteArray) (i:Int):Option ZX :=
 some (⟨a,(⟨b,c,d,e⟩:ZT),f,(⟨g,h,i⟩:T9)⟩:ZX)
def Bb (a:Int) (b:List ZT->ByteArray->(List ByteArray)->(List Z2)->(List ZS)->(List ByteArray)->ByteArray->ByteArray->Int->Int->Option ZX) (c:List ZT) (d:ByteArray) (e:List ByteArray) (f:List Z2) (g:List ZS) (h:List ByteArray) (i:ByteArray) (j:ByteArray) (k:Int):Option ZX :=
 b c d e f g h i j k (ZN (a+1))
def Bc (N:Nat) (a:Z2) (b:Int) (c:List ZT->ByteArray->(List ByteArray)->(List Z2)->(List ZS)->(List ByteArray)->ByteArray->ByteArray->Int->Int->Option ZX) (d:Y5) (e:List ZT) (f:ByteArray) (g:List ByteArray) (h:List Z2) (i:List ZS) (j:List ByteArray) (k:ByteArray) (l:ByteArray) (m:Int) (o:Int):Option ZX :=
 bif o==1 then (Xo N (⟨e,(⟨f,g,h,i⟩:ZT),j,(⟨k,l,m⟩:T9)⟩:ZX) a.Zt 11).bind fun p =>
 c p.all' p.p'.Zt p.p'.ZD p.p'.ZE p.p'.ZF p.calls' p.out'.ZL p.out'.Zt p.out'.ZM (ZN (b+1))
 else bif o==2 then bif !(d.Op.toList==(str [61,61]).toList) then (Xo N (⟨e,(⟨f,g,h,i⟩:ZT),j,(⟨k,l,m⟩:T9)⟩:ZX) a.Zt 11).bind fun q =>
 c q.all' q.p'.Zt q.p'.ZD q.p'.ZE q.p'.ZF q.calls' q.out'.ZL q.out'.Zt q.out'.ZM (ZN (b+1))
 else bif d.Zw.N != 0 then (Xo N (⟨e,(⟨f,g,h,i⟩:ZT),j,(⟨k,l,m⟩:T9)⟩:ZX) a.Zt 11).bind fun r =>
 c r.all' r.p'.Zt r.p'.ZD r.p'.ZE r.p'.ZF r.calls' r.out'.ZL r.out'.Zt r.out'.ZM (ZN (b+1))
 else bif d.Zx.N != 0 then (Xo N (⟨e,(⟨f,g,h,i⟩:ZT),j,(⟨k,l,m⟩:T9)⟩:ZX) a.Zt 11).bind fun s =>
 c s.all' s.p'.Zt s.p'.ZD s.p'.ZE s.p'.ZF s.calls' s.out'.ZL s.out'.Zt s.out'.ZM (ZN (b+1))
 else c e f g h i j k l m (ZN (b+1))
 else c e f g h i j k l m (ZN (b+1))
def Hy (a:Int) (b:Int) (c:Int) (d:Int) (e:List ZT->ByteArray->(List ByteArray)->(List Z2)->(List ZS)->(List ByteArray)->ByteArray->ByteArray->Int->Int->Int->Option ZX) (f:Int) (g:List ZT) (h:ByteArray) (i:List ByteArray) (j:List Z2) (k:List ZS) (l:List ByteArray) (m:ByteArray) (o:ByteArray) (p:Int):Option ZX :=
 bif f==2 then bif d==0 then bif a==2 then e g h i j k l m o p (ZN (c+1)) (ZN (d+1))
 else e g h i j k l m o p c (ZN (d+1))
 else bif d==1 then bif b==2 then e g h i j k l m o p (ZN (c+1)) (ZN (d+1))
 else e g h i j k l m o p c (ZN (d+1))
 else none
 else e g h i j k l m o p c (ZN (d+1))
def Hz (N:Nat) (a:Z2) (b:Int) (c:Int) (d:List ZT) (e:ByteArray) (f:List ByteArray) (g:List Z2) (h:List ZS) (i:List ByteArray) (j:ByteArray) (k:ByteArray) (l:Int) (m:Int) (o:Int) (p:List ZT->ByteArray->(List ByteArray)->(List Z2)->(List ZS)->(List ByteArray)->ByteArray->ByteArray->Int->Int->Int->Option ZX) (q:Int) (r:Bool):Option ZX :=
 bif r then (Xo N (⟨d,(⟨e,f,g,h⟩:ZT),i,(⟨j,k,l⟩:T9)⟩:ZX) a.Zt 11).bind fun s =>
 Hy b c m o p q s.all' s.p'.Zt s.p'.ZD s.p'.ZE s.p'.ZF s.calls' s.out'.ZL s.out'.Zt s.out'.ZM
 else Hy b c m o p q d e f g h i j k l
def HA (N:Nat) (a:Z2) (b:Int) (c:Int) (d:List ZT) (e:ByteArray) (f:List ByteArray) (g:List Z2) (h:List ZS) (i:List ByteArray) (j:ByteArray) (k:ByteArray) (l:Int) (m:Int) (o:Int) (p:List ZT->ByteArray->(List ByteArray)->(List Z2)->(List ZS)->(List ByteArray)->ByteArray->ByteArray->Int->Int->Int->Option ZX) (q:Int) (r:ByteArray) (s:ByteArray) (t:Int):Option ZX :=
 bif q==3 then bif o==0 then Hz N a b c d e f g h i j k l m o p q (b != 2)
 else bif o==1 then Hz N a b c d e f g h i j k l m o p q (c != 2)
 else none
 else Hz N a b c d e f g h i j k l m o p q false
def TH (N:Nat) (a:Z2) (b:Int) (c:List ZT->ByteArray->(List ByteArray)->(List Z2)->(List ZS)->(List ByteArray)->ByteArray->ByteArray->Int->Int->Option ZX) (d:Y5) (e:Int) (f:Int):Nat->(List ZT)->ByteArray->(List ByteArray)->(List Z2)->(List ZS)->(List ByteArray)->ByteArray->ByteArray->Int->Int->Int->Option ZX
 | 0,_,_,_,_,_,_,_,_,_,_,_=>none
 | g+1,h,i,j,k,l,m,o,p,q,r,s =>
 bif decide (s < 2) then bif s==0 then HA N a e f h i j k l m o p q r s (TH N a b c d e f g) d.Zw.Zq d.Zw.Zv d.Zw.Field d.Zw.N
 else bif s==1 then HA N a e f h i j k l m o p q r s (TH N a b c d e f g) d.Zx.Zq d.Zx.Zv d.Zx.Field d.Zx.N
 else none
 else Bc N a b c d h i j k l m o p q r
def Zda (N:Nat) (a:Z2) (b:Int) (c:List ZT->ByteArray->(List ByteArray)->(List Z2)->(List ZS)->(List ByteArray)->ByteArray->ByteArray->Int->Int->Option ZX) (d:Y5) (e:List ZT) (f:ByteArray) (g:List ByteArray) (h:List Z2) (i:List ZS) (j:List ByteArray) (k:ByteArray) (l:ByteArray) (m:Int) (o:Int) (p:Int):Option ZX :=
 TH N a b c d o p N e f g h i j k l m 0 0
def Hx (N:Nat) (a:Z2) (b:List ZT) (c:ByteArray) (d:List ByteArray) (e:List Z2) (f:List ZS) (g:List ByteArray) (h:ByteArray) (i:ByteArray) (j:Int) (k:Int) (l:Int) (m:Int) (o:List ZT->ByteArray->(List ByteArray)->(List Z2)->(List ZS)->(List ByteArray)->ByteArray->ByteArray->Int->Int->Int->Int->Option ZX) (p:Int) (q:ByteArray) (r:ByteArray) (s:Int):Option ZX :=
 bif p==1 then o b c d e f g h i j k l (ZN (m+1))
 else (GX N (⟨b,(⟨c,d,e,f⟩:ZT),g,(⟨h,i,j⟩:T9)⟩:ZX) a (⟨p,q,r,s⟩:Yq)).bind fun t =>
 bif m==0 then bif m==0 then bif t==0 then (Xo N (⟨b,(⟨c,d,e,f⟩:ZT),g,(⟨h,i,j⟩:T9)⟩:ZX) a.Zt 10).bind fun u =>
 o u.all' u.p'.Zt u.p'.ZD u.p'.ZE u.p'.ZF u.calls' u.out'.ZL u.out'.Zt u.out'.ZM t l (ZN (m+1))
 else o b c d e f g h i j t l (ZN (m+1))
 else bif m==1 then bif l==0 then (Xo N (⟨b,(⟨c,d,e,f⟩:ZT),g,(⟨h,i,j⟩:T9)⟩:ZX) a.Zt 10).bind fun v =>
 o v.all' v.p'.Zt v.p'.ZD v.p'.ZE v.p'.ZF v.calls' v.out'.ZL v.out'.Zt v.out'.ZM t l (ZN (m+1))
 else o b c d e f g h i j t l (ZN (m+1))
 else none
 else bif m==1 then bif m==0 then bif k==0 then (Xo N (⟨b,(⟨c,d,e,f⟩:ZT),g,(⟨h,i,j⟩:T9)⟩:ZX) a.Zt 10).bind fun w =>
 o w.all' w.p'.Zt w.p'.ZD w.p'.ZE w.p'.ZF w.calls' w.out'.ZL w.out'.Zt w.out'.ZM k t (ZN (m+1))
 else o b c d e f g h i j k t (ZN (m+1))
 else bif m==1 then bif t==0 then (Xo N (⟨b,(⟨c,d,e,f⟩:ZT),g,(⟨h,i,j⟩:T9)⟩:ZX) a.Zt 10).bind fun x =>
 o x.all' x.p'.Zt x.p'.ZD x.p'.ZE x.p'.ZF x.calls' x.out'.ZL x.out'.Zt x.out'.ZM k t (ZN (m+1))
 else o b c d e f g h i j k t (ZN (m+1))
 else none
 else none
def Sx (N:Nat) (a:Z2) (b:Int) (c:List ZT->ByteArray->(List ByteArray)->(List Z2)->(List ZS)->(List ByteArray)->ByteArray->ByteArray->Int->Int->Option ZX) (d:Y5):Nat->(List ZT)->ByteArray->(List ByteArray)->(List Z2)->(List ZS)->(List ByteArray)->ByteArray->ByteArray->Int->Int->Int->Int->Option ZX
 | 0,_,_,_,_,_,_,_,_,_,_,_,_=>none
 | e+1,f,g,h,i,j,k,l,m,o,p,q,r =>
 bif decide (r < 2) then bif r==0 then Hx N a f g h i j k l m o p q r (Sx N a b c d e) d.Zw.Zq d.Zw.Zv d.Zw.Field d.Zw.N
 else bif r==1 then Hx N a f g h i j k l m o p q r (Sx N a b c d e) d.Zx.Zq d.Zx.Zv d.Zx.Field d.Zx.N
 else none
 else Zda N a b c d f g h i j k l m o p q
def VT (N:Nat) (a:Int) (b:List ZT->ByteArray->(List ByteArray)->(List Z2)->(List ZS)->(List ByteArray)->ByteArray->ByteArray->Int->Int->Option ZX) (c:Z2):Nat->(List ZT)->ByteArray->(List ByteArray)->(List Z2)->(List ZS)->(List ByteArray)->ByteArray->ByteArray->Int->Int->Option ZX
 | 0,_,_,_,_,_,_,_,_,_,_=>none
 | d+1,e,f,g,h,i,j,k,l,m,o =>
 bif decide (o < (c.Zz.length:Int)) then (ZW c.Zz o).bind fun p =>
 Sx N c o (VT N a b c d) p N e f g h i j k l m 0 0 0
 else Bb a b e f g h i j k l m
def WY (N:Nat) (a:ZX):Nat->(List ZT)->ByteArray->(List ByteArray)->(List Z2)->(List ZS)->(List ByteArray)->ByteArray->ByteArray->Int->Int->Option ZX
 | 0,_,_,_,_,_,_,_,_,_,_=>none
 | b+1,c,d,e,f,g,h,i,j,k,l =>
 bif decide (l < (a.p'.ZE.length:Int)) then (ZW a.p'.ZE l).bind fun m =>
 VT N l (WY N a b) m N c d e f g h i j k 0
 else Ba c d e f g h i j k
def D9 (N:Nat) (a:ZX):Option ZX :=
 WY N a N a.all' a.p'.Zt a.p'.ZD a.p'.ZE a.p'.ZF a.calls' a.out'.ZL a.out'.Zt a.out'.ZM 0
def Zbc (N:Nat) (a:ZT) (b:ZT):Option Bool :=
 some (a.Zt.toList==b.Zt.toList)
def Za3:Option Int :=
 some (-1)
def Ph (N:Nat) (a:List ZT) (b:ZT):Nat->Int->Option Int
 | 0,_=>none
 | c+1,d =>
 bif decide (d < (a.length:Int)) then (ZW a d).bind fun e =>
 (Zbc N e b).bind fun f =>
 bif f then some d
 else (Ph N a b c) (ZN (d+1))
 else Za3
def GS (N:Nat) (a:List ZT) (b:ZT):Option Int :=
 Ph N a b N 0
def Zbd (a:List ByteArray):Option (List ByteArray) :=
 some a
def Zbe (a:Int) (b:List ByteArray->Int->Option (List ByteArray)) (c:List ByteArray):Option (List ByteArray) :=
 b c (ZN (a+1))
def Pq (rc:List ZS->Option (List ByteArray)) (a:Int) (b:List ByteArray->Int->Option (List ByteArray)) (c:ZS):Nat->(List ByteArray)->Int->Option (List ByteArray)
 | 0,_,_=>none
 | d+1,e,f =>
 bif decide (f < (c.ZC.length:Int)) then (ZW c.ZC f).bind fun g =>
 (rc g).bind fun h =>
 (YJ e h).bind fun i =>
 (Pq rc a b c d) i (ZN (f+1))
 else Zbe a b e
def LG (N:Nat) (rc:List ZS->Option (List ByteArray)) (a:Int) (b:List ByteArray->Int->Option (List ByteArray)) (c:ZS) (d:List ByteArray):Option (List ByteArray) :=
 Pq rc a b c N d 0
def Tz (N:Nat) (rc:List ZS->Option (List ByteArray)) (a:List ZS):Nat->(List ByteArray)->Int->Option (List ByteArray)
 | 0,_,_=>none
 | b+1,c,d =>
 bif decide (d < (a.length:Int)) then (ZW a d).bind fun e =>
 bif e.Zq==6 then (YJ c ([e.Zt]:List ByteArray)).bind fun f =>
 LG N rc d (Tz N rc a b) e f
 else LG N rc d (Tz N rc a b) e c
 else Zbd c
def G5 (N:Nat) (rc:List ZS->Option (List ByteArray)) (a:List ZS):Option (List ByteArray) :=
 Tz N rc a N ([]:List ByteArray) 0
def Zbf:Nat->(List ZS)->Option (List ByteArray)
 | 0,_=>none
 | N+1,a0=>G5 N (Zbf N) a0
def Pp (N:Nat) (a:List ZS):Option (List ByteArray):=Zbf N a
def Zbg (N:Nat) (a:List ByteArray):Option (List ByteArray):=bif decide ((a.length:Int)<=4611686018427387903) then some (Sj a) else none
def Zbh (N:Nat) (a:List ByteArray):Option (List ByteArray):=bif decide ((a.length:Int)<=4611686018427387903) then some (Tj a) else none
def Zbl (N:Nat) (a:ZT) (b:ByteArray):Option Bool :=
 some (a.Zt.toList==b.toList)
def Za4:Option Int :=
 some (-1)
def Pi (N:Nat) (a:List ZT) (b:ByteArray):Nat->Int->Option Int
 | 0,_=>none
 | c+1,d =>
 bif decide (d < (a.length:Int)) then (ZW a d).bind fun e =>
 (Zbl N e b).bind fun f =>
 bif f then some d
 else (Pi N a b c) (ZN (d+1))
 else Za4
def GU (N:Nat) (a:List ZT) (b:ByteArray):Option Int :=
 Pi N a b N 0
def D5 (N:Nat) (a:List ZT) (b:ByteArray):Option Bool :=
 (GU N a b).bind fun c =>
 some (decide (c>=0))
def Pr (N:Nat) (a:ByteArray) (b:ZX):Option Bool :=
 (D5 N b.all' a).bind fun c =>
 some (!c)
def Zcb:Option Int :=
 some (-1)
def PP (N:Nat) (a:List ByteArray) (b:ZX):Nat->Int->Option Int
 | 0,_=>none
 | c+1,d =>
 bif decide (d < (a.length:Int)) then (ZW a d).bind fun e =>
 (Pr N e b).bind fun f =>
 bif f then some d
 else (PP N a b c) (ZN (d+1))
 else Zcb
def DA (N:Nat) (a:List ByteArray) (b:ZX):Option Int :=
 PP N a b N 0
def Zbi (a:List ByteArray) (b:Int):Option (List ByteArray) :=
 (lsl a (some b) none).bind fun c =>
 (MQ (str []) a (some b) none).bind fun d =>
 (lsl d none (some b)).bind fun e =>
 some e
def R6 (N:Nat) (a:ZX):Nat->(List ByteArray)->Int->Int->Option (List ByteArray)
 | 0,_,_,_=>none
 | b+1,c,d,e =>
 bif decide (e < (c.length:Int)) then (ZW c e).bind fun f =>
 (Pr N f a).bind fun g =>
 bif !g then (ZW c d).bind fun h =>
 (R6 N a b) (YQ c d f) (ZN (d+1)) (ZN (e+1))
 else (R6 N a b) c d (ZN (e+1))
 else Zbi c d
def G6 (N:Nat) (a:List ByteArray) (b:ZX):Option (List ByteArray) :=
 (DA N a b).bind fun c =>
 bif c==(-1) then some a
 else R6 N b N a c (ZN (c+1))
def Zdc (N:Nat) (a:ZX) (b:List ByteArray):Option ZX :=
 bif decide ((b.length:Int) > 0) then (Xo N a a.p'.Zt 6).bind fun c =>
 some c
 else some a
def HC (N:Nat) (a:ZX) (b:Int) (c:List ByteArray->Int->Option ZX) (d:List ByteArray):Option ZX :=
 (Zbg N d).bind fun e =>
 (Zbh N e).bind fun f =>
 (G6 N f a).bind fun g =>
 c g (ZN (b+1))
def TI (N:Nat) (a:ZX) (b:List ByteArray) (c:Int) (d:List ByteArray->Int->Option ZX):Nat->(List ByteArray)->Int->Option ZX
 | 0,_,_=>none
 | e+1,f,g =>
 bif decide (g < (a.all'.length:Int)) then (ZW a.all' g).bind fun h =>
 (GS N a.all' h).bind fun i =>
 bif i==g then (Vu N b h.Zt).bind fun j =>
 bif j then (Pp N h.ZF).bind fun k =>
 (YJ f k).bind fun l =>
 (TI N a b c d e) l (ZN (g+1))
 else (TI N a b c d e) f (ZN (g+1))
 else (TI N a b c d e) f (ZN (g+1))
 else HC N a c d f
def Sy (N:Nat) (a:ZX):Nat->(List ByteArray)->Int->Option ZX
 | 0,_,_=>none
 | b+1,c,d =>
 bif decide (d < 5) then TI N a c d (Sy N a b) N ([]:List ByteArray) 0
 else Zdc N a c
def Bh (N:Nat) (a:ZX):Option ZX :=
 Sy N a N ([a.p'.Zt]:List ByteArray) 0
def Zgj:Option T9 :=
 some (⟨(str []),(str []),0⟩:T9)
def LV (N:Nat) (a:Int) (b:Int->Option T9) (c:ZT) (d:List ZT) (e:ByteArray) (f:List ByteArray) (g:List Z2) (h:List ZS) (i:List ByteArray) (j:ByteArray) (k:ByteArray) (l:Int):Option T9 :=
 (D6 N (⟨d,(⟨e,f,g,h⟩:ZT),i,(⟨j,k,l⟩:T9)⟩:ZX)).bind fun m =>
 (D9 N m).bind fun o =>
 (Vw N o c.ZF ([]:List Yv)).bind fun p =>
 (Bh N p).bind fun q =>
 bif q.out'.ZM != 0 then some q.out'
 else b (ZN (a+1))
def Qe (N:Nat) (a:Int) (b:Int->Option T9) (c:ZT):Nat->(List ZT)->ByteArray->(List ByteArray)->(List Z2)->(List ZS)->(List ByteArray)->ByteArray->ByteArray->Int->Int->Option T9
 | 0,_,_,_,_,_,_,_,_,_,_=>none
 | d+1,e,f,g,h,i,j,k,l,m,o =>
 bif decide (o < (c.ZD.length:Int)) then (z46 N c.ZD o).bind fun p =>
 bif p then (ZW c.ZD o).bind fun q =>
 (Xo N (⟨e,(⟨f,g,h,i⟩:ZT),j,(⟨k,l,m⟩:T9)⟩:ZX) q 9).bind fun r =>
 (Qe N a b c d) r.all' r.p'.Zt r.p'.ZD r.p'.ZE r.p'.ZF r.calls' r.out'.ZL r.out'.Zt r.out'.ZM (ZN (o+1))
 else (Qe N a b c d) e f g h i j k l m (ZN (o+1))
 else LV N a b c e f g h i j k l m
def Qd (N:Nat) (a:Int) (b:Int->Option T9) (c:ZT) (d:List ZT) (e:ByteArray) (f:List ByteArray) (g:List Z2) (h:List ZS) (i:List ByteArray) (j:ByteArray) (k:ByteArray) (l:Int):Option T9 :=
 Qe N a b c N d e f g h i j k l 0
def Ua (N:Nat) (a:List ZT):Nat->Int->Option T9
 | 0,_=>none
 | b+1,c =>
 bif decide (c < (a.length:Int)) then (ZW a c).bind fun d =>
 (lsl a none (some c)).bind fun e =>
 (Ht N e d).bind fun f =>
 bif f then (Xo N (⟨a,d,([]:List ByteArray),(⟨(str []),(str []),0⟩:T9)⟩:ZX) d.Zt 9).bind fun g =>
 Qd N c (Ua N a b) d g.all' g.p'.Zt g.p'.ZD g.p'.ZE g.p'.ZF g.calls' g.out'.ZL g.out'.Zt g.out'.ZM
 else Qd N c (Ua N a b) d a d.Zt d.ZD d.ZE d.ZF ([]:List ByteArray) (str []) (str []) 0
 else Zgj
def PG (N:Nat) (a:List ZT):Option T9 :=
 (Mh N a).bind fun b =>
 bif !b then some (⟨(str []),(str []),1⟩:T9)
 else Ua N a N 0
def Dv (N:Nat) (a:List T2):Option (List T2) :=
 (YJ ([]:List T2) a).bind fun b =>
 some b
def Zcu (N:Nat) (a:T0) (b:Yq):Option Bool :=
 some (a.Zt.toList==b.Zv.toList)
def Zcm:Option Int :=
 some (-1)
def PW (N:Nat) (a:List T0) (b:Yq):Nat->Int->Option Int
 | 0,_=>none
 | c+1,d =>
 bif decide (d < (a.length:Int)) then (ZW a d).bind fun e =>
 (Zcu N e b).bind fun f =>
 bif f then some d
 else (PW N a b c) (ZN (d+1))
 else Zcm
def DK (N:Nat) (a:List T0) (b:Yq):Option Int :=
 PW N a b N 0
def ZcD (N:Nat) (a:T2) (b:Yq):Option Bool :=
 some (a.Zt.toList==b.Field.toList)
def Zcz:Option Int :=
 some (-1)
def P4 (N:Nat) (a:List T2) (b:Yq):Nat->Int->Option Int
 | 0,_=>none
 | c+1,d =>
 bif decide (d < (a.length:Int)) then (ZW a d).bind fun e =>
 (ZcD N e b).bind fun f =>
 bif f then some d
 else (P4 N a b c) (ZN (d+1))
 else Zcz
def DP (N:Nat) (a:List T2) (b:Yq):Option Int :=
 P4 N a b N 0
def LX (N:Nat) (a:Yq) (b:ByteArray) (c:List T2) (d:Int) (e:List T1) (f:(List (Int × Int))):Option (T6 × Bool) :=
 (DP N c a).bind fun g =>
 bif a.Zq==2 then (ZW c g).bind fun h =>
 some ((⟨(ZN (d+g)),a.N⟩:T6),(h.Zu.Zq==2))
 else some ((⟨(ZN (d+g)),a.N⟩:T6),false)
def Ss (N:Nat) (a:Yq) (b:List T0) (c:Int):Option (T6 × Bool) :=
 bif a.Zq==1 then some ((⟨(-1),a.N⟩:T6),false)
 else (ZW b c).bind fun d =>
 bif !(a.Zv.toList==(str []).toList) then (DK N b a).bind fun e =>
 (ZW b e).bind fun f =>
 LX N a f.Zt f.Zy f.ZJ f.ZK.ZH f.ZK.ZI
 else LX N a d.Zt d.Zy d.ZJ d.ZK.ZH d.ZK.ZI
def z51 (N:Nat) (a:T6) (b:T6) (c:Int):Option T1 :=
 some (⟨a.x',b.x',(ZN ((ZN (b.n'-a.n'))-c))⟩:T1)
def DT (N:Nat) (a:ByteArray) (b:T6) (c:T6):Option (List T1) :=
 bif a.toList==(str [60]).toList then (z51 N b c 1).bind fun d =>
 some ([d]:List T1)
 else bif a.toList==(str [60,61]).toList then (z51 N b c 0).bind fun e =>
 some ([e]:List T1)
 else bif a.toList==(str [62]).toList then (z51 N c b 1).bind fun f =>
 some ([f]:List T1)
 else bif a.toList==(str [62,61]).toList then (z51 N c b 0).bind fun g =>
 some ([g]:List T1)
 else (z51 N b c 0).bind fun h =>
 (z51 N c b 0).bind fun i =>
 some ([h,i]:List T1)
def Xg (d:T0):T0:=⟨d.Zt,d.Zy,d.ZJ,⟨[],[]⟩⟩
def Xv:List T0->List T3->List T0
 | d::ds,g::gs=>⟨d.Zt,d.Zy,d.ZJ,g⟩::Xv ds gs
 | _,_=>[]
def VV (N:Nat) (ds:List T0) (i:Int) (ws:List Y5):Nat->Int->List T1->List (Int × Int)->Option (List T1 × List (Int × Int))
 | 0,_,_,_=>none
 | n+1,k,D,E=>bif decide (k < (ws.length:Int)) then ((ZW ws k).bind fun a=>(Ss N a.Zw ds i).bind fun x=>(Ss N a.Zx ds i).bind fun y =>
   bif x.2 then ((YJ E [(x.1.x',y.1.x')]).bind fun E'=>VV N ds i ws n (ZN (k+1)) D E')
   else ((DT N a.Op x.1 y.1).bind fun dd=>(YJ D dd).bind fun D'=>VV N ds i ws n (ZN (k+1)) D' E))
   else some (D,E)
def UA (D:List T1):Nat->Int->Option Bool
 | 0,_=>none
 | n+1,k=>bif decide (k < (D.length:Int)) then ((ZW D k).bind fun d=>bif decide (d.C < (-20000)) then some false else bif decide (d.C > 20000) then some false else UA D n (ZN (k+1))) else some true
def U7 (N:Nat) (a:List Z2) (ds:List T0):Nat->Int->List T3->Option (List T0 × ByteArray × Int)
 | 0,_,_=>none
 | n+1,i,G=>bif decide (i < (a.length:Int)) then ((ZW a i).bind fun m=>bif decide (i=(G.length:Int)) then ((ZW ds i).bind fun _ =>
   (VV N ds i m.Zz N 0 [] []).bind fun p=>(UA p.1 N 0).bind fun ok =>
   bif ok then U7 N a ds n (ZN (i+1)) (G++[⟨p.1,p.2⟩]) else some ([],m.Zt,2)) else none)
   else bif Nat.beq G.length ds.length then some (Xv ds G,str [],0) else none
def Bx (N:Nat) (a:List Z2) (ds:List T0) (n:Int):Option (List T0 × ByteArray × Int) :=
 bif decide (n > 24) then some ([],str [],6) else U7 N a (ds.map Xg) N 0 []
def Qw (N:Nat) (a:List Z2):Nat->List T0->Int->Int->Option (List T0 × ByteArray × Int)
 | 0,_,_,_=>none
 | n+1,ds,c,i=>bif decide (i < (a.length:Int)) then ((ZW a i).bind fun m=>(Dv N m.Zy).bind fun fs=>(YJ ds [⟨m.Zt,fs,c,⟨[],[]⟩⟩]).bind fun ds' =>
   Qw N a n ds' (ZN (c+(m.Zy.length:Int))) (ZN (i+1)))
   else Bx N a ds c
def z6 (N:Nat) (a:List Z2):Option (List T0 × ByteArray × Int) :=
 (PG N [⟨(str [80]),[(str [65])],a,[]⟩]).bind fun b=>bif b.ZM != 0 then some ([],str [],1) else Qw N a N [] 0 0
def Zdk (a:List T2):Option (List T2) :=
 some a
def Mv (a:List T0):Nat->(List T2)->Int->Option (List T2)
 | 0,_,_=>none
 | b+1,c,d =>
 bif decide (d < (a.length:Int)) then (ZW a d).bind fun e =>
 (YJ c e.Zy).bind fun f =>
 (Mv a b) f (ZN (d+1))
 else Zdk c
def HG (N:Nat) (a:List T0):Option (List T2) :=
 Mv a N ([]:List T2) 0
def Zdl (N:Nat) (a:T0) (b:T0):Option Bool :=
 some (a.Zt.toList==b.Zt.toList)
def Zcn:Option Int :=
 some (-1)
def PX (N:Nat) (a:List T0) (b:T0):Nat->Int->Option Int
 | 0,_=>none
 | c+1,d =>
 bif decide (d < (a.length:Int)) then (ZW a d).bind fun e =>
 (Zdl N e b).bind fun f =>
 bif f then some d
 else (PX N a b c) (ZN (d+1))
 else Zcn
def DL (N:Nat) (a:List T0) (b:T0):Option Int :=
 PX N a b N 0
def Br (N:Nat) (a:List T0) (b:T0):Option Bool :=
 (DL N a b).bind fun c =>
 some (decide (c>=0))
def Bs (N:Nat) (a:T4):Option Bool :=
 bif a.Zq==1 then bif decide (a.Lo>=(-1000)) then bif decide (a.Lo<=a.Hi) then some (decide (a.Hi<=1000))
 else some false
 else some false
 else bif a.Zq==2 then bif decide (a.Lo>=0) then bif decide (a.Lo<=a.Hi) then some (decide (a.Hi<=40))
 else some false
 else some false
 else some false
def Zdm (N:Nat) (a:T2) (b:T2):Option Bool :=
 some (a.Zt.toList==b.Zt.toList)
def ZcA:Option Int :=
 some (-1)
def P5 (N:Nat) (a:List T2) (b:T2):Nat->Int->Option Int
 | 0,_=>none
 | c+1,d =>
 bif decide (d < (a.length:Int)) then (ZW a d).bind fun e =>
 (Zdm N e b).bind fun f =>
 bif f then some d
 else (P5 N a b c) (ZN (d+1))
 else ZcA
def DQ (N:Nat) (a:List T2) (b:T2):Option Int :=
 P5 N a b N 0
def Bu (N:Nat) (a:List T2) (b:T2):Option Bool :=
 (DQ N a b).bind fun c =>
 some (decide (c>=0))
def Zdn:Option Bool :=
 some true
def Zdo (a:Int) (b:Int->Option Bool):Option Bool :=
 b (ZN (a+1))
def Bw (a:List T2) (b:Int) (c:Int->Option Bool) (d:(Int × Int)):Nat->Int->Option Bool
 | 0,_=>none
 | e+1,f =>
 bif decide (f < 2) then (ZW ([d.1,d.2]:List Int) f).bind fun g =>
 bif decide (g < 0) then some false
 else bif decide (g>=(a.length:Int)) then some false
 else (ZW a g).bind fun h =>
 bif h.Zu.Zq != 2 then some false
 else (Bw a b c d e) (ZN (f+1))
 else Zdo b c
def RA (N:Nat) (a:T3) (b:List T2):Nat->Int->Option Bool
 | 0,_=>none
 | c+1,d =>
 bif decide (d < (a.ZI.length:Int)) then (ZW a.ZI d).bind fun e =>
 Bw b d (RA N a b c) e N 0
 else Zdn
def Zdp (N:Nat) (a:T3) (b:List T2):Option Bool :=
 RA N a b N 0
def Mw (N:Nat) (a:T3) (b:List T2):Nat->Int->Option Bool
 | 0,_=>none
 | c+1,d =>
 bif decide (d < (a.ZH.length:Int)) then (ZW a.ZH d).bind fun e =>
 bif decide ((XJ e.X e.Y) < (-1)) then some false
 else bif decide ((Wy e.X e.Y)>=(b.length:Int)) then some false
 else bif decide (e.C < (-20000)) then some false
 else bif decide (e.C > 20000) then some false
 else (Mw N a b c) (ZN (d+1))
 else Zdp N a b
def Bv (N:Nat) (a:T3) (b:List T2):Option Bool :=
 bif decide ((a.ZH.length:Int) > 20) then some false
 else bif decide ((a.ZI.length:Int) > 20) then some false
 else Mw N a b N 0
def ZcU:Option Bool :=
 some true
def ZcV (N:Nat) (a:List T2) (b:Int) (c:Int) (d:Int->Int->Option Bool) (e:T0):Option Bool :=
 (Bv N e.ZK a).bind fun f =>
 bif !f then some false
 else d (ZN (b+(e.Zy.length:Int))) (ZN (c+1))
def Md (N:Nat) (a:List T2) (b:Int) (c:Int) (d:Int->Int->Option Bool) (e:T0):Nat->Int->Option Bool
 | 0,_=>none
 | f+1,g =>
 bif decide (g < (e.Zy.length:Int)) then (ZW e.Zy g).bind fun h =>
 (Wr N h.Zt).bind fun i =>
 bif !i then some false
 else (Bs N h.Zu).bind fun j =>
 bif !j then some false
 else (lsl e.Zy none (some g)).bind fun k =>
 (Bu N k h).bind fun l =>
 bif l then some false
 else (Md N a b c d e f) (ZN (g+1))
 else ZcV N a b c d e
def Sw (N:Nat) (a:List T0) (b:List T2):Nat->Int->Int->Option Bool
 | 0,_,_=>none
 | c+1,d,e =>
 bif decide (e < (a.length:Int)) then (ZW a e).bind fun f =>
 (SB N f.Zt).bind fun g =>
 bif !g then some false
 else bif decide ((f.Zy.length:Int) > 4) then some false
 else bif f.ZJ != d then some false
 else (lsl a none (some e)).bind fun h =>
 (Br N h f).bind fun i =>
 bif i then some false
 else Md N b d e (Sw N a b c) f N 0
 else ZcU
def Hn (N:Nat) (a:List T0):Option Bool :=
 bif decide ((a.length:Int) > 40) then some false
 else (HG N a).bind fun b =>
 bif decide ((b.length:Int) > 24) then some false
 else Sw N a b N 0 0
def Mj (N:Nat) (a:T5):Option Int :=
 bif a.Zq==2 then some (a.S.size:Int)
 else some a.N
def Zgl (N:Nat) (a:Int):Option Bool :=
 bif decide (a < 32) then some true
 else some (decide (a > 126))
def ZgH (a:Nat):Option Int :=
 some (-1)
def ZcK (N:Nat) (a:ByteArray) (b:Bool):Nat->Nat->Option Int
 | 0,_=>none
 | c+1,d =>
 bif decide (d < a.size) then (Zgl N ((Utf8.decode a d).1:Int)).bind fun e =>
 bif e==b then some ((d:Nat):Int)
 else (ZcK N a b c) (d+(Utf8.decode a d).2)
 else ZgH d
def ZgG (N:Nat) (a:ByteArray) (b:Bool):Option Int :=
 ZcK N a b N (0:Nat)
def ZgA (N:Nat) (a:ByteArray):Option Int :=
 (ZgG N a true).bind fun b =>
 some b
def Zgk (N:Nat) (a:ByteArray):Option Bool :=
 (ZgA N a).bind fun b =>
 some (decide (b>=0))
def z87 (N:Nat) (a:T4) (b:T5):Option Bool :=
 bif b.Zq != a.Zq then some false
 else (Mj N b).bind fun c =>
 bif decide (c < a.Lo) then some false
 else (Mj N b).bind fun d =>
 bif decide (d > a.Hi) then some false
 else bif b.Zq==1 then some (b.S.toList==(str []).toList)
 else bif b.N==0 then (Zgk N b.S).bind fun e =>
 some (!e)
 else some false
def ZgS:Option Bool :=
 some true
def D3 (N:Nat) (a:List T5) (b:List T2):Nat->Int->Option Bool
 | 0,_=>none
 | c+1,d =>
 bif decide (d < (a.length:Int)) then (ZW a d).bind fun e =>
 bif !((e.Zq==0) && ((e.N==0) && ((e.S.toList==(str []).toList) && true))) then (ZW b d).bind fun f =>
 (z87 N f.Zu e).bind fun g =>
 bif !g then some false
 else (D3 N a b c) (ZN (d+1))
 else (D3 N a b c) (ZN (d+1))
 else ZgS
def z33 (N:Nat) (a:List T0) (b:Int) (c:List T5):Option Bool :=
 bif decide (b < 0) then some false
 else bif decide (b>=(a.length:Int)) then some false
 else (Hn N a).bind fun d =>
 bif !d then some false
 else (HG N a).bind fun e =>
 bif (e.length:Int) != (c.length:Int) then some false
 else D3 N c e N 0
def ZbW (N:Nat) (a:Int) (b:Int):Option Int :=
 bif a==b then some 0
 else bif a==0 then some 10000
 else bif b==0 then some 10000
 else some 20000
def Zht (a:Int) (b:List Int):Option YI :=
 some (⟨a,b⟩:YI)
def Zhu (a:Int) (b:List Int->Int->Option YI) (c:List Int):Option YI :=
 b c (ZN (a+1))
def ZdF (N:Nat) (a:Int) (b:Int) (c:List Int->Int->Option YI):Nat->(List Int)->Int->Option YI
 | 0,_,_=>none
 | d+1,e,f =>
 bif decide (f < (ZN (a+1))) then (ZbW N b f).bind fun g =>
 (ZW e (ZN ((ZN (b * (ZN (a+1))))+f))).bind fun h =>
 (ZdF N a b c d) (YQ e (ZN ((ZN (b * (ZN (a+1))))+f)) g) (ZN (f+1))
 else Zhu b c e
def HM (N:Nat) (a:Int):Nat->(List Int)->Int->Option YI
 | 0,_,_=>none
 | b+1,c,d =>
 bif decide (d < (ZN (a+1))) then ZdF N a d (HM N a b) N c 0
 else Zht a c
def z88 (N:Nat) (a:Int):Option YI :=
 (Sc 0 (ZN ((ZN (a+1)) * (ZN (a+1)))) (ZN ((ZN (a+1)) * (ZN (a+1))))).bind fun b =>
 HM N a N b 0
def z34 (N:Nat) (a:Int):Option (YI × Int) :=
 bif decide (a < 0) then some ((⟨0,([]:List Int)⟩:YI),2)
 else bif decide (a > 24) then some ((⟨0,([]:List Int)⟩:YI),2)
 else (z88 N a).bind fun b =>
 some (b,0)
def ZcW (a:List T1):Option (List T1) :=
 some a
def Me (a:T0):Nat->(List T1)->Int->Option (List T1)
 | 0,_,_=>none
 | b+1,c,d =>
 bif decide (d < (a.ZK.ZI.length:Int)) then (ZW a.ZK.ZI d).bind fun e =>
 (YJ c ([(⟨e.1,e.2,0⟩:T1),(⟨e.2,e.1,0⟩:T1)]:List T1)).bind fun f =>
 (Me a b) f (ZN (d+1))
 else ZcW c
def ZcX (N:Nat) (a:T0) (b:List T1):Option (List T1) :=
 (YJ b a.ZK.ZH).bind fun c =>
 Me a N c 0
def Mf (N:Nat) (a:T0):Nat->(List T1)->Int->Option (List T1)
 | 0,_,_=>none
 | b+1,c,d =>
 bif decide (d < (a.Zy.length:Int)) then (ZW a.Zy d).bind fun e =>
 (YJ c ([(⟨(ZN (a.ZJ+d)),(-1),e.Zu.Hi⟩:T1),(⟨(-1),(ZN (a.ZJ+d)),(ZN (0-e.Zu.Lo))⟩:T1)]:List T1)).bind fun f =>
 (Mf N a b) f (ZN (d+1))
 else ZcX N a c
def D2 (N:Nat) (a:T0):Option (List T1) :=
 Mf N a N ([]:List T1) 0
def Zgn (a:Int):Option Int :=
 some a
def ZbX (a:List Int):Nat->Int->Int->Option Int
 | 0,_,_=>none
 | b+1,c,d =>
 bif decide (d < (a.length:Int)) then (ZW a d).bind fun e =>
 (ZbX a b) (XJ c e) (ZN (d+1))
 else Zgn c
def Zgm (N:Nat) (a:List Int):Option Int :=
 bif decide ((a.length:Int) < 1) then Ga 0
 else (ZW a 0).bind fun b =>
 ZbX a N b 1
def Zgo (a:Int):Option Int :=
 some a
def ZbY (a:List Int):Nat->Int->Int->Option Int
 | 0,_,_=>none
 | b+1,c,d =>
 bif decide (d < (a.length:Int)) then (ZW a d).bind fun e =>
 (ZbY a b) (Wy c e) (ZN (d+1))
 else Zgo c
def z164 (N:Nat) (a:List Int):Option Int :=
 bif decide ((a.length:Int) < 1) then Ga 0
 else (ZW a 0).bind fun b =>
 ZbY a N b 1
def z89 (N:Nat) (a:YI):Option Bool :=
 bif decide (a.N>=0) then bif decide (a.N<=24) then bif (a.B.length:Int)==(ZN ((ZN (a.N+1)) * (ZN (a.N+1)))) then (Zgm N a.B).bind fun b =>
 bif decide (b>=(-20001)) then (z164 N a.B).bind fun c =>
 some (decide (c<=20000))
 else some false
 else some false
 else some false
 else some false
def z90 (N:Nat) (a:YI) (b:Int):Option Bool :=
 bif decide (b>=(-1)) then some (decide (b < a.N))
 else some false
def z91 (N:Nat) (a:List Int):Option (List Int) :=
 (YJ ([]:List Int) a).bind fun b =>
 some b
def z36 (N:Nat) (a:YI) (b:T1):Option (YI × Int) :=
 (z89 N a).bind fun c =>
 bif !c then some ((⟨0,([]:List Int)⟩:YI),1)
 else (z90 N a b.X).bind fun d =>
 bif !d then some ((⟨0,([]:List Int)⟩:YI),2)
 else (z90 N a b.Y).bind fun e =>
 bif !e then some ((⟨0,([]:List Int)⟩:YI),2)
 else (z91 N a.B).bind fun f =>
 (ZW f (ZN ((ZN ((ZN ((ZN (b.X+1)) * (ZN (a.N+1))))+b.Y))+1))).bind fun g =>
 (ZW f (ZN ((ZN ((ZN ((ZN (b.X+1)) * (ZN (a.N+1))))+b.Y))+1))).bind fun h =>
 some ((⟨a.N,(YQ f (ZN ((ZN ((ZN ((ZN (b.X+1)) * (ZN (a.N+1))))+b.Y))+1)) (XJ g (Wy b.C (-20001))))⟩:YI),0)
def Zhw (a:YI) (b:List Int):Option (YI × Bool) :=
 some ((⟨a.N,b⟩:YI),true)
def Zhy (a:Int) (b:List Int->Int->Option (YI × Bool)) (c:List Int):Option (YI × Bool) :=
 b c (ZN (a+1))
def ZdK (a:YI) (b:Int) (c:List Int->Int->Option (YI × Bool)) (d:List Int):Nat->Int->Option (YI × Bool)
 | 0,_=>none
 | e+1,f =>
 bif decide (f < (ZN (a.N+1))) then (ZW d (ZN ((ZN (f * (ZN (a.N+1))))+f))).bind fun g =>
 bif decide (g < 0) then some ((⟨0,([]:List Int)⟩:YI),false)
 else (ZdK a b c d e) (ZN (f+1))
 else Zhy b c d
def Zhz (N:Nat) (a:YI) (b:Int) (c:List Int->Int->Option (YI × Bool)) (d:List Int):Option (YI × Bool) :=
 ZdK a b c d N 0
def ZhA (a:Int) (b:List Int->Int->Option (YI × Bool)) (c:List Int):Option (YI × Bool) :=
 b c (ZN (a+1))
def ZdL (a:YI) (b:Int) (c:Int) (d:List Int->Int->Option (YI × Bool)):Nat->(List Int)->Int->Option (YI × Bool)
 | 0,_,_=>none
 | e+1,f,g =>
 bif decide (g < (ZN (a.N+1))) then (ZW f (ZN ((ZN (c * (ZN (a.N+1))))+g))).bind fun h =>
 (ZW f (ZN ((ZN (c * (ZN (a.N+1))))+b))).bind fun i =>
 (ZW f (ZN ((ZN (b * (ZN (a.N+1))))+g))).bind fun j =>
 (ZW f (ZN ((ZN (c * (ZN (a.N+1))))+g))).bind fun k =>
 (ZdL a b c d e) (YQ f (ZN ((ZN (c * (ZN (a.N+1))))+g)) (XJ h (ZN (i+j)))) (ZN (g+1))
 else ZhA c d f
def HO (N:Nat) (a:YI) (b:Int) (c:List Int->Int->Option (YI × Bool)):Nat->(List Int)->Int->Option (YI × Bool)
 | 0,_,_=>none
 | d+1,e,f =>
 bif decide (f < (ZN (a.N+1))) then ZdL a b f (HO N a b c d) N e 0
 else Zhz N a b c e
def SH (N:Nat) (a:YI):Nat->(List Int)->Int->Option (YI × Bool)
 | 0,_,_=>none
 | b+1,c,d =>
 bif decide (d < (ZN (a.N+1))) then HO N a d (SH N a b) N c 0
 else Zhw a c
def ZhB (N:Nat) (a:YI) (b:List Int):Option (YI × Bool) :=
 SH N a N b 0
def Zhx (a:Int) (b:List Int->Int->Option (YI × Bool)) (c:List Int):Option (YI × Bool) :=
 b c (ZN (a+1))
def ZdJ (N:Nat) (a:YI) (b:Int) (c:List Int->Int->Option (YI × Bool)):Nat->(List Int)->Int->Option (YI × Bool)
 | 0,_,_=>none
 | d+1,e,f =>
 bif decide (f < (ZN (a.N+1))) then (ZW e (ZN ((ZN (b * (ZN (a.N+1))))+f))).bind fun g =>
 (ZbW N b f).bind fun h =>
 (ZW e (ZN ((ZN (b * (ZN (a.N+1))))+f))).bind fun i =>
 (ZdJ N a b c d) (YQ e (ZN ((ZN (b * (ZN (a.N+1))))+f)) (XJ g h)) (ZN (f+1))
 else Zhx b c e
def HN (N:Nat) (a:YI):Nat->(List Int)->Int->Option (YI × Bool)
 | 0,_,_=>none
 | b+1,c,d =>
 bif decide (d < (ZN (a.N+1))) then ZdJ N a d (HN N a b) N c 0
 else ZhB N a c
def z92 (N:Nat) (a:YI):Option (YI × Bool) :=
 (z89 N a).bind fun b =>
 bif !b then some ((⟨0,([]:List Int)⟩:YI),false)
 else (z91 N a.B).bind fun c =>
 HN N a N c 0
def z93 (N:Nat) (a:YI) (b:Int) (c:Int):Option Int :=
 (ZW a.B (ZN ((ZN (b * (ZN (a.N+1))))+c))).bind fun d =>
 some d
def ZgV (a:List Int):Option ((List Int) × Bool) :=
 some (a,true)
def ZgW (a:List Int) (b:Int) (c:List Int->Int->Option ((List Int) × Bool)) (d:Int):Option ((List Int) × Bool) :=
 (YJ a ([d]:List Int)).bind fun e =>
 c e (ZN (b+1))
def Zc2 (N:Nat) (a:YI × Bool) (b:List Int) (c:Int) (d:List Int->Int->Option ((List Int) × Bool)):Nat->Int->Int->Option ((List Int) × Bool)
 | 0,_,_=>none
 | e+1,f,g =>
 bif decide (g < (b.length:Int)) then (ZW b g).bind fun h =>
 (z93 N a.1 (ZN (g+1)) (ZN (c+1))).bind fun i =>
 (Zc2 N a b c d e) (Wy f (ZN (h-i))) (ZN (g+1))
 else ZgW b c d f
def Ho (N:Nat) (a:YI) (b:YI × Bool):Nat->(List Int)->Int->Option ((List Int) × Bool)
 | 0,_,_=>none
 | c+1,d,e =>
 bif decide (e < a.N) then (z93 N b.1 0 (ZN (e+1))).bind fun f =>
 Zc2 N b d e (Ho N a b c) N (ZN (0-f)) 0
 else ZgV d
def z37 (N:Nat) (a:YI):Option ((List Int) × Bool) :=
 (z92 N a).bind fun b =>
 bif !b.2 then some (([]:List Int),false)
 else Ho N a b N ([]:List Int) 0
def Zf0 (N:Nat) (a:List T5):Option (List T5) :=
 (YJ ([]:List T5) a).bind fun b =>
 some b
def z39 (N:Nat) (a:T0) (b:List T5) (c:List T5):Option (List T5) :=
 (Zf0 N c).bind fun d =>
 (lsl d (some a.ZJ) none).bind fun e =>
 (QN d (some a.ZJ) none b).bind fun f =>
 some f.1
def ZgZ (a:List T5):Option (List T5) :=
 some a
def Zg0 (a:List T5->(List Bool)->Bool->Option (List T5)) (b:List T5) (c:List Bool) (d:Bool):Option (List T5) :=
 a b c d
def Zg1 (a:Int) (b:List T5->(List Bool)->Bool->Int->Option (List T5)) (c:List T5) (d:List Bool) (e:Bool):Option (List T5) :=
 b c d e (ZN (a+1))
def Zc4 (a:List T5) (b:List Bool) (c:Bool) (d:Int) (e:List T5->(List Bool)->Bool->Int->Option (List T5)) (f:Int) (g:Int):Option (List T5) :=
 (ZW b g).bind fun h =>
 bif h then (ZW b f).bind fun i =>
 bif !i then (ZW a g).bind fun j =>
 (ZW a f).bind fun k =>
 (ZW b f).bind fun l =>
 e (YQ a f (⟨k.Zq,k.N,j.S⟩:T5)) (YQ b f true) true (ZN (d+1))
 else e a b c (ZN (d+1))
 else e a b c (ZN (d+1))
def Hp (a:Int) (b:List T5->(List Bool)->Bool->Int->Option (List T5)) (c:(Int × Int)):Nat->(List T5)->(List Bool)->Bool->Int->Option (List T5)
 | 0,_,_,_,_=>none
 | d+1,e,f,g,h =>
 bif decide (h < 2) then (ZW ([c.1,c.2]:List Int) h).bind fun i =>
 bif (ZN (1-h))==0 then Zc4 e f g h (Hp a b c d) i c.1
 else bif (ZN (1-h))==1 then Zc4 e f g h (Hp a b c d) i c.2
 else none
 else Zg1 a b e f g
def Mk (N:Nat) (a:T0) (b:List T5->(List Bool)->Bool->Option (List T5)):Nat->(List T5)->(List Bool)->Bool->Int->Option (List T5)
 | 0,_,_,_,_=>none
 | c+1,d,e,f,g =>
 bif decide (g < (a.ZK.ZI.length:Int)) then (ZW a.ZK.ZI g).bind fun h =>
 Hp g (Mk N a b c) h N d e f 0
 else Zg0 b d e f
def Rx (N:Nat) (a:T0):Nat->(List T5)->(List Bool)->Bool->Option (List T5)
 | 0,_,_,_=>none
 | b+1,c,d,e =>
 bif e then Mk N a (Rx N a b) N c d false 0
 else ZgZ c
def Zg2 (N:Nat) (a:T0) (b:List T5) (c:List Bool):Option (List T5) :=
 Rx N a N b c true
def Hq (N:Nat) (a:T0) (b:List T5):Nat->(List Bool)->Int->Option (List T5)
 | 0,_,_=>none
 | c+1,d,e =>
 bif decide (e < (b.length:Int)) then bif decide (e < a.ZJ) then (ZW b e).bind fun f =>
 (ZW d e).bind fun g =>
 (Hq N a b c) (YQ d e (f.Zq != 0)) (ZN (e+1))
 else bif decide (e>=(ZN (a.ZJ+(a.Zy.length:Int)))) then (ZW b e).bind fun h =>
 (ZW d e).bind fun i =>
 (Hq N a b c) (YQ d e (h.Zq != 0)) (ZN (e+1))
 else (ZW d e).bind fun j =>
 (Hq N a b c) (YQ d e false) (ZN (e+1))
 else Zg2 N a b d
def z40 (N:Nat) (a:T0) (b:List T5):Option (List T5) :=
 (Sc false (b.length:Int) (b.length:Int)).bind fun c =>
 Hq N a b N c 0
def Zg3:Option Bool :=
 some true
def Zc6 (a:T3) (b:List T5):Nat->Int->Option Bool
 | 0,_=>none
 | c+1,d =>
 bif decide (d < (a.ZI.length:Int)) then (ZW a.ZI d).bind fun e =>
 (ZW b e.1).bind fun f =>
 bif f.Zq==0 then some false
 else (ZW b e.2).bind fun g =>
 bif g.Zq==0 then some false
 else (ZW b e.1).bind fun h =>
 (ZW b e.2).bind fun i =>
 bif !(h.S.toList==i.S.toList) then some false
 else (Zc6 a b c) (ZN (d+1))
 else Zg3
def Zg4 (N:Nat) (a:T3) (b:List T5):Option Bool :=
 Zc6 a b N 0
def Zg5 (a:Int) (b:Int->Option Bool) (c:T1) (d:Int) (e:Int):Option Bool :=
 bif decide ((ZN (d-e)) > c.C) then some false
 else b (ZN (a+1))
def Hs (N:Nat) (a:List T5) (b:Int) (c:Int->Option Bool) (d:T1):Nat->Int->Int->Int->Option Bool
 | 0,_,_,_=>none
 | e+1,f,g,h =>
 bif decide (h < 2) then (ZW ([d.X,d.Y]:List Int) h).bind fun i =>
 bif decide (i < 0) then (Hs N a b c d e) f g (ZN (h+1))
 else (ZW a i).bind fun j =>
 bif j.Zq==0 then some false
 else (ZW a i).bind fun k =>
 (Mj N k).bind fun l =>
 bif h==0 then (Hs N a b c d e) l g (ZN (h+1))
 else bif h==1 then (Hs N a b c d e) f l (ZN (h+1))
 else none
 else Zg5 b c d f g
def Hr (N:Nat) (a:T3) (b:List T5):Nat->Int->Option Bool
 | 0,_=>none
 | c+1,d =>
 bif decide (d < (a.ZH.length:Int)) then (ZW a.ZH d).bind fun e =>
 Hs N b d (Hr N a b c) e N 0 0 0
 else Zg4 N a b
def z41 (N:Nat) (a:T3) (b:List T5):Option Bool :=
 Hr N a b N 0
def Zg6:Option Bool :=
 some true
def Zc8 (N:Nat) (a:List T2) (b:List T5):Nat->Int->Option Bool
 | 0,_=>none
 | c+1,d =>
 bif decide (d < (a.length:Int)) then (ZW a d).bind fun e =>
 (ZW b d).bind fun f =>
 (z87 N e.Zu f).bind fun g =>
 bif !g then some false
 else (Zc8 N a b c) (ZN (d+1))
 else Zg6
def z42 (N:Nat) (a:List T2) (b:List T5):Option Bool :=
 bif (a.length:Int) != (b.length:Int) then some false
 else Zc8 N a b N 0
def Zf5 (N:Nat) (a:List T5) (b:T0) (c:List T5):Option ((List T5) × Bool) :=
 (z39 N b c a).bind fun d =>
 (z40 N b d).bind fun e =>
 (lsl e (some b.ZJ) (some (ZN (b.ZJ+(b.Zy.length:Int))))).bind fun f =>
 (QN c none none f).bind fun g =>
 (z41 N b.ZK e).bind fun h =>
 bif !h then some (([]:List T5),false)
 else (z42 N b.Zy g.1).bind fun i =>
 bif !i then some (([]:List T5),false)
 else some (g.1,true)
def Dg (N:Nat) (a:List T5) (b:T0) (c:List Int × Bool):Nat->(List T5)->Int->Option ((List T5) × Bool)
 | 0,_,_=>none
 | d+1,e,f =>
 bif decide (f < (b.Zy.length:Int)) then (ZW b.Zy f).bind fun g =>
 (ZW c.1 f).bind fun h =>
 (ZW e f).bind fun i =>
 bif g.Zu.Zq==2 then (ZW c.1 f).bind fun j =>
 (Qo N (str [97]) j).bind fun k =>
 (ZW (YQ e f (⟨g.Zu.Zq,h,(str [])⟩:T5)) f).bind fun l =>
 (Dg N a b c d) (YQ (YQ e f (⟨g.Zu.Zq,h,(str [])⟩:T5)) f (⟨2,0,k⟩:T5)) (ZN (f+1))
 else (Dg N a b c d) (YQ e f (⟨g.Zu.Zq,h,(str [])⟩:T5)) (ZN (f+1))
 else Zf5 N a b e
def Zf6 (N:Nat) (a:List T5) (b:T0) (c:Int) (d:List Int):Option ((List T5) × Bool) :=
 (z37 N (⟨c,d⟩:YI)).bind fun e =>
 bif !e.2 then some (([]:List T5),false)
 else (Sc (⟨0,0,(str [])⟩:T5) (b.Zy.length:Int) (b.Zy.length:Int)).bind fun f =>
 Dg N a b e N f 0
def Zf7 (N:Nat) (a:Int) (b:List Int) (c:Int) (d:Int->(List Int)->Int->Option ((List T5) × Bool)) (e:Int) (f:Int) (g:Int):Option ((List T5) × Bool) :=
 (z36 N (⟨a,b⟩:YI) (⟨f,g,e⟩:T1)).bind fun h =>
 d h.1.N h.1.B (ZN (c+1))
def Zbw (N:Nat) (a:List T5) (b:T0) (c:Int) (d:Int) (e:Int) (f:Int) (g:Int->Int->Int->Int->Option ((List T5) × Bool)) (h:Int) (i:Bool):Option ((List T5) × Bool) :=
 bif i then bif f==0 then g c (ZN (h-b.ZJ)) e (ZN (f+1))
 else bif f==1 then g c d (ZN (h-b.ZJ)) (ZN (f+1))
 else none
 else (ZW a h).bind fun j =>
 bif j.Zq==0 then some (([]:List T5),false)
 else bif f==0 then (ZW a h).bind fun k =>
 (Mj N k).bind fun l =>
 g (ZN (c-l)) d e (ZN (f+1))
 else (ZW a h).bind fun m =>
 (Mj N m).bind fun o =>
 g (ZN (c+o)) d e (ZN (f+1))
def Py (N:Nat) (a:List T5) (b:T0) (c:Int) (d:List Int) (e:Int) (f:Int->(List Int)->Int->Option ((List T5) × Bool)) (g:T1):Nat->Int->Int->Int->Int->Option ((List T5) × Bool)
 | 0,_,_,_,_=>none
 | h+1,i,j,k,l =>
 bif decide (l < 2) then (ZW ([g.X,g.Y]:List Int) l).bind fun m =>
 bif decide (m < 0) then (Py N a b c d e f g h) i j k (ZN (l+1))
 else bif decide (m>=b.ZJ) then Zbw N a b i j k l (Py N a b c d e f g h) m (decide (m < (ZN (b.ZJ+(b.Zy.length:Int)))))
 else Zbw N a b i j k l (Py N a b c d e f g h) m false
 else Zf7 N c d e f i j k
def Px (N:Nat) (a:List T5) (b:T0) (c:List T1):Nat->Int->(List Int)->Int->Option ((List T5) × Bool)
 | 0,_,_,_=>none
 | d+1,e,f,g =>
 bif decide (g < (c.length:Int)) then (ZW c g).bind fun h =>
 Py N a b e f g (Px N a b c d) h N h.C (-1) (-1) 0
 else Zf6 N a b e f
def z12 (N:Nat) (a:List T0) (b:Int) (c:List T5):Option ((List T5) × Bool) :=
 (z33 N a b c).bind fun d =>
 bif !d then some (([]:List T5),false)
 else (ZW a b).bind fun e =>
 (z34 N (e.Zy.length:Int)).bind fun f =>
 (D2 N e).bind fun g =>
 Px N c e g N f.1.N f.1.B 0
def z13 (N:Nat) (a:List T0) (b:Int) (c:List T5) (d:List T5):Option Bool :=
 (z33 N a b d).bind fun e =>
 bif !e then some false
 else (ZW a b).bind fun f =>
 (z42 N f.Zy c).bind fun g =>
 bif !g then some false
 else (ZW a b).bind fun h =>
 (z39 N h c d).bind fun i =>
 (z41 N h.ZK i).bind fun j =>
 some j
def z4 (N:Nat):Option Bool :=
 (z11 N (str [112,114,111,116,111,99,111,108,32,80,40,65,41,32,123,32,109,101,115,115,97,103,101,32,97,40,120,58,32,105,110,116,32,48,46,46,57,41,59,32,109,101,115,115,97,103,101,32,98,40,121,58,32,105,110,116,32,48,46,46,57,44,32,122,58,32,105,110,116,32,48,46,46,57,41,32,119,104,101,114,101,32,121,32,62,32,97,46,120,32,97,110,100,32,122,32,62,61,32,121,59,32,125])).bind fun a =>
 bif a.2.2 != 0 then some false
 else bif (a.1.length:Int) != 1 then some false
 else (ZW a.1 0).bind fun b =>
 (z6 N b.ZE).bind fun c =>
 (z12 N c.1 1 ([(⟨1,3,(str [])⟩:T5),(⟨0,0,(str [])⟩:T5),(⟨0,0,(str [])⟩:T5)]:List T5)).bind fun d =>
 bif c.2.2==0 then bif d.2 then bif (d.1.length:Int)==2 then (ZW d.1 0).bind fun e =>
 bif e.N==4 then (ZW d.1 1).bind fun f =>
 bif f.N==4 then (z13 N c.1 1 d.1 ([(⟨1,3,(str [])⟩:T5),(⟨0,0,(str [])⟩:T5),(⟨0,0,(str [])⟩:T5)]:List T5)).bind fun g =>
 some g
 else some false
 else some false
 else some false
 else some false
 else some false
def ZbN (a:Int):Option Int :=
 some a
def ZbO (a:Int) (b:Int->Int->Option Int) (c:Int):Option Int :=
 b c (ZN (a+1))
def Qc (rc:List ZY->Option Int) (a:List ZY) (b:Int) (c:Int->Int->Option Int):Nat->Int->Int->Option Int
 | 0,_,_=>none
 | d+1,e,f =>
 (ZW a b).bind fun g =>
 bif decide (f < (g.ZC.length:Int)) then (ZW a b).bind fun h =>
 (ZW h.ZC f).bind fun i =>
 (rc i).bind fun j =>
 (Qc rc a b c d) (ZN (e+j)) (ZN (f+1))
 else ZbO b c e
def Rm (N:Nat) (rc:List ZY->Option Int) (a:List ZY):Nat->Int->Int->Option Int
 | 0,_,_=>none
 | b+1,c,d =>
 bif decide (d < (a.length:Int)) then Qc rc a d (Rm N rc a b) N (ZN (c+1)) 0
 else ZbN c
def Do (N:Nat) (rc:List ZY->Option Int) (a:List ZY):Option Int :=
 Rm N rc a N 0 0
def ZbP:Nat->(List ZY)->Option Int
 | 0,_=>none
 | N+1,a0=>Do N (ZbP N) a0
def Qa (N:Nat) (a:List ZY):Option Int:=ZbP N a
def Zdh (a:List Z3) (b:Int) (c:Int):Option Bool :=
 bif decide ((a.length:Int)<=12) then bif decide (b<=320) then some (decide (c<=60))
 else some false
 else some false
def Zdi (a:Int) (b:Int) (c:Int) (d:Int->Int->Int->Option Bool) (e:Int) (f:Z3):Option Bool :=
 d (ZN (a+e)) (ZN (b+(f.ZE.length:Int))) (ZN (c+1))
def Mt (a:List Z3) (b:Int) (c:Int) (d:Int) (e:Int->Int->Int->Option Bool) (f:Int) (g:Z3):Nat->Int->Option Bool
 | 0,_=>none
 | h+1,i =>
 (ZW a d).bind fun j =>
 bif decide (i < (j.ZE.length:Int)) then (ZW a d).bind fun k =>
 (ZW k.ZE i).bind fun l =>
 bif decide ((l.Zy.length:Int) > 8) then some false
 else (ZW a d).bind fun m =>
 (ZW m.ZE i).bind fun o =>
 bif decide ((o.Zz.length:Int) > 10) then some false
 else (Mt a b c d e f g h) (ZN (i+1))
 else Zdi b c d e f g
def SA (N:Nat) (a:List Z3):Nat->Int->Int->Int->Option Bool
 | 0,_,_,_=>none
 | b+1,c,d,e =>
 bif decide (e < (a.length:Int)) then (ZW a e).bind fun f =>
 (Qa N f.ZF).bind fun g =>
 (ZW a e).bind fun h =>
 Mt a c d e (SA N a b) g h N 0
 else Zdh a c d
def z5 (N:Nat) (a:List Z3):Option Bool :=
 SA N a N 0 0 0
def ZcN (a:List ZS):Option (List ZS) :=
 some a
def DW (a:List ZS) (b:Int) (c:List ZS->Int->Option (List ZS)) (d:ZY) (e:(List (List ZS))):Option (List ZS) :=
 (YJ a ([(⟨d.Zq,d.ZA,d.To,d.Zt,d.As,d.ZB,e⟩:ZS)]:List ZS)).bind fun f =>
 c f (ZN (b+1))
def Qm (rc:List ZY->Option (List ZS)) (a:List ZS) (b:Int) (c:List ZS->Int->Option (List ZS)) (d:ZY):Nat->(List (List ZS))->Int->Option (List ZS)
 | 0,_,_=>none
 | e+1,f,g =>
 bif decide (g < (d.ZC.length:Int)) then (ZW d.ZC g).bind fun h =>
 (rc h).bind fun i =>
 (YJ f ([i]:List (List ZS))).bind fun j =>
 (Qm rc a b c d e) j (ZN (g+1))
 else DW a b c d f
def Ru (N:Nat) (rc:List ZY->Option (List ZS)) (a:List ZY):Nat->(List ZS)->Int->Option (List ZS)
 | 0,_,_=>none
 | b+1,c,d =>
 bif decide (d < (a.length:Int)) then (ZW a d).bind fun e =>
 Qm rc c d (Ru N rc a b) e N ([]:List (List ZS)) 0
 else ZcN c
def DV (N:Nat) (rc:List ZY->Option (List ZS)) (a:List ZY):Option (List ZS) :=
 Ru N rc a N ([]:List ZS) 0
def ZcO:Nat->(List ZY)->Option (List ZS)
 | 0,_=>none
 | N+1,a0=>DV N (ZcO N) a0
def P8 (N:Nat) (a:List ZY):Option (List ZS):=ZcO N a
def Zdu (a:List ZT):Option (List ZT) :=
 some a
def BC (a:List ZT) (b:Int) (c:List ZT->Int->Option (List ZT)) (d:Z3) (e:List ZS) (f:List Z2):Option (List ZT) :=
 (YJ a ([(⟨d.Zt,d.ZD,f,e⟩:ZT)]:List ZT)).bind fun g =>
 c g (ZN (b+1))
def BD (a:List Z2) (b:Int) (c:List Z2->Int->Option (List ZT)) (d:Yg) (e:List Y5):Option (List ZT) :=
 (YJ a ([(⟨d.Zt,d.Zy,e⟩:Z2)]:List Z2)).bind fun f =>
 c f (ZN (b+1))
def Qx (a:List Z2) (b:Int) (c:List Z2->Int->Option (List ZT)) (d:Yg):Nat->(List Y5)->Int->Option (List ZT)
 | 0,_,_=>none
 | e+1,f,g =>
 bif decide (g < (d.Zz.length:Int)) then (ZW d.Zz g).bind fun h =>
 (YJ f ([(⟨h.Zw,h.Op,h.Zx⟩:Y5)]:List Y5)).bind fun i =>
 (Qx a b c d e) i (ZN (g+1))
 else BD a b c d f
def SE (N:Nat) (a:List ZT) (b:Int) (c:List ZT->Int->Option (List ZT)) (d:Z3) (e:List ZS):Nat->(List Z2)->Int->Option (List ZT)
 | 0,_,_=>none
 | f+1,g,h =>
 bif decide (h < (d.ZE.length:Int)) then (ZW d.ZE h).bind fun i =>
 Qx g h (SE N a b c d e f) i N ([]:List Y5) 0
 else BC a b c d e g
def TK (N:Nat) (a:List Z3):Nat->(List ZT)->Int->Option (List ZT)
 | 0,_,_=>none
 | b+1,c,d =>
 bif decide (d < (a.length:Int)) then (ZW a d).bind fun e =>
 (P8 N e.ZF).bind fun f =>
 SE N c d (TK N a b) e f N ([]:List Z2) 0
 else Zdu c
def z7 (N:Nat) (a:List Z3):Option (List ZT) :=
 TK N a N ([]:List ZT) 0
def DU (N:Nat) (a:Int):Option Bool :=
 bif decide (a>=97) then bif decide (a<=122) then some true
 else bif decide (a>=65) then some (decide (a<=90))
 else some false
 else bif decide (a>=65) then some (decide (a<=90))
 else some false
def ZgN (N:Nat) (a:Int):Option Bool :=
 bif decide (a>=48) then some (decide (a<=57))
 else some false
def ZgI (N:Nat) (a:Int):Option Bool :=
 (DU N a).bind fun b =>
 bif b then some true
 else (ZgN N a).bind fun c =>
 bif c then some true
 else some (a==95)
def ZgB:Option Bool :=
 some true
def Hd (N:Nat) (a:ByteArray):Nat->Int->Option Bool
 | 0,_=>none
 | b+1,c =>
 bif decide (c < (a.size:Int)) then (Xc a c).bind fun d =>
 (ZgI N d).bind fun e =>
 bif !e then some false
 else (Hd N a b) (ZN (c+1))
 else ZgB
def Hc (N:Nat) (a:ByteArray):Option Bool :=
 bif a.toList==(str []).toList then some false
 else (Xc a 0).bind fun b =>
 (DU N b).bind fun c =>
 bif !c then some false
 else bif decide ((a.size:Int) > 16) then some false
 else Hd N a N 0
def ZcC (N:Nat):Option (List ByteArray) :=
 some ([(str [97,103,97,105,110]),(str [97,110,100]),(str [97,115]),(str [97,116]),(str [99,97,108,108]),(str [99,104,111,105,99,101]),(str [101,108,115,101]),(str [102,114,111,109]),(str [105,102]),(str [105,110,116]),(str [108,101,110]),(str [108,111,111,112]),(str [109,101,115,115,97,103,101]),(str [111,102]),(str [111,102,102,101,114]),(str [111,110]),(str [111,114]),(str [112,97,114]),(str [112,108,97,121,115]),(str [112,114,111,116,111,99,111,108]),(str [115,101,114,118,105,99,101]),(str [116,101,120,116]),(str [116,105,109,101,115]),(str [116,111]),(str [118,97,114]),(str [119,104,101,114,101]),(str [119,104,105,108,101]),(str [119,105,116,104,105,110])]:List ByteArray)
def ZcB:Option Bool :=
 some false
def P6 (a:List ByteArray) (b:ByteArray):Nat->Int->Option Bool
 | 0,_=>none
 | c+1,d =>
 bif decide (d < (a.length:Int)) then (ZW a d).bind fun e =>
 bif e.toList==b.toList then some true
 else (P6 a b c) (ZN (d+1))
 else ZcB
def DR (N:Nat) (a:List ByteArray) (b:ByteArray):Option Bool :=
 P6 a b N 0
def PR (N:Nat) (a:ByteArray):Option Bool :=
 (Hc N a).bind fun b =>
 bif b then (ZcC N).bind fun c =>
 (DR N c a).bind fun d =>
 some (!d)
 else some false
def Vv (N:Nat) (a:ByteArray):Option Bool :=
 (PR N a).bind fun b =>
 some b
def Zbm (a:List ByteArray) (b:Int):Option Bool :=
 bif decide ((a.length:Int)>=1) then some (decide ((a.length:Int)<=b))
 else some false
def LH (N:Nat) (a:List ByteArray) (b:Int):Nat->Int->Option Bool
 | 0,_=>none
 | c+1,d =>
 bif decide (d < (a.length:Int)) then (ZW a d).bind fun e =>
 (Vv N e).bind fun f =>
 bif !f then some false
 else (LH N a b c) (ZN (d+1))
 else Zbm a b
def Ps (N:Nat) (a:List ByteArray) (b:Int):Option Bool :=
 LH N a b N 0
def Zbn (a:Int):Option Int :=
 some a
def Zbo (a:Int) (b:Int) (c:Int->Int->Option Int) (d:Int):Option Int :=
 c (Wy a (ZN (d+1))) (ZN (b+1))
def R7 (rc:List ZY->Option Int) (a:List ZY) (b:Int) (c:Int) (d:Int->Int->Option Int):Nat->Int->Int->Option Int
 | 0,_,_=>none
 | e+1,f,g =>
 (ZW a c).bind fun h =>
 bif decide (g < (h.ZC.length:Int)) then (ZW a c).bind fun i =>
 (ZW i.ZC g).bind fun j =>
 (rc j).bind fun k =>
 (R7 rc a b c d e) (Wy f k) (ZN (g+1))
 else Zbo b c d f
def Rh (N:Nat) (rc:List ZY->Option Int) (a:List ZY):Nat->Int->Int->Option Int
 | 0,_,_=>none
 | b+1,c,d =>
 bif decide (d < (a.length:Int)) then R7 rc a c d (Rh N rc a b) N 0 0
 else Zbn c
def G7 (N:Nat) (rc:List ZY->Option Int) (a:List ZY):Option Int :=
 Rh N rc a N 0 0
def Zbp:Nat->(List ZY)->Option Int
 | 0,_=>none
 | N+1,a0=>G7 N (Zbp N) a0
def Pt (N:Nat) (a:List ZY):Option Int:=Zbp N a
def DC (a:ByteArray):Option Bool :=
 some (decide ((a.size:Int)<=50))
def PT (N:Nat) (a:ByteArray) (b:Int) (c:Int) (d:Int->Int->Option Bool) (e:Bool):Option Bool :=
 bif e then (ssl a (some b) (some c)).bind fun f =>
 (Vv N f).bind fun g =>
 bif !g then some false
 else d (ZN (c+1)) (ZN (c+1))
 else d b (ZN (c+1))
def Su (N:Nat) (a:ByteArray):Nat->Int->Int->Option Bool
 | 0,_,_=>none
 | b+1,c,d =>
 bif decide (d<=(a.size:Int)) then bif d==(a.size:Int) then PT N a c d (Su N a b) true
 else (Xc a d).bind fun e =>
 PT N a c d (Su N a b) (e==46)
 else DC a
def z183 (N:Nat) (a:ByteArray):Option Bool :=
 Su N a N 0 0
def LY (a:Bool):Option Bool :=
 some a
def PS (rc:List ZY->Option Bool) (a:ZY):Nat->Bool->Int->Option Bool
 | 0,_,_=>none
 | b+1,c,d =>
 bif decide (d < (a.ZC.length:Int)) then bif c then (ZW a.ZC d).bind fun e =>
 (rc e).bind fun f =>
 (PS rc a b) f (ZN (d+1))
 else LY c
 else LY c
def Xd (N:Nat) (rc:List ZY->Option Bool) (a:ZY) (b:Bool):Option Bool :=
 PS rc a N b 0
def LZ (N:Nat) (rc:List ZY->Option Bool) (a:ZY) (b:Int):Option Bool :=
 (Vv N a.ZA).bind fun c =>
 bif c then bif (a.To.length:Int)==0 then bif a.Zt.toList==(str []).toList then bif a.As.toList==(str []).toList then bif decide (a.ZB>=0) then bif decide (a.ZB<=1000) then bif decide ((a.ZC.length:Int)>=b) then Xd N rc a (decide ((a.ZC.length:Int)<=8))
 else Xd N rc a false
 else Xd N rc a false
 else Xd N rc a false
 else Xd N rc a false
 else Xd N rc a false
 else Xd N rc a false
 else Xd N rc a false
def DB (N:Nat) (rc:List ZY->Option Bool) (a:ZY):Option Bool :=
 bif a.Zq==1 then (Vv N a.ZA).bind fun b =>
 bif b then (Ps N a.To 5).bind fun c =>
 bif c then (z183 N a.Zt).bind fun d =>
 bif d then bif a.As.toList==(str []).toList then bif a.ZB==0 then Xd N rc a ((a.ZC.length:Int)==0)
 else Xd N rc a false
 else Xd N rc a false
 else Xd N rc a false
 else Xd N rc a false
 else Xd N rc a false
 else bif a.Zq==2 then bif decide (a.ZB > 0) then LZ N rc a 2
 else LZ N rc a 1
 else bif a.Zq==3 then bif a.ZA.toList==(str []).toList then bif (a.To.length:Int)==0 then (z183 N a.Zt).bind fun e =>
 bif e then bif a.As.toList==(str []).toList then bif a.ZB==0 then Xd N rc a ((a.ZC.length:Int)==1)
 else Xd N rc a false
 else Xd N rc a false
 else Xd N rc a false
 else Xd N rc a false
 else Xd N rc a false
 else bif a.Zq==4 then bif a.ZA.toList==(str []).toList then bif (a.To.length:Int)==0 then (z183 N a.Zt).bind fun f =>
 bif f then bif a.As.toList==(str []).toList then bif a.ZB==0 then Xd N rc a ((a.ZC.length:Int)==0)
 else Xd N rc a false
 else Xd N rc a false
 else Xd N rc a false
 else Xd N rc a false
 else Xd N rc a false
 else bif a.Zq==5 then bif a.ZA.toList==(str []).toList then bif (a.To.length:Int)==0 then bif a.Zt.toList==(str []).toList then bif a.As.toList==(str []).toList then bif a.ZB==0 then bif decide ((a.ZC.length:Int)>=2) then Xd N rc a (decide ((a.ZC.length:Int)<=8))
 else Xd N rc a false
 else Xd N rc a false
 else Xd N rc a false
 else Xd N rc a false
 else Xd N rc a false
 else Xd N rc a false
 else bif a.Zq==6 then bif a.ZA.toList==(str []).toList then (Ps N a.To 6).bind fun g =>
 bif g then (Vv N a.Zt).bind fun h =>
 bif h then (Vv N a.As).bind fun i =>
 bif i then bif a.ZB==0 then Xd N rc a ((a.ZC.length:Int)==0)
 else Xd N rc a false
 else Xd N rc a false
 else Xd N rc a false
 else Xd N rc a false
 else Xd N rc a false
 else Xd N rc a false
def Zbr:Option Bool :=
 some true
def LI (N:Nat) (rc:List ZY->Option Bool) (a:List ZY):Nat->Int->Option Bool
 | 0,_=>none
 | b+1,c =>
 bif decide (c < (a.length:Int)) then (ZW a c).bind fun d =>
 (DB N rc d).bind fun e =>
 bif !e then some false
 else (LI N rc a b) (ZN (c+1))
 else Zbr
def G8 (N:Nat) (rc:List ZY->Option Bool) (a:List ZY):Option Bool :=
 LI N rc a N 0
def Zbs:Nat->(List ZY)->Option Bool
 | 0,_=>none
 | N+1,a0=>G8 N (Zbs N) a0
def Zbq (N:Nat) (a:List ZY):Option Bool:=Zbs N a
def L2 (N:Nat) (a:Int):Option Bool :=
 bif decide (a>=(-999999)) then some (decide (a<=999999))
 else some false
def z182 (N:Nat) (a:Yq):Option Bool :=
 (L2 N a.N).bind fun b =>
 bif !b then some false
 else bif a.Zq==1 then bif a.Zv.toList==(str []).toList then some (a.Field.toList==(str []).toList)
 else some false
 else bif a.Zq==2 then (Vv N a.Field).bind fun c =>
 bif c then bif a.Zv.toList==(str []).toList then some true
 else (z183 N a.Zv).bind fun d =>
 some d
 else some false
 else bif a.Zq==3 then (Vv N a.Field).bind fun e =>
 bif e then bif a.Zv.toList==(str []).toList then some true
 else (z183 N a.Zv).bind fun f =>
 some f
 else some false
 else some false
def Zbt (N:Nat) (a:Yg):Option Bool :=
 (z183 N a.Zt).bind fun b =>
 bif b then bif decide ((a.Zy.length:Int)<=4) then some (decide ((a.Zz.length:Int)<=6))
 else some false
 else some false
def TA (N:Nat) (a:Yg):Nat->Int->Option Bool
 | 0,_=>none
 | b+1,c =>
 bif decide (c < (a.Zz.length:Int)) then (ZW a.Zz c).bind fun d =>
 (z182 N d.Zw).bind fun e =>
 bif !e then some false
 else (z182 N d.Zx).bind fun f =>
 bif !f then some false
 else bif !(d.Op.toList==(str [60]).toList) then bif !(d.Op.toList==(str [60,61]).toList) then bif !(d.Op.toList==(str [61,61]).toList) then bif !(d.Op.toList==(str [62,61]).toList) then bif !(d.Op.toList==(str [62]).toList) then some false
 else (TA N a b) (ZN (c+1))
 else (TA N a b) (ZN (c+1))
 else (TA N a b) (ZN (c+1))
 else (TA N a b) (ZN (c+1))
 else (TA N a b) (ZN (c+1))
 else Zbt N a
def Zbu (N:Nat) (a:Yg):Option Bool :=
 TA N a N 0
def TB (N:Nat) (a:Yg):Nat->Int->Option Bool
 | 0,_=>none
 | b+1,c =>
 bif decide (c < (a.Zy.length:Int)) then (ZW a.Zy c).bind fun d =>
 (ZW a.Zy c).bind fun e =>
 (Vv N e.Zt).bind fun f =>
 bif !f then some false
 else (L2 N d.Zu.Lo).bind fun g =>
 bif !g then some false
 else (L2 N d.Zu.Hi).bind fun h =>
 bif !h then some false
 else bif d.Zu.Zq != 1 then bif d.Zu.Zq != 2 then some false
 else bif d.Zu.Zq==2 then bif decide (d.Zu.Lo < 0) then some false
 else bif decide (d.Zu.Hi < 0) then some false
 else (TB N a b) (ZN (c+1))
 else (TB N a b) (ZN (c+1))
 else bif d.Zu.Zq==2 then bif decide (d.Zu.Lo < 0) then some false
 else bif decide (d.Zu.Hi < 0) then some false
 else (TB N a b) (ZN (c+1))
 else (TB N a b) (ZN (c+1))
 else Zbu N a
def G9 (N:Nat) (a:Yg):Option Bool :=
 TB N a N 0
def Zcd (a:ByteArray):Option ByteArray :=
 some a
def Qf (a:List ByteArray):Nat->ByteArray->Int->Option ByteArray
 | 0,_,_=>none
 | b+1,c,d =>
 bif decide (d < (a.length:Int)) then bif decide (d > 0) then (Yp c (str [44,32])).bind fun e =>
 (ZW a d).bind fun f =>
 (Yp e f).bind fun g =>
 (Qf a b) g (ZN (d+1))
 else (ZW a d).bind fun h =>
 (Yp c h).bind fun i =>
 (Qf a b) i (ZN (d+1))
 else Zcd c
def PU (N:Nat) (a:List ByteArray):Option ByteArray :=
 Qf a N (str []) 0
def DS (N:Nat) (rc:Int->Option ByteArray) (a:Int):Option ByteArray :=
 bif decide (a < (-9)) then (rc (ZN (a.tdiv 10))).bind fun b =>
 (Yp b (Utf8.encode (wk .i32 ((ZN (48-(a.tmod 10))))))).bind fun c =>
 some c
 else bif decide (a < 0) then (Yp (str [45]) (Utf8.encode (wk .i32 ((ZN (48-a)))))).bind fun d =>
 some d
 else bif decide (a < 10) then some (Utf8.encode (wk .i32 ((ZN (48+a)))))
 else (rc (ZN (a.tdiv 10))).bind fun e =>
 (Yp e (Utf8.encode (wk .i32 ((ZN (48+(a.tmod 10))))))).bind fun f =>
 some f
def Ql:Nat->Int->Option ByteArray
 | 0,_=>none
 | N+1,a0=>DS N (Ql N) a0
def z218 (N:Nat) (a:Int):Option ByteArray:=Ql N a
def Hg (N:Nat) (a:Yq) (b:ByteArray):Option ByteArray :=
 bif decide (a.N > 0) then (z218 N a.N).bind fun c =>
 (Yp (str [32,43,32]) c).bind fun d =>
 (Yp b d).bind fun e =>
 some e
 else bif decide (a.N < 0) then (z218 N (ZN (0-a.N))).bind fun f =>
 (Yp (str [32,45,32]) f).bind fun g =>
 (Yp b g).bind fun h =>
 some h
 else some b
def Hh (N:Nat) (a:Yq) (b:ByteArray):Option ByteArray :=
 bif a.Zq==3 then (Yp (str [108,101,110,40]) b).bind fun c =>
 (Yp c (str [41])).bind fun d =>
 Hg N a d
 else Hg N a b
def Hf (N:Nat) (a:Yq):Option ByteArray :=
 bif a.Zq==1 then (z218 N a.N).bind fun b =>
 some b
 else bif !(a.Zv.toList==(str []).toList) then (Yp a.Zv (str [46])).bind fun c =>
 (Yp c a.Field).bind fun d =>
 Hh N a d
 else Hh N a a.Field
def DE (a:ByteArray):Option ByteArray :=
 (Yp a (str [59])).bind fun b =>
 some b
def L4 (N:Nat) (a:Yg) (b:Int) (c:ByteArray->Int->Option ByteArray) (d:ByteArray):Option ByteArray :=
 (ZW a.Zz b).bind fun e =>
 (Hf N e.Zw).bind fun f =>
 (Yp f (str [32])).bind fun g =>
 (ZW a.Zz b).bind fun h =>
 (Yp g h.Op).bind fun i =>
 (Yp i (str [32])).bind fun j =>
 (ZW a.Zz b).bind fun k =>
 (Hf N k.Zx).bind fun l =>
 (Yp j l).bind fun m =>
 (Yp d m).bind fun o =>
 c o (ZN (b+1))
def TE (N:Nat) (a:Yg):Nat->ByteArray->Int->Option ByteArray
 | 0,_,_=>none
 | b+1,c,d =>
 bif decide (d < (a.Zz.length:Int)) then bif d==0 then (Yp c (str [32,119,104,101,114,101,32])).bind fun e =>
 L4 N a d (TE N a b) e
 else (Yp c (str [32,97,110,100,32])).bind fun f =>
 L4 N a d (TE N a b) f
 else DE c
def DF (N:Nat) (a:Yg) (b:ByteArray):Option ByteArray :=
 (Yp b (str [41])).bind fun c =>
 TE N a N c 0
def L5 (N:Nat) (a:Int) (b:ByteArray->Int->Option ByteArray) (c:T2) (d:ByteArray) (e:ByteArray):Option ByteArray :=
 (Yp c.Zt (str [58,32])).bind fun f =>
 (Yp f d).bind fun g =>
 (Yp g (str [32])).bind fun h =>
 (z218 N c.Zu.Lo).bind fun i =>
 (Yp h i).bind fun j =>
 (Yp j (str [46,46])).bind fun k =>
 (z218 N c.Zu.Hi).bind fun l =>
 (Yp k l).bind fun m =>
 (Yp e m).bind fun o =>
 b o (ZN (a+1))
def L6 (N:Nat) (a:ByteArray) (b:Int) (c:ByteArray->Int->Option ByteArray) (d:T2) (e:ByteArray):Option ByteArray :=
 bif decide (b > 0) then (Yp a (str [44,32])).bind fun f =>
 L5 N b c d e f
 else L5 N b c d e a
def Ub (N:Nat) (a:Yg):Nat->ByteArray->Int->Option ByteArray
 | 0,_,_=>none
 | b+1,c,d =>
 bif decide (d < (a.Zy.length:Int)) then (ZW a.Zy d).bind fun e =>
 bif e.Zu.Zq==2 then L6 N c d (Ub N a b) e (str [116,101,120,116])
 else L6 N c d (Ub N a b) e (str [105,110,116])
 else DF N a c
def DD (N:Nat) (a:Yg):Option ByteArray :=
 (Yp (str [109,101,115,115,97,103,101,32]) a.Zt).bind fun b =>
 (Yp b (str [40])).bind fun c =>
 Ub N a N c 0
def ZcE (a:ByteArray) (b:ByteArray):Option ByteArray :=
 (Yp b a).bind fun c =>
 (Yp c (str [125])).bind fun d =>
 some d
def P7 (rc:ZY->ByteArray->Option ByteArray) (a:List ZY) (b:ByteArray):Nat->ByteArray->Int->Option ByteArray
 | 0,_,_=>none
 | c+1,d,e =>
 bif decide (e < (a.length:Int)) then (Yp b (str [9])).bind fun f =>
 (ZW a e).bind fun g =>
 (Yp b (str [9])).bind fun h =>
 (rc g h).bind fun i =>
 (Yp f i).bind fun j =>
 (Yp j (str [10])).bind fun k =>
 (Yp d k).bind fun l =>
 (P7 rc a b c) l (ZN (e+1))
 else ZcE b d
def Rt (N:Nat) (rc:ZY->ByteArray->Option ByteArray) (a:List ZY) (b:ByteArray):Option ByteArray :=
 P7 rc a b N (str [123,10]) 0
def Zce (a:ByteArray):Option ByteArray :=
 some a
def Rq (N:Nat) (rc:ZY->ByteArray->Option ByteArray) (a:ZY) (b:ByteArray) (c:ByteArray) (d:ByteArray) (e:Int) (f:ByteArray->Int->Option ByteArray) (g:Bool):Option ByteArray :=
 bif g then (Yp d (str [32,101,108,115,101,32])).bind fun h =>
 (ZW a.ZC e).bind fun i =>
 (Rt N rc i b).bind fun j =>
 (Yp h j).bind fun k =>
 f k (ZN (e+1))
 else bif decide (e > 0) then (Yp d c).bind fun l =>
 (ZW a.ZC e).bind fun m =>
 (Rt N rc m b).bind fun o =>
 (Yp l o).bind fun p =>
 f p (ZN (e+1))
 else (ZW a.ZC e).bind fun q =>
 (Rt N rc q b).bind fun r =>
 (Yp d r).bind fun s =>
 f s (ZN (e+1))
def Uc (N:Nat) (rc:ZY->ByteArray->Option ByteArray) (a:ZY) (b:ByteArray) (c:ByteArray):Nat->ByteArray->Int->Option ByteArray
 | 0,_,_=>none
 | d+1,e,f =>
 bif decide (f < (a.ZC.length:Int)) then bif decide (f > 0) then bif decide (a.ZB > 0) then Rq N rc a b c e f (Uc N rc a b c d) (f==(ZN ((a.ZC.length:Int)-1)))
 else Rq N rc a b c e f (Uc N rc a b c d) false
 else Rq N rc a b c e f (Uc N rc a b c d) false
 else Zce e
def Qg (N:Nat) (rc:ZY->ByteArray->Option ByteArray) (a:ZY) (b:ByteArray) (c:ByteArray) (d:ByteArray):Option ByteArray :=
 Uc N rc a b d N c 0
def DH (N:Nat) (rc:ZY->ByteArray->Option ByteArray) (a:ZY) (b:ByteArray):Option ByteArray :=
 bif a.Zq==1 then (Yp a.ZA (str [32,45,62,32])).bind fun c =>
 (PU N a.To).bind fun d =>
 (Yp c d).bind fun e =>
 (Yp e (str [58,32])).bind fun f =>
 (Yp f a.Zt).bind fun g =>
 (Yp g (str [59])).bind fun h =>
 some h
 else bif a.Zq==4 then (Yp (str [97,103,97,105,110,32]) a.Zt).bind fun i =>
 (Yp i (str [59])).bind fun j =>
 some j
 else bif a.Zq==6 then (Yp (str [99,97,108,108,32]) a.Zt).bind fun k =>
 (Yp k (str [40])).bind fun l =>
 (PU N a.To).bind fun m =>
 (Yp l m).bind fun o =>
 (Yp o (str [41,32,97,115,32])).bind fun p =>
 (Yp p a.As).bind fun q =>
 (Yp q (str [59])).bind fun r =>
 some r
 else bif a.Zq==3 then (Yp (str [108,111,111,112,32]) a.Zt).bind fun s =>
 (Yp s (str [32])).bind fun t =>
 Qg N rc a b t (str [])
 else bif a.Zq==5 then Qg N rc a b (str [112,97,114,32]) (str [32,97,110,100,32])
 else (Yp (str [99,104,111,105,99,101,32,97,116,32]) a.ZA).bind fun u =>
 (Yp u (str [32])).bind fun v =>
 bif decide (a.ZB > 0) then (z218 N a.ZB).bind fun w =>
 (Yp (str [119,105,116,104,105,110,32]) w).bind fun x =>
 (Yp x (str [32])).bind fun y =>
 (Yp v y).bind fun z =>
 Qg N rc a b z (str [32,111,114,32])
 else Qg N rc a b v (str [32,111,114,32])
def Zcf:Nat->ZY->ByteArray->Option ByteArray
 | 0,_,_=>none
 | N+1,a0,a1=>DH N (Zcf N) a0 a1
def DG (N:Nat) (a:ZY) (b:ByteArray):Option ByteArray:=Zcf N a b
def Zbv (a:ByteArray):Option ByteArray :=
 some a
def Da (a:Int) (b:ByteArray->Int->Option ByteArray) (c:ByteArray):Option ByteArray :=
 (Yp c (str [125,10])).bind fun d =>
 b d (ZN (a+1))
def Pu (N:Nat) (a:List Z3) (b:Int) (c:ByteArray->Int->Option ByteArray):Nat->ByteArray->Int->Option ByteArray
 | 0,_,_=>none
 | d+1,e,f =>
 (ZW a b).bind fun g =>
 bif decide (f < (g.ZF.length:Int)) then (ZW a b).bind fun h =>
 (ZW h.ZF f).bind fun i =>
 (DG N i (str [9])).bind fun j =>
 (Yp (str [9]) j).bind fun k =>
 (Yp k (str [10])).bind fun l =>
 (Yp e l).bind fun m =>
 (Pu N a b c d) m (ZN (f+1))
 else Da b c e
def Db (N:Nat) (a:List Z3) (b:Int) (c:ByteArray->Int->Option ByteArray) (d:ByteArray):Option ByteArray :=
 Pu N a b c N d 0
def Pv (N:Nat) (a:List Z3) (b:Int) (c:ByteArray->Int->Option ByteArray):Nat->ByteArray->Int->Option ByteArray
 | 0,_,_=>none
 | d+1,e,f =>
 (ZW a b).bind fun g =>
 bif decide (f < (g.ZE.length:Int)) then (ZW a b).bind fun h =>
 (ZW h.ZE f).bind fun i =>
 (DD N i).bind fun j =>
 (Yp (str [9]) j).bind fun k =>
 (Yp k (str [10])).bind fun l =>
 (Yp e l).bind fun m =>
 (Pv N a b c d) m (ZN (f+1))
 else Db N a b c e
def VP (N:Nat) (a:List Z3):Nat->ByteArray->Int->Option ByteArray
 | 0,_,_=>none
 | b+1,c,d =>
 bif decide (d < (a.length:Int)) then (ZW a d).bind fun e =>
 (Yp (str [112,114,111,116,111,99,111,108,32]) e.Zt).bind fun f =>
 (Yp f (str [40])).bind fun g =>
 (ZW a d).bind fun h =>
 (PU N h.ZD).bind fun i =>
 (Yp g i).bind fun j =>
 (Yp j (str [41,32,123,10])).bind fun k =>
 (Yp c k).bind fun l =>
 Pv N a d (VP N a b) N l 0
 else Zbv c
def z127 (N:Nat) (a:List Z3):Option ByteArray :=
 VP N a N (str []) 0
def Zdd (N:Nat) (a:List Z3):Option Bool :=
 (z127 N a).bind fun b =>
 some (decide ((b.size:Int)<=8000))
def Zde (a:Int) (b:Int->Option Bool):Option Bool :=
 b (ZN (a+1))
def Mm (N:Nat) (a:Int) (b:Int->Option Bool) (c:Z3):Nat->Int->Option Bool
 | 0,_=>none
 | d+1,e =>
 bif decide (e < (c.ZE.length:Int)) then (ZW c.ZE e).bind fun f =>
 (G9 N f).bind fun g =>
 bif !g then some false
 else (Mm N a b c d) (ZN (e+1))
 else Zde a b
def Ry (N:Nat) (a:List Z3):Nat->Int->Option Bool
 | 0,_=>none
 | b+1,c =>
 bif decide (c < (a.length:Int)) then (ZW a c).bind fun d =>
 (Vv N d.Zt).bind fun e =>
 bif !e then some false
 else (Ps N d.ZD 6).bind fun f =>
 bif !f then some false
 else bif decide ((d.ZE.length:Int) > 40) then some false
 else (Pt N d.ZF).bind fun g =>
 bif decide (g > 10) then some false
 else (Qa N d.ZF).bind fun h =>
 bif decide (h > 300) then some false
 else (Zbq N d.ZF).bind fun i =>
 bif !i then some false
 else Mm N c (Ry N a b) d N 0
 else Zdd N a
def Bi (N:Nat) (a:List Z3):Option Bool :=
 bif decide ((a.length:Int) > 10) then some false
 else Ry N a N 0
def Zdf:Option Int :=
 some (-1)
def Mn (a:List ByteArray) (b:ByteArray):Nat->Int->Option Int
 | 0,_=>none
 | c+1,d =>
 bif decide (d < (a.length:Int)) then (ZW a d).bind fun e =>
 bif e.toList==b.toList then some d
 else (Mn a b c) (ZN (d+1))
 else Zdf
def Uf (N:Nat) (a:List ByteArray) (b:ByteArray):Option Int :=
 Mn a b N 0
def Zbx:Option (Yg × Bool) :=
 some ((⟨(str []),([]:List T2),([]:List Wu)⟩:Yg),false)
def Pz (a:Z3) (b:ByteArray):Nat->Int->Option (Yg × Bool)
 | 0,_=>none
 | c+1,d =>
 bif decide (d < (a.ZE.length:Int)) then (ZW a.ZE d).bind fun e =>
 bif e.Zt.toList==b.toList then (ZW a.ZE d).bind fun f =>
 some (f,true)
 else (Pz a b c) (ZN (d+1))
 else Zbx
def z131 (N:Nat) (a:Z3) (b:ByteArray):Option (Yg × Bool) :=
 Pz a b N 0
def Zcg:Option (T2 × Bool) :=
 some ((⟨(str []),(⟨0,0,0⟩:T4)⟩:T2),false)
def PV (a:Yq) (b:List T2):Nat->Int->Option (T2 × Bool)
 | 0,_=>none
 | c+1,d =>
 bif decide (d < (b.length:Int)) then (ZW b d).bind fun e =>
 bif e.Zt.toList==a.Field.toList then (ZW b d).bind fun f =>
 some (f,true)
 else (PV a b c) (ZN (d+1))
 else Zcg
def L7 (N:Nat) (a:Yq) (b:ByteArray) (c:List T2) (d:List Wu):Option (T2 × Bool) :=
 PV a c N 0
def DI (N:Nat) (a:Z3) (b:Yg) (c:Yq):Option (T2 × Bool) :=
 bif !(c.Zv.toList==(str []).toList) then (z131 N a c.Zv).bind fun d =>
 bif !d.2 then some ((⟨(str []),(⟨0,0,0⟩:T4)⟩:T2),false)
 else L7 N c d.1.Zt d.1.Zy d.1.Zz
 else L7 N c b.Zt b.Zy b.Zz
def Zby:Option (Z3 × Bool) :=
 some ((⟨(str []),([]:List ByteArray),([]:List Yg),([]:List ZY)⟩:Z3),false)
def PB (a:List Z3) (b:ByteArray):Nat->Int->Option (Z3 × Bool)
 | 0,_=>none
 | c+1,d =>
 bif decide (d < (a.length:Int)) then (ZW a d).bind fun e =>
 bif e.Zt.toList==b.toList then (ZW a d).bind fun f =>
 some (f,true)
 else (PB a b c) (ZN (d+1))
 else Zby
def LN (N:Nat) (a:List Z3) (b:ByteArray):Option (Z3 × Bool) :=
 PB a b N 0
def z53 (N:Nat) (a:Z7) (b:ByteArray) (c:Int):Option Z7 :=
 bif a.first'.ZM==0 then some (⟨a.l',a.p',a.calls',(⟨a.p'.Zt,b,c⟩:T9)⟩:Z7)
 else some a
def Dh (a:List Z3) (b:ByteArray) (c:List ByteArray) (d:List Yg) (e:List ZY) (f:List ByteArray) (g:ByteArray) (h:ByteArray) (i:Int):Option Z7 :=
 some (⟨a,(⟨b,c,d,e⟩:Z3),f,(⟨g,h,i⟩:T9)⟩:Z7)
def Ri (N:Nat) (a:List ByteArray):Nat->(List Z3)->ByteArray->(List ByteArray)->(List Yg)->(List ZY)->(List ByteArray)->ByteArray->ByteArray->Int->Int->Option Z7
 | 0,_,_,_,_,_,_,_,_,_,_=>none
 | b+1,c,d,e,f,g,h,i,j,k,l =>
 bif decide (l < (a.length:Int)) then (ZW a l).bind fun m =>
 (Uf N e m).bind fun o =>
 bif decide (o < 0) then (ZW a l).bind fun p =>
 (z53 N (⟨c,(⟨d,e,f,g⟩:Z3),h,(⟨i,j,k⟩:T9)⟩:Z7) p 12).bind fun q =>
 (Ri N a b) q.l' q.p'.Zt q.p'.ZD q.p'.ZE q.p'.ZF q.calls' q.first'.ZL q.first'.Zt q.first'.ZM (ZN (l+1))
 else (lsl a none (some l)).bind fun r =>
 (ZW a l).bind fun s =>
 (Uf N r s).bind fun t =>
 bif decide (t>=0) then (ZW a l).bind fun u =>
 (z53 N (⟨c,(⟨d,e,f,g⟩:Z3),h,(⟨i,j,k⟩:T9)⟩:Z7) u 12).bind fun v =>
 (Ri N a b) v.l' v.p'.Zt v.p'.ZD v.p'.ZE v.p'.ZF v.calls' v.first'.ZL v.first'.Zt v.first'.ZM (ZN (l+1))
 else (Ri N a b) c d e f g h i j k (ZN (l+1))
 else Dh c d e f g h i j k
def R9 (N:Nat) (a:Z7) (b:List ByteArray):Option Z7 :=
 Ri N b N a.l' a.p'.Zt a.p'.ZD a.p'.ZE a.p'.ZF a.calls' a.first'.ZL a.first'.Zt a.first'.ZM 0
def PA (N:Nat) (a:ZY) (b:List Z3) (c:ByteArray) (d:List ByteArray) (e:List Yg) (f:List ZY) (g:List ByteArray) (h:ByteArray) (i:ByteArray) (j:Int):Option Z7 :=
 (R9 N (⟨b,(⟨c,d,e,f⟩:Z3),g,(⟨h,i,j⟩:T9)⟩:Z7) a.To).bind fun k =>
 (Uf N k.calls' a.As).bind fun l =>
 bif decide (l>=0) then (z53 N k a.As 9).bind fun m =>
 (YJ m.calls' ([a.As]:List ByteArray)).bind fun o =>
 some (⟨m.l',m.p',o,m.first'⟩:Z7)
 else (YJ k.calls' ([a.As]:List ByteArray)).bind fun p =>
 some (⟨k.l',k.p',p,k.first'⟩:Z7)
def Di (N:Nat) (a:Z7) (b:ZY):Option Z7 :=
 (LN N a.l' b.Zt).bind fun c =>
 bif !c.2 then (z53 N a b.Zt 10).bind fun d =>
 PA N b d.l' d.p'.Zt d.p'.ZD d.p'.ZE d.p'.ZF d.calls' d.first'.ZL d.first'.Zt d.first'.ZM
 else bif (c.1.ZD.length:Int) != (b.To.length:Int) then (z53 N a b.Zt 1).bind fun e =>
 PA N b e.l' e.p'.Zt e.p'.ZD e.p'.ZE e.p'.ZF e.calls' e.first'.ZL e.first'.Zt e.first'.ZM
 else PA N b a.l' a.p'.Zt a.p'.ZD a.p'.ZE a.p'.ZF a.calls' a.first'.ZL a.first'.Zt a.first'.ZM
def Bo (a:List Z3) (b:ByteArray) (c:List ByteArray) (d:List Yg) (e:List ZY) (f:List ByteArray) (g:ByteArray) (h:ByteArray) (i:Int):Option Z7 :=
 some (⟨a,(⟨b,c,d,e⟩:Z3),f,(⟨g,h,i⟩:T9)⟩:Z7)
def Bp (a:Int) (b:List Z3->ByteArray->(List ByteArray)->(List Yg)->(List ZY)->(List ByteArray)->ByteArray->ByteArray->Int->Int->Option Z7) (c:List Z3) (d:ByteArray) (e:List ByteArray) (f:List Yg) (g:List ZY) (h:List ByteArray) (i:ByteArray) (j:ByteArray) (k:Int):Option Z7 :=
 b c d e f g h i j k (ZN (a+1))
def Mq (rc:Z7->(List ZY)->(List ByteArray)->Int->Int->Option Z7) (a:Int) (b:List Z3->ByteArray->(List ByteArray)->(List Yg)->(List ZY)->(List ByteArray)->ByteArray->ByteArray->Int->Int->Option Z7) (c:ZY) (d:Int) (e:List ByteArray) (f:Int):Nat->(List Z3)->ByteArray->(List ByteArray)->(List Yg)->(List ZY)->(List ByteArray)->ByteArray->ByteArray->Int->Int->Option Z7
 | 0,_,_,_,_,_,_,_,_,_,_=>none
 | g+1,h,i,j,k,l,m,o,p,q,r =>
 bif decide (r < (c.ZC.length:Int)) then (ZW c.ZC r).bind fun s =>
 (rc (⟨h,(⟨i,j,k,l⟩:Z3),m,(⟨o,p,q⟩:T9)⟩:Z7) s e f d).bind fun t =>
 (Mq rc a b c d e f g) t.l' t.p'.Zt t.p'.ZD t.p'.ZE t.p'.ZF t.calls' t.first'.ZL t.first'.Zt t.first'.ZM (ZN (r+1))
 else Bp a b h i j k l m o p q
def Vh (N:Nat) (rc:Z7->(List ZY)->(List ByteArray)->Int->Int->Option Z7) (a:Int) (b:List Z3->ByteArray->(List ByteArray)->(List Yg)->(List ZY)->(List ByteArray)->ByteArray->ByteArray->Int->Int->Option Z7) (c:ZY) (d:Int) (e:List Z3) (f:ByteArray) (g:List ByteArray) (h:List Yg) (i:List ZY) (j:List ByteArray) (k:ByteArray) (l:ByteArray) (m:Int) (o:List ByteArray) (p:Int):Option Z7 :=
 Mq rc a b c d o p N e f g h i j k l m 0
def HE (N:Nat) (rc:Z7->(List ZY)->(List ByteArray)->Int->Int->Option Z7) (a:List ByteArray) (b:Int) (c:List Z3) (d:ByteArray) (e:List ByteArray) (f:List Yg) (g:List ZY) (h:List ByteArray) (i:ByteArray) (j:ByteArray) (k:Int) (l:Int) (m:List Z3->ByteArray->(List ByteArray)->(List Yg)->(List ZY)->(List ByteArray)->ByteArray->ByteArray->Int->Int->Option Z7) (o:ZY) (p:Int):Option Z7 :=
 bif o.Zq==1 then (YJ ([o.ZA]:List ByteArray) o.To).bind fun q =>
 (R9 N (⟨c,(⟨d,e,f,g⟩:Z3),h,(⟨i,j,k⟩:T9)⟩:Z7) q).bind fun r =>
 (z131 N r.p' o.Zt).bind fun s =>
 bif !s.2 then (z53 N r o.Zt 10).bind fun t =>
 Vh N rc l m o p t.l' t.p'.Zt t.p'.ZD t.p'.ZE t.p'.ZF t.calls' t.first'.ZL t.first'.Zt t.first'.ZM a b
 else Vh N rc l m o p r.l' r.p'.Zt r.p'.ZD r.p'.ZE r.p'.ZF r.calls' r.first'.ZL r.first'.Zt r.first'.ZM a b
 else bif o.Zq==2 then (R9 N (⟨c,(⟨d,e,f,g⟩:Z3),h,(⟨i,j,k⟩:T9)⟩:Z7) ([o.ZA]:List ByteArray)).bind fun u =>
 Vh N rc l m o p u.l' u.p'.Zt u.p'.ZD u.p'.ZE u.p'.ZF u.calls' u.first'.ZL u.first'.Zt u.first'.ZM a b
 else bif o.Zq==3 then (Uf N a o.Zt).bind fun v =>
 bif decide (v>=0) then (z53 N (⟨c,(⟨d,e,f,g⟩:Z3),h,(⟨i,j,k⟩:T9)⟩:Z7) o.Zt 9).bind fun w =>
 (YJ ([]:List ByteArray) a).bind fun x =>
 (YJ x ([o.Zt]:List ByteArray)).bind fun y =>
 Vh N rc l m o p w.l' w.p'.Zt w.p'.ZD w.p'.ZE w.p'.ZF w.calls' w.first'.ZL w.first'.Zt w.first'.ZM y b
 else (YJ ([]:List ByteArray) a).bind fun z =>
 (YJ z ([o.Zt]:List ByteArray)).bind fun A =>
 Vh N rc l m o p c d e f g h i j k A b
 else bif o.Zq==4 then (lsl a (some b) none).bind fun B =>
 (Uf N B o.Zt).bind fun C =>
 bif decide (C < 0) then (z53 N (⟨c,(⟨d,e,f,g⟩:Z3),h,(⟨i,j,k⟩:T9)⟩:Z7) o.Zt 10).bind fun D =>
 (Uf N a o.Zt).bind fun E =>
 bif decide (E < p) then (z53 N D o.Zt 7).bind fun F =>
 Vh N rc l m o p F.l' F.p'.Zt F.p'.ZD F.p'.ZE F.p'.ZF F.calls' F.first'.ZL F.first'.Zt F.first'.ZM a b
 else Vh N rc l m o p D.l' D.p'.Zt D.p'.ZD D.p'.ZE D.p'.ZF D.calls' D.first'.ZL D.first'.Zt D.first'.ZM a b
 else (Uf N a o.Zt).bind fun G =>
 bif decide (G < p) then (z53 N (⟨c,(⟨d,e,f,g⟩:Z3),h,(⟨i,j,k⟩:T9)⟩:Z7) o.Zt 7).bind fun H =>
 Vh N rc l m o p H.l' H.p'.Zt H.p'.ZD H.p'.ZE H.p'.ZF H.calls' H.first'.ZL H.first'.Zt H.first'.ZM a b
 else Vh N rc l m o p c d e f g h i j k a b
 else bif o.Zq==5 then Vh N rc l m o p c d e f g h i j k a (a.length:Int)
 else bif o.Zq==6 then (Di N (⟨c,(⟨d,e,f,g⟩:Z3),h,(⟨i,j,k⟩:T9)⟩:Z7) o).bind fun I =>
 Vh N rc l m o p I.l' I.p'.Zt I.p'.ZD I.p'.ZE I.p'.ZF I.calls' I.first'.ZL I.first'.Zt I.first'.ZM a b
 else Vh N rc l m o p c d e f g h i j k a b
def Uy (N:Nat) (rc:Z7->(List ZY)->(List ByteArray)->Int->Int->Option Z7) (a:List ZY) (b:List ByteArray) (c:Int) (d:Int):Nat->(List Z3)->ByteArray->(List ByteArray)->(List Yg)->(List ZY)->(List ByteArray)->ByteArray->ByteArray->Int->Int->Option Z7
 | 0,_,_,_,_,_,_,_,_,_,_=>none
 | e+1,f,g,h,i,j,k,l,m,o,p =>
 bif decide (p < (a.length:Int)) then (ZW a p).bind fun q =>
 bif decide (p < (ZN ((a.length:Int)-1))) then HE N rc b c f g h i j k l m o p (Uy N rc a b c d e) q (b.length:Int)
 else HE N rc b c f g h i j k l m o p (Uy N rc a b c d e) q d
 else Bo f g h i j k l m o
def Bn (N:Nat) (rc:Z7->(List ZY)->(List ByteArray)->Int->Int->Option Z7) (a:Z7) (b:List ZY) (c:List ByteArray) (d:Int) (e:Int):Option Z7 :=
 Uy N rc b c d e N a.l' a.p'.Zt a.p'.ZD a.p'.ZE a.p'.ZF a.calls' a.first'.ZL a.first'.Zt a.first'.ZM 0
def U5:Nat->Z7->(List ZY)->(List ByteArray)->Int->Int->Option Z7
 | 0,_,_,_,_,_=>none
 | N+1,a0,a1,a2,a3,a4=>Bn N (U5 N) a0 a1 a2 a3 a4
def z56 (N:Nat) (a:Z7) (b:List ZY) (c:List ByteArray) (d:Int) (e:Int):Option Z7:=U5 N a b c d e
def Dc (a:List Z3) (b:ByteArray) (c:List ByteArray) (d:List Yg) (e:List ZY) (f:List ByteArray) (g:ByteArray) (h:ByteArray) (i:Int):Option Z7 :=
 some (⟨a,(⟨b,c,d,e⟩:Z3),f,(⟨g,h,i⟩:T9)⟩:Z7)
def LK (N:Nat) (a:Int) (b:List Z3->ByteArray->(List ByteArray)->(List Yg)->(List ZY)->(List ByteArray)->ByteArray->ByteArray->Int->Int->Option Z7) (c:T2) (d:List Z3) (e:ByteArray) (f:List ByteArray) (g:List Yg) (h:List ZY) (i:List ByteArray) (j:ByteArray) (k:ByteArray) (l:Int) (m:Int) (o:Int):Option Z7 :=
 bif decide (c.Zu.Lo < m) then (z53 N (⟨d,(⟨e,f,g,h⟩:Z3),i,(⟨j,k,l⟩:T9)⟩:Z7) c.Zt 2).bind fun p =>
 b p.l' p.p'.Zt p.p'.ZD p.p'.ZE p.p'.ZF p.calls' p.first'.ZL p.first'.Zt p.first'.ZM (ZN (a+1))
 else bif decide (c.Zu.Hi > o) then (z53 N (⟨d,(⟨e,f,g,h⟩:Z3),i,(⟨j,k,l⟩:T9)⟩:Z7) c.Zt 2).bind fun q =>
 b q.l' q.p'.Zt q.p'.ZD q.p'.ZE q.p'.ZF q.calls' q.first'.ZL q.first'.Zt q.first'.ZM (ZN (a+1))
 else bif decide (c.Zu.Lo > c.Zu.Hi) then (z53 N (⟨d,(⟨e,f,g,h⟩:Z3),i,(⟨j,k,l⟩:T9)⟩:Z7) c.Zt 2).bind fun r =>
 b r.l' r.p'.Zt r.p'.ZD r.p'.ZE r.p'.ZF r.calls' r.first'.ZL r.first'.Zt r.first'.ZM (ZN (a+1))
 else b d e f g h i j k l (ZN (a+1))
def LL (N:Nat) (a:Int) (b:List Z3->ByteArray->(List ByteArray)->(List Yg)->(List ZY)->(List ByteArray)->ByteArray->ByteArray->Int->Int->Option Z7) (c:T2) (d:List Z3) (e:ByteArray) (f:List ByteArray) (g:List Yg) (h:List ZY) (i:List ByteArray) (j:ByteArray) (k:ByteArray) (l:Int):Option Z7 :=
 bif c.Zu.Zq==2 then LK N a b c d e f g h i j k l 0 40
 else LK N a b c d e f g h i j k l (-1000) 1000
def R8 (N:Nat) (a:Yg) (b:Int) (c:List Z3->ByteArray->(List ByteArray)->(List Yg)->(List ZY)->(List ByteArray)->ByteArray->ByteArray->Int->Int->Option Z7) (d:T2):Nat->(List Z3)->ByteArray->(List ByteArray)->(List Yg)->(List ZY)->(List ByteArray)->ByteArray->ByteArray->Int->Int->Option Z7
 | 0,_,_,_,_,_,_,_,_,_,_=>none
 | e+1,f,g,h,i,j,k,l,m,o,p =>
 bif decide (p < b) then (ZW a.Zy p).bind fun q =>
 bif q.Zt.toList==d.Zt.toList then (z53 N (⟨f,(⟨g,h,i,j⟩:Z3),k,(⟨l,m,o⟩:T9)⟩:Z7) d.Zt 9).bind fun r =>
 (R8 N a b c d e) r.l' r.p'.Zt r.p'.ZD r.p'.ZE r.p'.ZF r.calls' r.first'.ZL r.first'.Zt r.first'.ZM (ZN (p+1))
 else (R8 N a b c d e) f g h i j k l m o (ZN (p+1))
 else LL N b c d f g h i j k l m o
def Uw (N:Nat) (a:Yg):Nat->(List Z3)->ByteArray->(List ByteArray)->(List Yg)->(List ZY)->(List ByteArray)->ByteArray->ByteArray->Int->Int->Option Z7
 | 0,_,_,_,_,_,_,_,_,_,_=>none
 | b+1,c,d,e,f,g,h,i,j,k,l =>
 bif decide (l < (a.Zy.length:Int)) then (ZW a.Zy l).bind fun m =>
 R8 N a l (Uw N a b) m N c d e f g h i j k 0
 else Dc c d e f g h i j k
def LJ (N:Nat) (a:Z7) (b:Yg):Option Z7 :=
 Uw N b N a.l' a.p'.Zt a.p'.ZD a.p'.ZE a.p'.ZF a.calls' a.first'.ZL a.first'.Zt a.first'.ZM 0
def Pw (N:Nat) (a:Yg) (b:Wu) (c:Int) (d:List Z3) (e:ByteArray) (f:List ByteArray) (g:List Yg) (h:List ZY) (i:List ByteArray) (j:ByteArray) (k:ByteArray) (l:Int):Option Z7 :=
 bif decide (c > 0) then bif decide (c < 2) then (z53 N (⟨d,(⟨e,f,g,h⟩:Z3),i,(⟨j,k,l⟩:T9)⟩:Z7) a.Zt 11).bind fun m =>
 some m
 else bif !(b.Op.toList==(str [61,61]).toList) then (z53 N (⟨d,(⟨e,f,g,h⟩:Z3),i,(⟨j,k,l⟩:T9)⟩:Z7) a.Zt 11).bind fun o =>
 some o
 else bif b.Zw.N != 0 then (z53 N (⟨d,(⟨e,f,g,h⟩:Z3),i,(⟨j,k,l⟩:T9)⟩:Z7) a.Zt 11).bind fun p =>
 some p
 else bif b.Zx.N != 0 then (z53 N (⟨d,(⟨e,f,g,h⟩:Z3),i,(⟨j,k,l⟩:T9)⟩:Z7) a.Zt 11).bind fun q =>
 some q
 else some (⟨d,(⟨e,f,g,h⟩:Z3),i,(⟨j,k,l⟩:T9)⟩:Z7)
 else some (⟨d,(⟨e,f,g,h⟩:Z3),i,(⟨j,k,l⟩:T9)⟩:Z7)
def De (N:Nat) (a:Yg) (b:Wu) (c:List Z3) (d:ByteArray) (e:List ByteArray) (f:List Yg) (g:List ZY) (h:List ByteArray) (i:ByteArray) (j:ByteArray) (k:Int) (l:Int) (m:Bool):Option Z7 :=
 bif m then (z53 N (⟨c,(⟨d,e,f,g⟩:Z3),h,(⟨i,j,k⟩:T9)⟩:Z7) a.Zt 11).bind fun o =>
 Pw N a b l o.l' o.p'.Zt o.p'.ZD o.p'.ZE o.p'.ZF o.calls' o.first'.ZL o.first'.Zt o.first'.ZM
 else Pw N a b l c d e f g h i j k
def Df (a:List Z3) (b:ByteArray) (c:List ByteArray) (d:List Yg) (e:List ZY) (f:List ByteArray) (g:ByteArray) (h:ByteArray) (i:Int) (j:Int) (k:Bool) (l:Int) (m:List Z3->ByteArray->(List ByteArray)->(List Yg)->(List ZY)->(List ByteArray)->ByteArray->ByteArray->Int->Int->Bool->Int->Option Z7) (o:Int) (p:T2 × Bool) (q:Bool):Option Z7 :=
 bif q then m a b c d e f g h i j true (ZN (l+1))
 else bif o==2 then bif p.1.Zu.Zq==2 then m a b c d e f g h i (ZN (j+1)) k (ZN (l+1))
 else m a b c d e f g h i j k (ZN (l+1))
 else m a b c d e f g h i j k (ZN (l+1))
def LM (N:Nat) (a:Yg) (b:List Z3) (c:ByteArray) (d:List ByteArray) (e:List Yg) (f:List ZY) (g:List ByteArray) (h:ByteArray) (i:ByteArray) (j:Int) (k:Int) (l:Bool) (m:Int) (o:List Z3->ByteArray->(List ByteArray)->(List Yg)->(List ZY)->(List ByteArray)->ByteArray->ByteArray->Int->Int->Bool->Int->Option Z7) (p:Int) (q:ByteArray) (r:ByteArray) (s:Int):Option Z7 :=
 bif p==1 then o b c d e f g h i j k l (ZN (m+1))
 else (DI N (⟨c,d,e,f⟩:Z3) a (⟨p,q,r,s⟩:Yq)).bind fun t =>
 bif !t.2 then (z53 N (⟨b,(⟨c,d,e,f⟩:Z3),g,(⟨h,i,j⟩:T9)⟩:Z7) a.Zt 10).bind fun u =>
 o u.l' u.p'.Zt u.p'.ZD u.p'.ZE u.p'.ZF u.calls' u.first'.ZL u.first'.Zt u.first'.ZM k l (ZN (m+1))
 else bif p==3 then Df b c d e f g h i j k l m o p t (t.1.Zu.Zq != 2)
 else Df b c d e f g h i j k l m o p t false
def U2 (N:Nat) (a:Yg) (b:Wu):Nat->(List Z3)->ByteArray->(List ByteArray)->(List Yg)->(List ZY)->(List ByteArray)->ByteArray->ByteArray->Int->Int->Bool->Int->Option Z7
 | 0,_,_,_,_,_,_,_,_,_,_,_,_=>none
 | c+1,d,e,f,g,h,i,j,k,l,m,o,p =>
 bif decide (p < 2) then bif p==0 then LM N a d e f g h i j k l m o p (U2 N a b c) b.Zw.Zq b.Zw.Zv b.Zw.Field b.Zw.N
 else bif p==1 then LM N a d e f g h i j k l m o p (U2 N a b c) b.Zx.Zq b.Zx.Zv b.Zx.Field b.Zx.N
 else none
 else De N a b d e f g h i j k l m o
def Dd (N:Nat) (a:Z7) (b:Yg) (c:Wu):Option Z7 :=
 U2 N b c N a.l' a.p'.Zt a.p'.ZD a.p'.ZE a.p'.ZF a.calls' a.first'.ZL a.first'.Zt a.first'.ZM 0 false 0
def Bl (a:List Z3) (b:ByteArray) (c:List ByteArray) (d:List Yg) (e:List ZY) (f:List ByteArray) (g:ByteArray) (h:ByteArray) (i:Int):Option Z7 :=
 some (⟨a,(⟨b,c,d,e⟩:Z3),f,(⟨g,h,i⟩:T9)⟩:Z7)
def Bm (a:Int) (b:List Z3->ByteArray->(List ByteArray)->(List Yg)->(List ZY)->(List ByteArray)->ByteArray->ByteArray->Int->Int->Option Z7) (c:List Z3) (d:ByteArray) (e:List ByteArray) (f:List Yg) (g:List ZY) (h:List ByteArray) (i:ByteArray) (j:ByteArray) (k:Int):Option Z7 :=
 b c d e f g h i j k (ZN (a+1))
def Mp (N:Nat) (a:Int) (b:List Z3->ByteArray->(List ByteArray)->(List Yg)->(List ZY)->(List ByteArray)->ByteArray->ByteArray->Int->Int->Option Z7) (c:Yg):Nat->(List Z3)->ByteArray->(List ByteArray)->(List Yg)->(List ZY)->(List ByteArray)->ByteArray->ByteArray->Int->Int->Option Z7
 | 0,_,_,_,_,_,_,_,_,_,_=>none
 | d+1,e,f,g,h,i,j,k,l,m,o =>
 bif decide (o < (c.Zz.length:Int)) then (ZW c.Zz o).bind fun p =>
 (Dd N (⟨e,(⟨f,g,h,i⟩:Z3),j,(⟨k,l,m⟩:T9)⟩:Z7) c p).bind fun q =>
 (Mp N a b c d) q.l' q.p'.Zt q.p'.ZD q.p'.ZE q.p'.ZF q.calls' q.first'.ZL q.first'.Zt q.first'.ZM (ZN (o+1))
 else Bm a b e f g h i j k l m
def TJ (N:Nat):Nat->(List Z3)->ByteArray->(List ByteArray)->(List Yg)->(List ZY)->(List ByteArray)->ByteArray->ByteArray->Int->Int->Option Z7
 | 0,_,_,_,_,_,_,_,_,_,_=>none
 | a+1,b,c,d,e,f,g,h,i,j,k =>
 bif decide (k < (e.length:Int)) then (ZW e k).bind fun l =>
 Mp N k (TJ N a) l N b c d e f g h i j 0
 else Bl b c d e f g h i j
def Mo (N:Nat) (a:List Z3) (b:ByteArray) (c:List ByteArray) (d:List Yg) (e:List ZY) (f:List ByteArray) (g:ByteArray) (h:ByteArray) (i:Int):Option Z7 :=
 TJ N N a b c d e f g h i 0
def Qr (N:Nat):Nat->(List Z3)->ByteArray->(List ByteArray)->(List Yg)->(List ZY)->(List ByteArray)->ByteArray->ByteArray->Int->(List ByteArray)->Int->Option Z7
 | 0,_,_,_,_,_,_,_,_,_,_,_=>none
 | a+1,b,c,d,e,f,g,h,i,j,k,l =>
 bif decide (l < (e.length:Int)) then (ZW e l).bind fun m =>
 (Uf N k m.Zt).bind fun o =>
 bif decide (o>=0) then (z53 N (⟨b,(⟨c,d,e,f⟩:Z3),g,(⟨h,i,j⟩:T9)⟩:Z7) m.Zt 9).bind fun p =>
 (YJ k ([m.Zt]:List ByteArray)).bind fun q =>
 (LJ N p m).bind fun r =>
 (Qr N a) r.l' r.p'.Zt r.p'.ZD r.p'.ZE r.p'.ZF r.calls' r.first'.ZL r.first'.Zt r.first'.ZM q (ZN (l+1))
 else (YJ k ([m.Zt]:List ByteArray)).bind fun s =>
 (LJ N (⟨b,(⟨c,d,e,f⟩:Z3),g,(⟨h,i,j⟩:T9)⟩:Z7) m).bind fun t =>
 (Qr N a) t.l' t.p'.Zt t.p'.ZD t.p'.ZE t.p'.ZF t.calls' t.first'.ZL t.first'.Zt t.first'.ZM s (ZN (l+1))
 else Mo N b c d e f g h i j
def Bj (N:Nat) (a:Z7):Option Z7 :=
 Qr N N a.l' a.p'.Zt a.p'.ZD a.p'.ZE a.p'.ZF a.calls' a.first'.ZL a.first'.Zt a.first'.ZM ([]:List ByteArray) 0
def ZbA (a:List ByteArray):Option (List ByteArray) :=
 some a
def ZbB (a:Int) (b:List ByteArray->Int->Option (List ByteArray)) (c:List ByteArray):Option (List ByteArray) :=
 b c (ZN (a+1))
def PC (rc:List ZY->Option (List ByteArray)) (a:List ZY) (b:Int) (c:List ByteArray->Int->Option (List ByteArray)):Nat->(List ByteArray)->Int->Option (List ByteArray)
 | 0,_,_=>none
 | d+1,e,f =>
 (ZW a b).bind fun g =>
 bif decide (f < (g.ZC.length:Int)) then (ZW a b).bind fun h =>
 (ZW h.ZC f).bind fun i =>
 (rc i).bind fun j =>
 (YJ e j).bind fun k =>
 (PC rc a b c d) k (ZN (f+1))
 else ZbB b c e
def LO (N:Nat) (rc:List ZY->Option (List ByteArray)) (a:List ZY) (b:Int) (c:List ByteArray->Int->Option (List ByteArray)) (d:List ByteArray):Option (List ByteArray) :=
 PC rc a b c N d 0
def TC (N:Nat) (rc:List ZY->Option (List ByteArray)) (a:List ZY):Nat->(List ByteArray)->Int->Option (List ByteArray)
 | 0,_,_=>none
 | b+1,c,d =>
 bif decide (d < (a.length:Int)) then (ZW a d).bind fun e =>
 bif e.Zq==6 then (ZW a d).bind fun f =>
 (YJ c ([f.Zt]:List ByteArray)).bind fun g =>
 LO N rc a d (TC N rc a b) g
 else LO N rc a d (TC N rc a b) c
 else ZbA c
def Dj (N:Nat) (rc:List ZY->Option (List ByteArray)) (a:List ZY):Option (List ByteArray) :=
 TC N rc a N ([]:List ByteArray) 0
def Rj:Nat->(List ZY)->Option (List ByteArray)
 | 0,_=>none
 | N+1,a0=>Dj N (Rj N) a0
def Zbz (N:Nat) (a:List ZY):Option (List ByteArray):=Rj N a
def Zdg:Option Bool :=
 some false
def Qs (rc:List Z3->ByteArray->Int->Option Bool) (a:List Z3) (b:Int) (c:List ByteArray):Nat->Int->Option Bool
 | 0,_=>none
 | d+1,e =>
 bif decide (e < (c.length:Int)) then bif b==0 then some true
 else (ZW c e).bind fun f =>
 (rc a f (ZN (b-1))).bind fun g =>
 bif g then some true
 else (Qs rc a b c d) (ZN (e+1))
 else Zdg
def Mr (N:Nat) (rc:List Z3->ByteArray->Int->Option Bool) (a:List Z3) (b:ByteArray) (c:Int):Option Bool :=
 (LN N a b).bind fun d =>
 bif !d.2 then some false
 else (Zbz N d.1.ZF).bind fun e =>
 Qs rc a c e N 0
def Qt:Nat->(List Z3)->ByteArray->Int->Option Bool
 | 0,_,_,_=>none
 | N+1,a0,a1,a2=>Mr N (Qt N) a0 a1 a2
def z57 (N:Nat) (a:List Z3) (b:ByteArray) (c:Int):Option Bool:=Qt N a b c
def ZgO:Option T9 :=
 some (⟨(str []),(str []),0⟩:T9)
def DX (a:Int) (b:Int->Option T9) (c:List Z3) (d:ByteArray) (e:List ByteArray) (f:List Yg) (g:List ZY) (h:List ByteArray) (i:ByteArray) (j:ByteArray) (k:Int):Option T9 :=
 bif k != 0 then some (⟨i,j,k⟩:T9)
 else b (ZN (a+1))
def Hj (N:Nat) (a:List Z3) (b:Int) (c:Int->Option T9) (d:List Z3) (e:ByteArray) (f:List ByteArray) (g:List Yg) (h:List ZY) (i:List ByteArray) (j:ByteArray) (k:ByteArray) (l:Int):Option T9 :=
 (Bj N (⟨d,(⟨e,f,g,h⟩:Z3),i,(⟨j,k,l⟩:T9)⟩:Z7)).bind fun m =>
 (z56 N m m.p'.ZF ([]:List ByteArray) 0 0).bind fun o =>
 (z57 N a o.p'.Zt 4).bind fun p =>
 bif p then (z53 N o o.p'.Zt 6).bind fun q =>
 DX b c q.l' q.p'.Zt q.p'.ZD q.p'.ZE q.p'.ZF q.calls' q.first'.ZL q.first'.Zt q.first'.ZM
 else DX b c o.l' o.p'.Zt o.p'.ZD o.p'.ZE o.p'.ZF o.calls' o.first'.ZL o.first'.Zt o.first'.ZM
def Qn (N:Nat) (a:List Z3) (b:Int) (c:Int->Option T9):Nat->(List Z3)->ByteArray->(List ByteArray)->(List Yg)->(List ZY)->(List ByteArray)->ByteArray->ByteArray->Int->Int->Option T9
 | 0,_,_,_,_,_,_,_,_,_,_=>none
 | d+1,e,f,g,h,i,j,k,l,m,o =>
 bif decide (o < (g.length:Int)) then (lsl g none (some o)).bind fun p =>
 (ZW g o).bind fun q =>
 (Uf N p q).bind fun r =>
 bif decide (r>=0) then (ZW g o).bind fun s =>
 (z53 N (⟨e,(⟨f,g,h,i⟩:Z3),j,(⟨k,l,m⟩:T9)⟩:Z7) s 9).bind fun t =>
 (Qn N a b c d) t.l' t.p'.Zt t.p'.ZD t.p'.ZE t.p'.ZF t.calls' t.first'.ZL t.first'.Zt t.first'.ZM (ZN (o+1))
 else (Qn N a b c d) e f g h i j k l m (ZN (o+1))
 else Hj N a b c e f g h i j k l m
def Hk (N:Nat) (a:List Z3) (b:Int) (c:Int->Option T9) (d:List Z3) (e:ByteArray) (f:List ByteArray) (g:List Yg) (h:List ZY) (i:List ByteArray) (j:ByteArray) (k:ByteArray) (l:Int):Option T9 :=
 Qn N a b c N d e f g h i j k l 0
def Rv (N:Nat) (a:List Z3) (b:Int) (c:Int->Option T9):Nat->(List Z3)->ByteArray->(List ByteArray)->(List Yg)->(List ZY)->(List ByteArray)->ByteArray->ByteArray->Int->Int->Option T9
 | 0,_,_,_,_,_,_,_,_,_,_=>none
 | d+1,e,f,g,h,i,j,k,l,m,o =>
 bif decide (o < b) then (ZW a o).bind fun p =>
 bif p.Zt.toList==f.toList then (z53 N (⟨e,(⟨f,g,h,i⟩:Z3),j,(⟨k,l,m⟩:T9)⟩:Z7) f 9).bind fun q =>
 (Rv N a b c d) q.l' q.p'.Zt q.p'.ZD q.p'.ZE q.p'.ZF q.calls' q.first'.ZL q.first'.Zt q.first'.ZM (ZN (o+1))
 else (Rv N a b c d) e f g h i j k l m (ZN (o+1))
 else Hk N a b c e f g h i j k l m
def VS (N:Nat) (a:List Z3):Nat->Int->Option T9
 | 0,_=>none
 | b+1,c =>
 bif decide (c < (a.length:Int)) then (ZW a c).bind fun d =>
 Rv N a c (VS N a b) N a d.Zt d.ZD d.ZE d.ZF ([]:List ByteArray) (str []) (str []) 0 0
 else ZgO
def P9 (N:Nat) (a:List Z3):Option T9 :=
 (Bi N a).bind fun b =>
 bif !b then some (⟨(str []),(str []),1⟩:T9)
 else VS N a N 0
def Zha:Option Int :=
 some (-1)
def Zhb (a:Int) (b:Int->Option Int):Option Int :=
 b (ZN (a+1))
def Ms (a:List T0) (b:Yq) (c:Int) (d:Int->Option Int):Nat->Int->Option Int
 | 0,_=>none
 | e+1,f =>
 (ZW a c).bind fun g =>
 bif decide (f < (g.Zy.length:Int)) then (ZW a c).bind fun h =>
 (ZW h.Zy f).bind fun i =>
 bif i.Zt.toList==b.Field.toList then (ZW a c).bind fun j =>
 some (ZN (j.ZJ+f))
 else (Ms a b c d e) (ZN (f+1))
 else Zhb c d
def Qv (N:Nat) (a:List T0) (b:Yq) (c:Int) (d:Int->Option Int) (e:Bool):Option Int :=
 bif e then d (ZN (c+1))
 else Ms a b c d N 0
def Uz (N:Nat) (a:List T0) (b:Int) (c:Yq):Nat->Int->Option Int
 | 0,_=>none
 | d+1,e =>
 bif decide (e < (a.length:Int)) then (ZW a e).bind fun f =>
 bif !(f.Zt.toList==c.Zv.toList) then bif !(c.Zv.toList==(str []).toList) then Qv N a c e (Uz N a b c d) true
 else Qv N a c e (Uz N a b c d) (e != b)
 else Qv N a c e (Uz N a b c d) false
 else Zha
def Qu (N:Nat) (a:List T0) (b:Int) (c:Yq):Option Int :=
 bif c.Zq==1 then some (-1)
 else Uz N a b c N 0
def Zdj (a:Int):Option Int :=
 some a
def Mu (a:List T0):Nat->Int->Int->Option Int
 | 0,_,_=>none
 | b+1,c,d =>
 bif decide (d < (a.length:Int)) then (ZW a d).bind fun e =>
 (Mu a b) (ZN (c+(e.Zy.length:Int))) (ZN (d+1))
 else Zdj c
def HF (N:Nat) (a:List T0):Option Int :=
 Mu a N 0 0
def Zga:Option T2 :=
 some (⟨(str []),(⟨0,0,0⟩:T4)⟩:T2)
def PD (a:List T0):Nat->Int->Int->Option T2
 | 0,_,_=>none
 | b+1,c,d =>
 bif decide (d < (a.length:Int)) then (ZW a d).bind fun e =>
 bif decide (c < (e.Zy.length:Int)) then (ZW a d).bind fun f =>
 (ZW f.Zy c).bind fun g =>
 some g
 else (ZW a d).bind fun h =>
 (PD a b) (ZN (c-(h.Zy.length:Int))) (ZN (d+1))
 else Zga
def Dk (N:Nat) (a:List T0) (b:Int):Option T2 :=
 PD a N b 0
def VU (N:Nat) (a:List T0) (b:Int):Option Bool :=
 bif decide (b>=0) then (HF N a).bind fun c =>
 bif decide (b < c) then (Dk N a b).bind fun d =>
 some (d.Zu.Zq==2)
 else some false
 else some false
def Hl (a:Wu) (b:T3) (c:Int) (d:Int) (e:Bool):Option T3 :=
 bif e then (YJ b.ZI ([(c,d)]:List (Int × Int))).bind fun f =>
 some (⟨b.ZH,f⟩:T3)
 else bif a.Op.toList==(str [60]).toList then (YJ b.ZH ([(⟨c,d,(ZN ((ZN (a.Zx.N-a.Zw.N))-1))⟩:T1)]:List T1)).bind fun g =>
 some (⟨g,b.ZI⟩:T3)
 else bif a.Op.toList==(str [60,61]).toList then (YJ b.ZH ([(⟨c,d,(ZN (a.Zx.N-a.Zw.N))⟩:T1)]:List T1)).bind fun h =>
 some (⟨h,b.ZI⟩:T3)
 else bif a.Op.toList==(str [62]).toList then (YJ b.ZH ([(⟨d,c,(ZN ((ZN (0-(ZN (a.Zx.N-a.Zw.N))))-1))⟩:T1)]:List T1)).bind fun i =>
 some (⟨i,b.ZI⟩:T3)
 else bif a.Op.toList==(str [62,61]).toList then (YJ b.ZH ([(⟨d,c,(ZN (0-(ZN (a.Zx.N-a.Zw.N))))⟩:T1)]:List T1)).bind fun j =>
 some (⟨j,b.ZI⟩:T3)
 else (YJ b.ZH ([(⟨c,d,(ZN (a.Zx.N-a.Zw.N))⟩:T1),(⟨d,c,(ZN (0-(ZN (a.Zx.N-a.Zw.N))))⟩:T1)]:List T1)).bind fun k =>
 some (⟨k,b.ZI⟩:T3)
def DY (N:Nat) (a:List T0) (b:Int) (c:Wu) (d:T3):Option T3 :=
 (Qu N a b c.Zw).bind fun e =>
 (Qu N a b c.Zx).bind fun f =>
 bif c.Zw.Zq==2 then (VU N a e).bind fun g =>
 Hl c d e f g
 else Hl c d e f false
def ZcR (a:T3):Option Bool :=
 bif decide ((a.ZH.length:Int)<=20) then some (decide ((a.ZI.length:Int)<=20))
 else some false
def Mb (N:Nat) (a:List T0) (b:T3):Nat->Int->Option Bool
 | 0,_=>none
 | c+1,d =>
 bif decide (d < (b.ZI.length:Int)) then (ZW b.ZI d).bind fun e =>
 (VU N a e.1).bind fun f =>
 bif !f then some false
 else (ZW b.ZI d).bind fun g =>
 (VU N a g.2).bind fun h =>
 bif !h then some false
 else (Mb N a b c) (ZN (d+1))
 else ZcR b
def ZcS (N:Nat) (a:List T0) (b:T3):Option Bool :=
 Mb N a b N 0
def Mc (N:Nat) (a:List T0) (b:T3) (c:Int):Nat->Int->Option Bool
 | 0,_=>none
 | d+1,e =>
 bif decide (e < (b.ZH.length:Int)) then (ZW b.ZH e).bind fun f =>
 bif decide (f.X < (-1)) then some false
 else bif decide (f.X>=c) then some false
 else bif decide (f.Y < (-1)) then some false
 else bif decide (f.Y>=c) then some false
 else bif decide (f.C < (-20000)) then some false
 else bif decide (f.C > 20000) then some false
 else (Mc N a b c d) (ZN (e+1))
 else ZcS N a b
def Ma (N:Nat) (a:List T0) (b:T3):Option Bool :=
 (HF N a).bind fun c =>
 Mc N a b c N 0
def UB (N:Nat) (b:List Yg) (ds:List T0) (i:Int):Nat->Int->T3->Option T3
 | 0,_,_=>none
 | n+1,k,g=>(ZW b i).bind fun m=>bif decide (k < (m.Zz.length:Int)) then ((ZW m.Zz k).bind fun a=>(DY N ds i a g).bind fun g'=>UB N b ds i n (ZN (k+1)) g') else some g
def SG (N:Nat) (a:List Yg) (ds:List T0):Nat->Int->List T3->Option (List T0 × ByteArray × Int)
 | 0,_,_=>none
 | n+1,i,G=>bif decide (i < (a.length:Int)) then (bif decide (i=(G.length:Int)) then ((ZW ds i).bind fun _=>(UB N a ds i N 0 ⟨[],[]⟩).bind fun g=>(Ma N ds g).bind fun ok =>
   bif !ok then ((ZW a i).bind fun m=>some ([],m.Zt,2)) else SG N a ds n (ZN (i+1)) (G++[g])) else none)
   else bif Nat.beq G.length ds.length then some (Xv ds G,str [],0) else none
def BK (N:Nat) (a:List Yg) (ds:List T0) (n:Int):Option (List T0 × ByteArray × Int) :=
 bif decide (n > 24) then some ([],str [],6) else SG N a (ds.map Xg) N 0 []
def Qy (N:Nat) (a:List Yg):Nat->List T0->Int->Int->Option (List T0 × ByteArray × Int)
 | 0,_,_,_=>none
 | n+1,ds,c,i=>bif decide (i < (a.length:Int)) then ((ZW a i).bind fun m=>(YJ [] m.Zy).bind fun fs=>(YJ ds [⟨m.Zt,fs,c,⟨[],[]⟩⟩]).bind fun ds' =>
   Qy N a n ds' (ZN (c+(m.Zy.length:Int))) (ZN (i+1)))
   else BK N a ds c
def z8 (N:Nat) (a:List Yg):Option (List T0 × ByteArray × Int) :=
 (P9 N [⟨(str [80]),[(str [65])],a,[]⟩]).bind fun b=>bif b.ZM != 0 then some ([],str [],1) else Qy N a N [] 0 0
def ZcT:Option Bool :=
 some true
def Hm (a:List T1) (b:List T1):Nat->Int->Option Bool
 | 0,_=>none
 | c+1,d =>
 bif decide (d < (a.length:Int)) then (ZW a d).bind fun e =>
 (ZW b d).bind fun f =>
 bif !((e.X==f.X) && ((e.Y==f.Y) && ((e.C==f.C) && true))) then some false
 else (Hm a b c) (ZN (d+1))
 else ZcT
def DZ (N:Nat) (a:List T1) (b:List T1):Option Bool :=
 bif (a.length:Int) != (b.length:Int) then some false
 else Hm a b N 0
def ZdQ:Option Bool :=
 some true
def ZdR (a:Int) (b:Int->Option Bool):Option Bool :=
 b (ZN (a+1))
def HQ (a:Int) (b:Int->Option Bool) (c:T0) (d:T0):Nat->Int->Option Bool
 | 0,_=>none
 | e+1,f =>
 bif decide (f < (c.ZK.ZI.length:Int)) then (ZW c.ZK.ZI f).bind fun g =>
 (ZW d.ZK.ZI f).bind fun h =>
 bif !((g.1==h.1) && ((g.2==h.2) && true)) then some false
 else (HQ a b c d e) (ZN (f+1))
 else ZdR a b
def ZdS (N:Nat) (a:Int) (b:Int->Option Bool) (c:T0) (d:T0):Option Bool :=
 HQ a b c d N 0
def HR (N:Nat) (a:Int) (b:Int->Option Bool) (c:T0) (d:T0):Nat->Int->Option Bool
 | 0,_=>none
 | e+1,f =>
 bif decide (f < (c.Zy.length:Int)) then (ZW c.Zy f).bind fun g =>
 (ZW d.Zy f).bind fun h =>
 bif !((g.Zt.toList==h.Zt.toList) && (((g.Zu.Zq==h.Zu.Zq) && ((g.Zu.Lo==h.Zu.Lo) && ((g.Zu.Hi==h.Zu.Hi) && true))) && true)) then some false
 else (HR N a b c d e) (ZN (f+1))
 else ZdS N a b c d
def SI (N:Nat) (a:List T0) (b:List T0):Nat->Int->Option Bool
 | 0,_=>none
 | c+1,d =>
 bif decide (d < (a.length:Int)) then (ZW a d).bind fun e =>
 (ZW b d).bind fun f =>
 bif !(e.Zt.toList==f.Zt.toList) then some false
 else bif e.ZJ != f.ZJ then some false
 else bif (e.Zy.length:Int) != (f.Zy.length:Int) then some false
 else (DZ N e.ZK.ZH f.ZK.ZH).bind fun g =>
 bif !g then some false
 else bif (e.ZK.ZI.length:Int) != (f.ZK.ZI.length:Int) then some false
 else HR N d (SI N a b c) e f N 0
 else ZdQ
def z9 (N:Nat) (a:List T0) (b:List T0):Option Bool :=
 bif (a.length:Int) != (b.length:Int) then some false
 else SI N a b N 0
def z10 (N:Nat) (a:List T0) (b:Int):Option ((List T1) × Int) :=
 bif decide (b < 0) then some (([]:List T1),1)
 else bif decide (b>=(a.length:Int)) then some (([]:List T1),1)
 else (Hn N a).bind fun c =>
 bif !c then some (([]:List T1),1)
 else (ZW a b).bind fun d =>
 (D2 N d).bind fun e =>
 some (e,0)
def S3 (N:Nat) (a:List Yg):Option Bool :=
 (z4 N).bind fun b =>
 bif !b then (z4 N).bind fun c =>
 some c
 else (z5 N ([(⟨(str [80]),([(str [65])]:List ByteArray),a,([]:List ZY)⟩:Z3)]:List Z3)).bind fun d =>
 bif !d then (z4 N).bind fun e =>
 some e
 else (z7 N ([(⟨(str [80]),([(str [65])]:List ByteArray),a,([]:List ZY)⟩:Z3)]:List Z3)).bind fun f =>
 (ZW f 0).bind fun g =>
 (z6 N g.ZE).bind fun h =>
 (z8 N a).bind fun i =>
 bif !(h.2.1.toList==i.2.1.toList) then some false
 else bif h.2.2 != i.2.2 then some false
 else (z9 N h.1 i.1).bind fun j =>
 bif !j then some false
 else bif (h.1.length:Int)==0 then some true
 else (z10 N h.1 0).bind fun k =>
 some (k.2==0)
end Gx
end
