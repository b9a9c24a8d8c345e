/- What each function of the statement computes, as plain definitions. -/
import Derived.Test.YtdomlpmomldmhaaGreatDoorBlameShowCore3
set_option linter.all false
section
open Go Go.Kx
namespace Gx
def digN:Nat→Nat→List UInt8
 | 0,_=>[]
 | f+1,u=>bif Nat.blt u 10 then [UInt8.ofNat (48+u)] else digN f (u / 10)++[UInt8.ofNat (48+u % 10)]
def itoaS (n:Int):ByteArray:=⟨(bif decide (n < 0) then 45::digN 25 n.natAbs else digN 25 n.toNat).toArray⟩
def joinL (sep:List UInt8):List (List UInt8)→List UInt8
 | []=>[]
 | x::r=>x++(r.map (sep++·)).flatten
def quoB (b:UInt8):List UInt8:=if b=34∨b=92 then [92,b] else [b]
def quoL (l:List UInt8):List UInt8:=(l.map quoB).flatten
structure T10 where
  Kind:Int
  Lo:Int
  Hi:Int
structure T4 where
  Name:ByteArray
  Sort':T10
structure T1 where
  X:Int
  Y:Int
  C:Int
structure T6 where
  Diffs:(List T1)
  Equals:(List (Int × Int))
structure T0 where
  Name:ByteArray
  Fields:(List T4)
  First:Int
  Guard:T6
structure T7 where
  From:Int
  To:Int
  Label:Int
structure T2 where
  From:Int
  Act:T7
  To:Int
  Again:Bool
structure T11 where
  State:Int
  Ticks:Int
  Else:Int
structure T5 where
  Name:ByteArray
  Roles:(List ByteArray)
  Decls:(List T0)
  States:Int
  Start:Int
  End:Int
  Edges:(List T2)
  Timeouts:(List T11)
structure T9 where
  From:Int
  Send:Bool
  Peer:Int
  Label:Int
  To:Int
  Again:Bool
structure T8 where
  Role:Int
  States:Int
  Start:Int
  Finals:(List Bool)
  Moves:(List T9)
  Timeouts:(List T11)
structure T12 where
  Kind:Int
  N:Int
  S:ByteArray
structure T3 where
  Role:Int
  Send:Bool
  Peer:Int
  Label:Int
  Values:(List T12)
structure T13 where
  At:Int
  Kind:Int
  Part:Int
  Role:Int
structure T16 where
  At:Int
  Known:(List T12)
  Pending:(List T12)
structure T15 where
  Machine:T8
  out':(List (List Int))
structure T14 where
  send':Bool
  peer':Int
  label':Int
def z83 (N:Nat) (n_:Int):Option T12 :=
 some (⟨(1:Int),n_,(str [])⟩:T12)
def z292 (N:Nat) (c_:Int):Option Bool :=
 bif (decide ((97:Int)≤c_)) then (bif (decide (c_≤(122:Int))) then (some true)
 else bif (decide ((65:Int)≤c_)) then (some (decide (c_≤(90:Int))))
 else some false)
 else bif (decide ((65:Int)≤c_)) then (some (decide (c_≤(90:Int))))
 else some false
def z312 (N:Nat) (c_:Int):Option Bool :=
 bif (decide ((48:Int)≤c_)) then (some (decide (c_≤(57:Int))))
 else some false
def z293 (N:Nat) (c_:Int):Option Bool :=
 (z292 N c_).bind fun x1 =>
 bif x1 then (some true)
 else (z312 N c_).bind fun x2 =>
 bif x2 then (some true)
 else some (c_==(95:Int))
def z268_k1:Option Bool :=
 some true
def z268_l2 (N:Nat) (s_:ByteArray):Nat→Int→Option Bool
 | 0,_=>none
 | n2+1,v19_3 =>
 bif (decide (v19_3 < (s_.size:Int))) then ((sidx s_ v19_3).bind fun x19 =>
 (z293 N x19).bind fun x20 =>
 bif (!x20) then (some false)
 else (z268_l2 N s_ n2) (w64 (v19_3+(1:Int))))
 else z268_k1
def z268 (N:Nat) (s_:ByteArray):Option Bool :=
 bif (s_.toList==(str []).toList) then (some false)
 else bif (decide ((s_.size:Int) > (16:Int))) then (some false)
 else (sidx s_ (0:Int)).bind fun x1 =>
 (z292 N x1).bind fun x2 =>
 bif (!x2) then (some false)
 else z268_l2 N s_ N (0:Int)
def z278_k1:Option Int :=
 some (-1:Int)
def z278_l2 (s_:(List ByteArray)) (v_:ByteArray):Nat→Int→Option Int
 | 0,_=>none
 | n2+1,v8_3 =>
 bif (decide (v8_3 < (s_.length:Int))) then ((idx s_ v8_3).bind fun x9 =>
 bif (v_.toList==x9.toList) then (some v8_3)
 else (z278_l2 s_ v_ n2) (w64 (v8_3+(1:Int))))
 else z278_k1
def z278 (N:Nat) (s_:(List ByteArray)) (v_:ByteArray):Option Int :=
 z278_l2 s_ v_ N (0:Int)
def z257 (N:Nat) (s_:(List ByteArray)) (v_:ByteArray):Option Bool :=
 (z278 N s_ v_).bind fun x1 =>
 some (decide (x1≥(0:Int)))
def z220 (N:Nat) (s_:ByteArray):Option Bool :=
 (z268 N s_).bind fun x1 =>
 bif x1 then ((z257 N ([(str [97,103,97,105,110]),(str [97,110,100]),(str [97,115]),(str [97,116]),(str [99,97,108,108]),(str [99,104,111,105,99,101]),(str [101,108,115,101]),(str [102,114,111,109]),(str [105,102]),(str [105,110,116]),(str [108,101,110]),(str [108,111,111,112]),(str [109,101,115,115,97,103,101]),(str [111,102]),(str [111,102,102,101,114]),(str [111,110]),(str [111,114]),(str [112,97,114]),(str [112,108,97,121,115]),(str [112,114,111,116,111,99,111,108]),(str [115,101,114,118,105,99,101]),(str [116,101,120,116]),(str [116,105,109,101,115]),(str [116,111]),(str [118,97,114]),(str [119,104,101,114,101]),(str [119,104,105,108,101]),(str [119,105,116,104,105,110])]:List ByteArray) s_).bind fun x2 =>
 some (!x2))
 else some false
def z204_k1:Option Bool :=
 some true
def z204_l2 (N:Nat) (g_:T5):Nat→Int→Option Bool
 | 0,_=>none
 | n2+1,v24_3 =>
 bif (decide (v24_3 < (g_.Roles.length:Int))) then ((idx g_.Roles v24_3).bind fun x34 =>
 (z220 N x34).bind fun x35 =>
 bif (!x35) then (some false)
 else (lsl g_.Roles none (some v24_3)).bind fun x36 =>
 (z257 N x36 x34).bind fun x37 =>
 bif x37 then (some false)
 else (z204_l2 N g_ n2) (w64 (v24_3+(1:Int))))
 else z204_k1
def z204 (N:Nat) (g_:T5):Option Bool :=
 (z220 N g_.Name).bind fun x1 =>
 bif (!x1) then (some false)
 else bif (decide ((g_.Roles.length:Int) < (1:Int))) then (some false)
 else bif (decide ((g_.Roles.length:Int) > (6:Int))) then (some false)
 else z204_l2 N g_ N (0:Int)
def z205_k1:Option Bool :=
 some true
def z205_l2 (g_:T5):Nat→Int→Option Bool
 | 0,_=>none
 | n2+1,v41_3 =>
 bif (decide (v41_3 < (g_.Edges.length:Int))) then ((idx g_.Edges v41_3).bind fun x9 =>
 bif (decide ((minI (minI (minI (minI x9.From x9.To) x9.Act.From) x9.Act.To) x9.Act.Label) < (0:Int))) then (some false)
 else bif (decide ((maxI x9.From x9.To)≥g_.States)) then (some false)
 else bif (decide ((maxI x9.Act.From x9.Act.To)≥(g_.Roles.length:Int))) then (some false)
 else bif (x9.Act.From==x9.Act.To) then (some false)
 else bif (decide (x9.Act.Label≥(g_.Decls.length:Int))) then (some false)
 else (z205_l2 g_ n2) (w64 (v41_3+(1:Int))))
 else z205_k1
def z205 (N:Nat) (g_:T5):Option Bool :=
 bif (decide (g_.States < (1:Int))) then (some false)
 else bif (decide (g_.States > (200:Int))) then (some false)
 else bif (decide ((minI g_.Start g_.End) < (0:Int))) then (some false)
 else bif (decide ((maxI g_.Start g_.End)≥g_.States)) then (some false)
 else bif (decide ((g_.Edges.length:Int) > (400:Int))) then (some false)
 else z205_l2 g_ N (0:Int)
def z158_k1 (v3_1:(List T4)):Option (List T4) :=
 some v3_1
def z158_l2 (l_:(List T0)):Nat→(List T4)→Int→Option (List T4)
 | 0,_,_=>none
 | n2+1,v3_3,v8_3 =>
 bif (decide (v8_3 < (l_.length:Int))) then ((idx l_ v8_3).bind fun x17 =>
 (appL v3_3 x17.Fields).bind fun x18 =>
 (z158_l2 l_ n2) x18 (w64 (v8_3+(1:Int))))
 else z158_k1 v3_3
def z158 (N:Nat) (l_:(List T0)):Option (List T4) :=
 z158_l2 l_ N ([]:List T4) (0:Int)
def z318_k1 (v2_1:Int) (vi0_1:Nat):Option Int :=
 some v2_1
def z318_l2 (s_:ByteArray):Nat→Int→Nat→Option Int
 | 0,_,_=>none
 | n2+1,v2_3,vi0_3 =>
 bif decide (vi0_3 < s_.size) then ((z318_l2 s_ n2) (w64 (v2_3+(1:Int))) (vi0_3+(Utf8.decode s_ vi0_3).2))
 else z318_k1 v2_3 vi0_3
def z318 (N:Nat) (s_:ByteArray):Option Int :=
 z318_l2 s_ N (0:Int) (0:Nat)
def z324 (N:Nat) (s_:ByteArray):Option (Int × Int) :=
 bif (decide ((s_.size:Int) < (1:Int))) then (some ((65533:Int),(0:Int)))
 else (sidx s_ (0:Int)).bind fun x1 =>
 dead 0
def z319 (N:Nat) (s_:ByteArray):Option (Int × Int) :=
 bif (!(s_.toList==(str []).toList)) then ((sidx s_ (0:Int)).bind fun x1 =>
 bif (decide (x1 < (128:Int))) then ((sidx s_ (0:Int)).bind fun x2 =>
 some ((wk .i32 (x2)),(1:Int)))
 else (z324 N s_).bind fun x3 =>
 some (x3.1,x3.2))
 else (z324 N s_).bind fun x4 =>
 some (x4.1,x4.2)
def z309_k1 (v1_2:Int) (v0_3:ByteArray) (v6_3:(List ByteArray)):Option (List ByteArray) :=
 bif (decide (v1_2 > (0:Int))) then ((idx v6_3 (w64 (v1_2-(1:Int)))).bind fun x19 =>
 some (setL' v6_3 (w64 (v1_2-(1:Int))) v0_3))
 else some v6_3
def z309_l2 (N:Nat) (v1_2:Int):Nat→ByteArray→(List ByteArray)→Int→Option (List ByteArray)
 | 0,_,_,_=>none
 | n2+1,v0_5,v6_5,v7_5 =>
 bif (decide (v7_5 < (w64 (v1_2-(1:Int))))) then ((z319 N v0_5).bind fun x36 =>
 (ssl v0_5 none (some x36.2)).bind fun x37 =>
 (idx v6_5 v7_5).bind fun x38 =>
 (ssl v0_5 (some x36.2) none).bind fun x39 =>
 (z309_l2 N v1_2 n2) x39 (setL' v6_5 v7_5 x37) (w64 (v7_5+(1:Int))))
 else z309_k1 v1_2 v0_5 v6_5
def z309_k3 (N:Nat) (s_:ByteArray) (v1_2:Int):Option (List ByteArray) :=
 (mkL (str []) v1_2 v1_2).bind fun x2 =>
 z309_l2 N v1_2 N s_ x2 (0:Int)
def z309_k4 (N:Nat) (s_:ByteArray) (n_:Int) (x1:Int) (v18_1:Bool):Option (List ByteArray) :=
 bif v18_1 then (z309_k3 N s_ x1)
 else z309_k3 N s_ n_
def z309 (N:Nat) (s_:ByteArray) (n_:Int):Option (List ByteArray) :=
 (z318 N s_).bind fun x1 =>
 bif (decide (n_ < (0:Int))) then (z309_k4 N s_ n_ x1 true)
 else z309_k4 N s_ n_ x1 (decide (n_ > x1))
def z325 (N:Nat) (s_:ByteArray) (c_:Int):Option Int :=
 some (firstB s_ c_)
def z321 (N:Nat) (s_:ByteArray) (substr_:ByteArray):Option Int :=
 bif ((substr_.size:Int)==(0:Int)) then (some (0:Int))
 else bif (substr_.toList==s_.toList) then (some (0:Int))
 else bif ((substr_.size:Int)==(1:Int)) then ((sidx substr_ (0:Int)).bind fun x1 =>
 (z325 N s_ x1).bind fun x2 =>
 some x2)
 else bif (decide ((substr_.size:Int)≥(s_.size:Int))) then (some (-1:Int))
 else dead 0
def z311 (N:Nat) (s_:ByteArray) (substr_:ByteArray):Option Int :=
 (z321 N s_ substr_).bind fun x1 =>
 some x1
def z310_l1 (N:Nat) (substr_:ByteArray):Nat→ByteArray→Int→Option Int
 | 0,_,_=>none
 | n1+1,v0_1,v5_1 =>
 (z311 N v0_1 substr_).bind fun x11 =>
 bif (x11==(-1:Int)) then (some v5_1)
 else (ssl v0_1 (some (w64 (x11+(substr_.size:Int)))) none).bind fun x12 =>
 (z310_l1 N substr_ n1) x12 (w64 (v5_1+(1:Int)))
def z310 (N:Nat) (s_:ByteArray) (substr_:ByteArray):Option Int :=
 bif ((substr_.size:Int)==(0:Int)) then ((z318 N s_).bind fun x1 =>
 some (w64 (x1+(1:Int))))
 else bif ((substr_.size:Int)==(1:Int)) then ((sidx substr_ (0:Int)).bind fun x2 =>
 some (countB s_ x2))
 else z310_l1 N substr_ N s_ (0:Int)
def z291_k1 (v0_2:ByteArray) (v9_2:(List ByteArray)) (v10_2:Int):Option (List ByteArray) :=
 (idx v9_2 v10_2).bind fun x20 =>
 (lsl (setL' v9_2 v10_2 v0_2) none (some (w64 (v10_2+(1:Int))))).bind fun x21 =>
 some x21
def z291_l2 (N:Nat) (s_:ByteArray) (sep_:ByteArray) (sepSave_:Int) (v3_1:Int):Nat→ByteArray→(List ByteArray)→Int→Option (List ByteArray)
 | 0,_,_,_=>none
 | n2+1,v0_4,v9_4,v10_4 =>
 bif (decide (v10_4 < (w64 ((minI v3_1 (w64 ((s_.size:Int)+(1:Int))))-(1:Int))))) then ((z311 N v0_4 sep_).bind fun x38 =>
 bif (decide (x38 < (0:Int))) then (z291_k1 v0_4 v9_4 v10_4)
 else (ssl v0_4 none (some (w64 (x38+sepSave_)))).bind fun x39 =>
 (idx v9_4 v10_4).bind fun x40 =>
 (ssl v0_4 (some (w64 (x38+(sep_.size:Int)))) none).bind fun x41 =>
 (z291_l2 N s_ sep_ sepSave_ v3_1 n2) x41 (setL' v9_4 v10_4 x39) (w64 (v10_4+(1:Int))))
 else z291_k1 v0_4 v9_4 v10_4
def z291_k3 (N:Nat) (s_:ByteArray) (sep_:ByteArray) (sepSave_:Int) (v3_1:Int):Option (List ByteArray) :=
 (mkL (str []) (minI v3_1 (w64 ((s_.size:Int)+(1:Int)))) (minI v3_1 (w64 ((s_.size:Int)+(1:Int))))).bind fun x3 =>
 z291_l2 N s_ sep_ sepSave_ v3_1 N s_ x3 (0:Int)
def z291 (N:Nat) (s_:ByteArray) (sep_:ByteArray) (sepSave_:Int) (n_:Int):Option (List ByteArray) :=
 bif (n_==(0:Int)) then (some ([]:List ByteArray))
 else bif (sep_.toList==(str []).toList) then ((z309 N s_ n_).bind fun x1 =>
 some x1)
 else bif (decide (n_ < (0:Int))) then ((z310 N s_ sep_).bind fun x42 =>
 z291_k3 N s_ sep_ sepSave_ (w64 (x42+(1:Int))))
 else z291_k3 N s_ sep_ sepSave_ n_
def z265 (N:Nat) (s_:ByteArray) (sep_:ByteArray):Option (List ByteArray) :=
 (z291 N s_ sep_ (0:Int) (-1:Int)).bind fun x1 =>
 some x1
def z266 (N:Nat) (w_:ByteArray):Option Bool :=
 (z220 N w_).bind fun x1 =>
 some (!x1)
def z290_0_k1:Option Int :=
 some (-1:Int)
def z290_0_l2 (N:Nat) (s_:(List ByteArray)):Nat→Int→Option Int
 | 0,_=>none
 | n2+1,v8_3 =>
 bif (decide (v8_3 < (s_.length:Int))) then ((idx s_ v8_3).bind fun x17 =>
 (z266 N x17).bind fun x18 =>
 bif x18 then (some v8_3)
 else (z290_0_l2 N s_ n2) (w64 (v8_3+(1:Int))))
 else z290_0_k1
def z290_0 (N:Nat) (s_:(List ByteArray)):Option Int :=
 z290_0_l2 N s_ N (0:Int)
def z264_1 (N:Nat) (s_:(List ByteArray)):Option Bool :=
 (z290_0 N s_).bind fun x1 =>
 some (decide (x1≥(0:Int)))
def z217 (N:Nat) (s_:ByteArray):Option Bool :=
 bif (decide ((s_.size:Int)≤(50:Int))) then ((z265 N s_ (str [46])).bind fun x1 =>
 (z264_1 N x1).bind fun x2 =>
 some (!x2))
 else some false
def z219_2 (N:Nat) (x_:T0) (c0_:T0):Option Bool :=
 some (x_.Name.toList==c0_.Name.toList)
def z267_3_k1:Option Int :=
 some (-1:Int)
def z267_3_l2 (N:Nat) (s_:(List T0)) (c0_:T0):Nat→Int→Option Int
 | 0,_=>none
 | n2+1,v8_3 =>
 bif (decide (v8_3 < (s_.length:Int))) then ((idx s_ v8_3).bind fun x17 =>
 (z219_2 N x17 c0_).bind fun x18 =>
 bif x18 then (some v8_3)
 else (z267_3_l2 N s_ c0_ n2) (w64 (v8_3+(1:Int))))
 else z267_3_k1
def z267_3 (N:Nat) (s_:(List T0)) (c0_:T0):Option Int :=
 z267_3_l2 N s_ c0_ N (0:Int)
def z218_4 (N:Nat) (s_:(List T0)) (c0_:T0):Option Bool :=
 (z267_3 N s_ c0_).bind fun x1 =>
 some (decide (x1≥(0:Int)))
def z221 (N:Nat) (s_:T10):Option Bool :=
 bif (s_.Kind==(1:Int)) then (bif (decide (s_.Lo≥(-1000:Int))) then (bif (decide (s_.Lo≤s_.Hi)) then (some (decide (s_.Hi≤(1000:Int))))
 else some false)
 else some false)
 else bif (s_.Kind==(2:Int)) then (bif (decide (s_.Lo≥(0:Int))) then (bif (decide (s_.Lo≤s_.Hi)) then (some (decide (s_.Hi≤(40:Int))))
 else some false)
 else some false)
 else some false
def z223_5 (N:Nat) (x_:T4) (c0_:T4):Option Bool :=
 some (x_.Name.toList==c0_.Name.toList)
def z269_6_k1:Option Int :=
 some (-1:Int)
def z269_6_l2 (N:Nat) (s_:(List T4)) (c0_:T4):Nat→Int→Option Int
 | 0,_=>none
 | n2+1,v8_3 =>
 bif (decide (v8_3 < (s_.length:Int))) then ((idx s_ v8_3).bind fun x17 =>
 (z223_5 N x17 c0_).bind fun x18 =>
 bif x18 then (some v8_3)
 else (z269_6_l2 N s_ c0_ n2) (w64 (v8_3+(1:Int))))
 else z269_6_k1
def z269_6 (N:Nat) (s_:(List T4)) (c0_:T4):Option Int :=
 z269_6_l2 N s_ c0_ N (0:Int)
def z222_7 (N:Nat) (s_:(List T4)) (c0_:T4):Option Bool :=
 (z269_6 N s_ c0_).bind fun x1 =>
 some (decide (x1≥(0:Int)))
def z224_k1:Option Bool :=
 some true
def z224_k3 (v58_14:Int) (ag14:Int→Option Bool):Option Bool :=
 ag14 (w64 (v58_14+(1:Int)))
def z224_l4 (all_:(List T4)) (v58_14:Int) (ag14:Int→Option Bool) (x127:(Int × Int)):Nat→Int→Option Bool
 | 0,_=>none
 | n15+1,v63_23 =>
 bif (decide (v63_23 < (2:Int))) then ((idx ([x127.1,x127.2]:List Int) v63_23).bind fun x142 =>
 bif (decide (x142 < (0:Int))) then (some false)
 else bif (decide (x142≥(all_.length:Int))) then (some false)
 else (idx all_ x142).bind fun x143 =>
 bif (x143.Sort'.Kind != (2:Int)) then (some false)
 else (z224_l4 all_ v58_14 ag14 x127 n15) (w64 (v63_23+(1:Int))))
 else z224_k3 v58_14 ag14
def z224_l2 (N:Nat) (g_:T6) (all_:(List T4)):Nat→Int→Option Bool
 | 0,_=>none
 | n13+1,v58_14 =>
 bif (decide (v58_14 < (g_.Equals.length:Int))) then ((idx g_.Equals v58_14).bind fun x127 =>
 z224_l4 all_ v58_14 (z224_l2 N g_ all_ n13) x127 N (0:Int))
 else z224_k1
def z224_k5 (N:Nat) (g_:T6) (all_:(List T4)):Option Bool :=
 z224_l2 N g_ all_ N (0:Int)
def z224_l6 (N:Nat) (g_:T6) (all_:(List T4)):Nat→Int→Option Bool
 | 0,_=>none
 | n16+1,v24_24 =>
 bif (decide (v24_24 < (g_.Diffs.length:Int))) then ((idx g_.Diffs v24_24).bind fun x148 =>
 bif (decide ((minI x148.X x148.Y) < (-1:Int))) then (some false)
 else bif (decide ((maxI x148.X x148.Y)≥(all_.length:Int))) then (some false)
 else bif (decide (x148.C < (-20000:Int))) then (some false)
 else bif (decide (x148.C > (20000:Int))) then (some false)
 else (z224_l6 N g_ all_ n16) (w64 (v24_24+(1:Int))))
 else z224_k5 N g_ all_
def z224 (N:Nat) (g_:T6) (all_:(List T4)):Option Bool :=
 bif (decide ((g_.Diffs.length:Int) > (20:Int))) then (some false)
 else bif (decide ((g_.Equals.length:Int) > (20:Int))) then (some false)
 else z224_l6 N g_ all_ N (0:Int)
def z157_k1:Option Bool :=
 some true
def z157_k3 (N:Nat) (x1:(List T4)) (v4_12:Int) (v19_12:Int) (ag12:Int→Int→Option Bool) (x367:T0):Option Bool :=
 (z224 N x367.Guard x1).bind fun x391 =>
 bif (!x391) then (some false)
 else ag12 (w64 (v4_12+(x367.Fields.length:Int))) (w64 (v19_12+(1:Int)))
def z157_l4 (N:Nat) (x1:(List T4)) (v4_12:Int) (v19_12:Int) (ag12:Int→Int→Option Bool) (x367:T0):Nat→Int→Option Bool
 | 0,_=>none
 | n14+1,v55_21 =>
 bif (decide (v55_21 < (x367.Fields.length:Int))) then ((idx x367.Fields v55_21).bind fun x412 =>
 (z220 N x412.Name).bind fun x413 =>
 bif (!x413) then (some false)
 else (z221 N x412.Sort').bind fun x414 =>
 bif (!x414) then (some false)
 else (lsl x367.Fields none (some v55_21)).bind fun x415 =>
 (z222_7 N x415 x412).bind fun x416 =>
 bif x416 then (some false)
 else (z157_l4 N x1 v4_12 v19_12 ag12 x367 n14) (w64 (v55_21+(1:Int))))
 else z157_k3 N x1 v4_12 v19_12 ag12 x367
def z157_l2 (N:Nat) (l_:(List T0)) (x1:(List T4)):Nat→Int→Int→Option Bool
 | 0,_,_=>none
 | n12+1,v4_12,v19_12 =>
 bif (decide (v19_12 < (l_.length:Int))) then ((idx l_ v19_12).bind fun x367 =>
 (z217 N x367.Name).bind fun x368 =>
 bif (!x368) then (some false)
 else bif (decide ((x367.Fields.length:Int) > (4:Int))) then (some false)
 else bif (x367.First != v4_12) then (some false)
 else (lsl l_ none (some v19_12)).bind fun x369 =>
 (z218_4 N x369 x367).bind fun x370 =>
 bif x370 then (some false)
 else z157_l4 N x1 v4_12 v19_12 (z157_l2 N l_ x1 n12) x367 N (0:Int))
 else z157_k1
def z157 (N:Nat) (l_:(List T0)):Option Bool :=
 bif (decide ((l_.length:Int) > (40:Int))) then (some false)
 else (z158 N l_).bind fun x1 =>
 bif (decide ((x1.length:Int) > (24:Int))) then (some false)
 else z157_l2 N l_ x1 N (0:Int) (0:Int)
def z168_k1 (v3_3:(List T1)):Option (List T1) :=
 some v3_3
def z168_l2 (d_:T0):Nat→(List T1)→Int→Option (List T1)
 | 0,_,_=>none
 | n3+1,v3_5,v46_5 =>
 bif (decide (v46_5 < (d_.Guard.Equals.length:Int))) then ((idx d_.Guard.Equals v46_5).bind fun x26 =>
 (appL v3_5 ([(⟨x26.1,x26.2,(0:Int)⟩:T1),(⟨x26.2,x26.1,(0:Int)⟩:T1)]:List T1)).bind fun x27 =>
 (z168_l2 d_ n3) x27 (w64 (v46_5+(1:Int))))
 else z168_k1 v3_5
def z168_k3 (N:Nat) (d_:T0) (v3_1:(List T1)):Option (List T1) :=
 (appL v3_1 d_.Guard.Diffs).bind fun x9 =>
 z168_l2 d_ N x9 (0:Int)
def z168_l4 (N:Nat) (d_:T0):Nat→(List T1)→Int→Option (List T1)
 | 0,_,_=>none
 | n4+1,v3_6,v11_6 =>
 bif (decide (v11_6 < (d_.Fields.length:Int))) then ((idx d_.Fields v11_6).bind fun x36 =>
 (appL v3_6 ([(⟨(w64 (d_.First+v11_6)),(-1:Int),x36.Sort'.Hi⟩:T1),(⟨(-1:Int),(w64 (d_.First+v11_6)),(w64 (0-x36.Sort'.Lo))⟩:T1)]:List T1)).bind fun x37 =>
 (z168_l4 N d_ n4) x37 (w64 (v11_6+(1:Int))))
 else z168_k3 N d_ v3_6
def z168 (N:Nat) (d_:T0):Option (List T1) :=
 z168_l4 N d_ N ([]:List T1) (0:Int)
def z98 (N:Nat) (decls_:(List T0)) (label_:Int):Option ((List T1) × Int) :=
 bif (decide (label_ < (0:Int))) then (some (([]:List T1),(1:Int)))
 else bif (decide (label_≥(decls_.length:Int))) then (some (([]:List T1),(1:Int)))
 else (z157 N decls_).bind fun x1 =>
 bif (!x1) then (some (([]:List T1),(1:Int)))
 else (idx decls_ label_).bind fun x2 =>
 (z168 N x2).bind fun x3 =>
 some (x3,(0:Int))
def z206 (N:Nat) (l_:(List T0)):Option Bool :=
 bif ((l_.length:Int)==(0:Int)) then (some true)
 else (z98 N l_ (0:Int)).bind fun x1 =>
 some (x1.2==(0:Int))
def z207_k1:Option Bool :=
 some true
def z207_k3 (v10_33:Int) (ag33:Int→Option Bool):Option Bool :=
 ag33 (w64 (v10_33+(1:Int)))
def z207_k5 (x74:T2) (v34_60:Int) (ag60:Int→Option Bool) (x83:T2) (v68_63:Bool):Option Bool :=
 bif v68_63 then (some false)
 else bif x74.Again then (bif (x83.To==x74.From) then (bif (x74.Act.From != x83.Act.From) then (some false)
 else bif (x74.Act.Label != x83.Act.Label) then (some false)
 else ag60 (w64 (v34_60+(1:Int))))
 else ag60 (w64 (v34_60+(1:Int))))
 else ag60 (w64 (v34_60+(1:Int)))
def z207_l4 (g_:T5) (v10_33:Int) (ag33:Int→Option Bool) (x74:T2):Nat→Int→Option Bool
 | 0,_=>none
 | n14+1,v34_60 =>
 bif (decide (v34_60 < (g_.Edges.length:Int))) then ((idx g_.Edges v34_60).bind fun x83 =>
 bif (v10_33 != v34_60) then (bif (x74.From==x83.From) then (bif ((x74.Act.From==x83.Act.From) && ((x74.Act.To==x83.Act.To) && ((x74.Act.Label==x83.Act.Label) && true))) then (z207_k5 x74 v34_60 (z207_l4 g_ v10_33 ag33 x74 n14) x83 true)
 else bif (x74.Act.From != x83.Act.From) then (z207_k5 x74 v34_60 (z207_l4 g_ v10_33 ag33 x74 n14) x83 true)
 else z207_k5 x74 v34_60 (z207_l4 g_ v10_33 ag33 x74 n14) x83 x74.Again)
 else z207_k5 x74 v34_60 (z207_l4 g_ v10_33 ag33 x74 n14) x83 false)
 else z207_k5 x74 v34_60 (z207_l4 g_ v10_33 ag33 x74 n14) x83 false)
 else z207_k3 v10_33 ag33
def z207_k6 (N:Nat) (g_:T5) (v10_33:Int) (ag33:Int→Option Bool) (x74:T2) (v30_54:Bool):Option Bool :=
 bif v30_54 then (some false)
 else z207_l4 g_ v10_33 ag33 x74 N (0:Int)
def z207_l2 (N:Nat) (g_:T5):Nat→Int→Option Bool
 | 0,_=>none
 | n12+1,v10_33 =>
 bif (decide (v10_33 < (g_.Edges.length:Int))) then ((idx g_.Edges v10_33).bind fun x74 =>
 bif (x74.From==g_.End) then (z207_k6 N g_ v10_33 (z207_l2 N g_ n12) x74 true)
 else bif x74.Again then (z207_k6 N g_ v10_33 (z207_l2 N g_ n12) x74 (x74.From==g_.Start))
 else z207_k6 N g_ v10_33 (z207_l2 N g_ n12) x74 false)
 else z207_k1
def z207 (N:Nat) (g_:T5):Option Bool :=
 z207_l2 N g_ N (0:Int)
def z208_k1:Option Bool :=
 some true
def z208_l2 (g_:T5):Nat→Int→Int→Option Bool
 | 0,_,_=>none
 | n2+1,v3_3,v9_3 =>
 bif (decide (v9_3 < (g_.Timeouts.length:Int))) then ((idx g_.Timeouts v9_3).bind fun x25 =>
 bif (decide (x25.State≤v3_3)) then (some false)
 else bif (decide (x25.Ticks < (1:Int))) then (some false)
 else bif (decide (x25.Ticks > (1000:Int))) then (some false)
 else bif (decide (x25.Else < (0:Int))) then (some false)
 else bif (decide (x25.Else≥(g_.Edges.length:Int))) then (some false)
 else (idx g_.Edges x25.Else).bind fun x26 =>
 bif (x26.From != x25.State) then (some false)
 else (idx g_.Edges x25.Else).bind fun x27 =>
 bif x27.Again then (some false)
 else (z208_l2 g_ n2) x25.State (w64 (v9_3+(1:Int))))
 else z208_k1
def z208 (N:Nat) (g_:T5):Option Bool :=
 z208_l2 g_ N (-1:Int) (0:Int)
def z303 (N:Nat) (x_:Int) (y_:Int):Option (Int × Int) :=
 (binO .and .u64 x_ (4294967295:Int)).bind fun x1 =>
 (binO .shr .u64 x_ (32:Int)).bind fun x2 =>
 (binO .and .u64 y_ (4294967295:Int)).bind fun x3 =>
 (binO .shr .u64 y_ (32:Int)).bind fun x4 =>
 (binO .shr .u64 (wk .u64 (x1 * x3)) (32:Int)).bind fun x5 =>
 (binO .and .u64 (wk .u64 ((wk .u64 (x2 * x3))+x5)) (4294967295:Int)).bind fun x6 =>
 (binO .shr .u64 (wk .u64 ((wk .u64 (x2 * x3))+x5)) (32:Int)).bind fun x7 =>
 (binO .shr .u64 (wk .u64 (x6+(wk .u64 (x1 * x4)))) (32:Int)).bind fun x8 =>
 some ((wk .u64 ((wk .u64 ((wk .u64 (x2 * x4))+x7))+x8)),(wk .u64 (x_ * y_)))
def z279 (N:Nat) (x_:Int) (y_:Int):Option (Int × Int) :=
 (z303 N x_ y_).bind fun x1 =>
 some (x1.1,x1.2)
def z259_k1 (v7_4:(List Int)):Option (List Int) :=
 some v7_4
def z259_l2:Nat→(List Int)→Int→Option (List Int)
 | 0,_,_=>none
 | n2+1,v7_6,v8_6 =>
 bif (decide (v8_6 < (v7_6.length:Int))) then ((lsl v7_6 (some v8_6) none).bind fun x28 =>
 (lsl v7_6 none (some v8_6)).bind fun x29 =>
 (cpL v7_6 (some v8_6) none x29).bind fun x30 =>
 (z259_l2 n2) x30.1 (w64 (v8_6+x30.2)))
 else z259_k1 v7_6
def z259_k3 (N:Nat) (x_:(List Int)) (x1:Int × Int) (v26_2:Bool):Option (List Int) :=
 bif v26_2 then (dead 0)
 else (mkL (0:Int) (w64 (x1.2)) (w64 (x1.2))).bind fun x2 =>
 (cpL x2 none none x_).bind fun x3 =>
 z259_l2 N x3.1 x3.2
def z259 (N:Nat) (x_:(List Int)) (count_:Int):Option (List Int) :=
 bif (decide (count_ < (0:Int))) then (dead 0)
 else (z279 N (wk .u64 ((x_.length:Int))) (wk .u64 (count_))).bind fun x1 =>
 bif (decide (x1.1 > (0:Int))) then (z259_k3 N x_ x1 true)
 else z259_k3 N x_ x1 (decide (x1.2 > (9223372036854775807:Int)))
def z210_k1 (v7_1:(List Int)):Option (List Int) :=
 some v7_1
def z210_k3 (ag30:(List Int)→(List Int)→Option (List Int)) (v7_49:(List Int)) (v8_49:(List Int)):Option (List Int) :=
 (lsl v8_49 (some (1:Int)) none).bind fun x425 =>
 ag30 v7_49 x425
def z210_k5 (v7_54:(List Int)) (v8_54:(List Int)) (v30_54:Int) (ag54:(List Int)→(List Int)→Int→Option (List Int)) (v11_57:Int) (v12_57:Int):Option (List Int) :=
 (idx v8_54 (0:Int)).bind fun x451 =>
 bif (v11_57==x451) then ((idx v7_54 v12_57).bind fun x452 =>
 bif (decide (x452 < (0:Int))) then ((idx v7_54 v11_57).bind fun x453 =>
 (idx v7_54 v12_57).bind fun x454 =>
 (appL v8_54 ([v12_57]:List Int)).bind fun x455 =>
 ag54 (setL' v7_54 v12_57 (w64 (x453+(1:Int)))) x455 (w64 (v30_54+(1:Int))))
 else ag54 v7_54 v8_54 (w64 (v30_54+(1:Int))))
 else ag54 v7_54 v8_54 (w64 (v30_54+(1:Int)))
def z210_l4 (g_:T5) (back_:Bool) (ag30:(List Int)→(List Int)→Option (List Int)):Nat→(List Int)→(List Int)→Int→Option (List Int)
 | 0,_,_,_=>none
 | n14+1,v7_54,v8_54,v30_54 =>
 bif (decide (v30_54 < (g_.Edges.length:Int))) then ((idx g_.Edges v30_54).bind fun x450 =>
 bif back_ then (z210_k5 v7_54 v8_54 v30_54 (z210_l4 g_ back_ ag30 n14) x450.To x450.From)
 else z210_k5 v7_54 v8_54 v30_54 (z210_l4 g_ back_ ag30 n14) x450.From x450.To)
 else z210_k3 ag30 v7_54 v8_54
def z210_l2 (N:Nat) (g_:T5) (back_:Bool):Nat→(List Int)→(List Int)→Option (List Int)
 | 0,_,_=>none
 | n12+1,v7_30,v8_30 =>
 bif (decide ((v8_30.length:Int) > (0:Int))) then (z210_l4 g_ back_ (z210_l2 N g_ back_ n12) N v7_30 v8_30 (0:Int))
 else z210_k1 v7_30
def z210 (N:Nat) (g_:T5) (from_:Int) (back_:Bool):Option (List Int) :=
 (z259 N ([(-1:Int)]:List Int) g_.States).bind fun x1 =>
 (idx x1 from_).bind fun x2 =>
 z210_l2 N g_ back_ N (setL' x1 from_ (0:Int)) ([from_]:List Int)
def z258_k1:Option Int :=
 some (-1:Int)
def z258_l2 (s_:(List Int)) (v_:Int):Nat→Int→Option Int
 | 0,_=>none
 | n2+1,v8_3 =>
 bif (decide (v8_3 < (s_.length:Int))) then ((idx s_ v8_3).bind fun x9 =>
 bif (v_==x9) then (some v8_3)
 else (z258_l2 s_ v_ n2) (w64 (v8_3+(1:Int))))
 else z258_k1
def z258 (N:Nat) (s_:(List Int)) (v_:Int):Option Int :=
 z258_l2 s_ v_ N (0:Int)
def z209 (N:Nat) (s_:(List Int)) (v_:Int):Option Bool :=
 (z258 N s_ v_).bind fun x1 =>
 some (decide (x1≥(0:Int)))
def z141 (N:Nat) (g_:T5):Option Bool :=
 (z204 N g_).bind fun x1 =>
 bif x1 then ((z205 N g_).bind fun x2 =>
 bif x2 then ((z206 N g_.Decls).bind fun x3 =>
 bif x3 then ((z207 N g_).bind fun x4 =>
 bif x4 then ((z208 N g_).bind fun x5 =>
 bif x5 then ((z210 N g_ g_.Start false).bind fun x6 =>
 (z209 N x6 (-1:Int)).bind fun x7 =>
 bif (!x7) then ((z210 N g_ g_.End true).bind fun x8 =>
 (z209 N x8 (-1:Int)).bind fun x9 =>
 some (!x9))
 else some false)
 else some false)
 else some false)
 else some false)
 else some false)
 else some false
def z214 (N:Nat) (m_:T8) (n_:Int):Option Bool :=
 bif (decide (n_≥(0:Int))) then (some (decide (n_ < m_.States)))
 else some false
def z147_k1:Option Bool :=
 some true
def z147_l2 (N:Nat) (m_:T8):Nat→Int→Option Bool
 | 0,_=>none
 | n2+1,v47_3 =>
 bif (decide (v47_3 < (m_.Moves.length:Int))) then ((idx m_.Moves v47_3).bind fun x26 =>
 (z214 N m_ x26.From).bind fun x27 =>
 bif (!x27) then (some false)
 else (z214 N m_ x26.To).bind fun x28 =>
 bif (!x28) then (some false)
 else bif (decide (x26.Peer < (0:Int))) then (some false)
 else bif (decide (x26.Peer≥(6:Int))) then (some false)
 else bif (x26.Peer==m_.Role) then (some false)
 else bif (decide (x26.Label < (0:Int))) then (some false)
 else bif (decide (x26.Label≥(40:Int))) then (some false)
 else (z147_l2 N m_ n2) (w64 (v47_3+(1:Int))))
 else z147_k1
def z147 (N:Nat) (m_:T8):Option Bool :=
 bif (decide (m_.Role < (0:Int))) then (some false)
 else bif (decide (m_.Role≥(6:Int))) then (some false)
 else bif (decide (m_.States < (1:Int))) then (some false)
 else bif (decide (m_.States > (200:Int))) then (some false)
 else (z214 N m_ m_.Start).bind fun x1 =>
 bif (!x1) then (some false)
 else bif ((m_.Finals.length:Int) != m_.States) then (some false)
 else bif (decide ((m_.Moves.length:Int) > (400:Int))) then (some false)
 else z147_l2 N m_ N (0:Int)
def z155 (N:Nat) (x_:T9):Option T14 :=
 some (⟨x_.Send,x_.Peer,x_.Label⟩:T14)
def z260 (N:Nat) (x_:Int):Option Bool :=
 some (x_ != x_)
def z212 (N:Nat) (x_:Int) (y_:Int):Option Int :=
 (z260 N x_).bind fun x1 =>
 (z260 N y_).bind fun x2 =>
 bif x1 then (bif x2 then (some (0:Int))
 else some (-1:Int))
 else bif x2 then (some (1:Int))
 else bif (decide (x_ < y_)) then (some (-1:Int))
 else bif (decide (x_ > y_)) then (some (1:Int))
 else some (0:Int)
def z211_k1:Option Int :=
 some (0:Int)
def z211_l2 (vals_:(List Int)):Nat→Int→Option Int
 | 0,_=>none
 | n2+1,v8_3 =>
 bif (decide (v8_3 < (vals_.length:Int))) then ((idx vals_ v8_3).bind fun x9 =>
 bif (x9 != (0:Int)) then (some x9)
 else (z211_l2 vals_ n2) (w64 (v8_3+(1:Int))))
 else z211_k1
def z211 (N:Nat) (vals_:(List Int)):Option Int :=
 z211_l2 vals_ N (0:Int)
def z156 (N:Nat) (x_:T14) (y_:T14):Option Int :=
 bif (!(x_.send'==y_.send')) then (bif x_.send' then (some (-1:Int))
 else some (1:Int))
 else (z212 N x_.peer' y_.peer').bind fun x1 =>
 (z212 N x_.label' y_.label').bind fun x2 =>
 (z211 N ([x1,x2]:List Int)).bind fun x3 =>
 some x3
def z216_8 (N:Nat) (i_:Int) (k_:Int) (c0_:T8):Option Int :=
 (idx c0_.Moves i_).bind fun x1 =>
 (z155 N x1).bind fun x2 =>
 (idx c0_.Moves k_).bind fun x3 =>
 (z155 N x3).bind fun x4 =>
 (z156 N x2 x4).bind fun x5 =>
 some x5
def machine_sorted_cf (N:Nat) (m_:T8) (i k:Int):Int:=(z216_8 N i k m_).getD 0
def machine_sorted_ok (N:Nat) (m_:T8) (xs:List Int):Bool:=(xs.all fun i=>xs.all fun k=>(z216_8 N i k m_).isSome) && (swoB (fun a b=>decide (machine_sorted_cf N m_ a b < 0)) xs && decide (xs.length < 4611686018427387904))
def z148_l2 (N:Nat) (m_:T8):Nat→List (List Int)→Int→Option T15
 | 0,_,_=>none
 | n+1,xss,j=>bif decide (j < (xss.length:Int)) then (idx xss j).bind fun xs =>
   bif machine_sorted_ok N m_ xs then z148_l2 N m_ n (xss.set j.toNat (sortP (machine_sorted_cf N m_) xs)) (w64 (j+(1:Int))) else none
   else some ⟨m_,xss⟩
def z148_l1 (N:Nat) (m_:T8):Nat→List (List Int)→Int→Option T15
 | 0,_,_=>none
 | n+1,xss,i=>bif decide (i < (m_.Moves.length:Int)) then (idx m_.Moves i).bind fun x=>(idx xss x.From).bind fun xs=>(appL xs [i]).bind fun ys =>
   z148_l1 N m_ n (xss.set x.From.toNat ys) (w64 (i+(1:Int)))
   else z148_l2 N m_ N xss (0:Int)
def z148 (N:Nat) (m_:T8):Option T15:=(mkL () m_.States m_.States).bind fun us=>bif us.isEmpty then none else z148_l1 N m_ N (List.replicate us.length []) (0:Int)
def z149_k1:Option Bool :=
 some true
def z149_k3 (v13_12:Int) (ag12:Int→Option Bool):Option Bool :=
 ag12 (w64 (v13_12+(1:Int)))
def z149_l4 (N:Nat) (t_:T15) (v13_12:Int) (ag12:Int→Option Bool) (x399:(List Int)):Nat→Int→Option Bool
 | 0,_=>none
 | n14+1,v5_21 =>
 bif (decide (v5_21 < (x399.length:Int))) then ((idx x399 (w64 (v5_21-(1:Int)))).bind fun x448 =>
 (idx t_.Machine.Moves x448).bind fun x449 =>
 (idx x399 v5_21).bind fun x450 =>
 (idx t_.Machine.Moves x450).bind fun x451 =>
 (z155 N x449).bind fun x452 =>
 (z155 N x451).bind fun x453 =>
 bif ((x452.send'==x453.send') && ((x452.peer'==x453.peer') && ((x452.label'==x453.label') && true))) then (some false)
 else bif (!(x449.Send==x451.Send)) then (some false)
 else (z149_l4 N t_ v13_12 ag12 x399 n14) (w64 (v5_21+(1:Int))))
 else z149_k3 v13_12 ag12
def z149_l2 (N:Nat) (t_:T15):Nat→Int→Option Bool
 | 0,_=>none
 | n12+1,v13_12 =>
 bif (decide (v13_12 < (t_.out'.length:Int))) then ((idx t_.out' v13_12).bind fun x399 =>
 z149_l4 N t_ v13_12 (z149_l2 N t_ n12) x399 N (1:Int))
 else z149_k1
def z149 (N:Nat) (t_:T15):Option Bool :=
 z149_l2 N t_ N (0:Int)
def z150_k1 (t_:T15) (v4_1:(List Int)):Option Bool :=
 some ((v4_1.length:Int)==t_.Machine.States)
def z150_k3 (v5_12:Int) (ag12:(List Bool)→(List Int)→Int→Option Bool) (v3_19:(List Bool)) (v4_19:(List Int)):Option Bool :=
 ag12 v3_19 v4_19 (w64 (v5_12+(1:Int)))
def z150_l4 (t_:T15) (v5_12:Int) (ag12:(List Bool)→(List Int)→Int→Option Bool) (x345:(List Int)):Nat→(List Bool)→(List Int)→Int→Option Bool
 | 0,_,_,_=>none
 | n14+1,v3_21,v4_21,v45_21 =>
 bif (decide (v45_21 < (x345.length:Int))) then ((idx x345 v45_21).bind fun x386 =>
 (idx t_.Machine.Moves x386).bind fun x387 =>
 (idx v3_21 x387.To).bind fun x388 =>
 bif (!x388) then ((idx v3_21 x387.To).bind fun x389 =>
 (appL v4_21 ([x387.To]:List Int)).bind fun x390 =>
 (z150_l4 t_ v5_12 ag12 x345 n14) (setL' v3_21 x387.To true) x390 (w64 (v45_21+(1:Int))))
 else (z150_l4 t_ v5_12 ag12 x345 n14) v3_21 v4_21 (w64 (v45_21+(1:Int))))
 else z150_k3 v5_12 ag12 v3_21 v4_21
def z150_l2 (N:Nat) (t_:T15):Nat→(List Bool)→(List Int)→Int→Option Bool
 | 0,_,_,_=>none
 | n12+1,v3_12,v4_12,v5_12 =>
 bif (decide (v5_12 < (v4_12.length:Int))) then ((idx v4_12 v5_12).bind fun x344 =>
 (idx t_.out' x344).bind fun x345 =>
 z150_l4 t_ v5_12 (z150_l2 N t_ n12) x345 N v3_12 v4_12 (0:Int))
 else z150_k1 t_ v4_12
def z150 (N:Nat) (t_:T15):Option Bool :=
 (mkL false t_.Machine.States t_.Machine.States).bind fun x1 =>
 (idx x1 t_.Machine.Start).bind fun x2 =>
 z150_l2 N t_ N (setL' x1 t_.Machine.Start true) ([t_.Machine.Start]:List Int) (0:Int)
def z151_k1:Option Bool :=
 some true
def z151_k3 (v13_12:Int) (ag12:Int→Option Bool):Option Bool :=
 ag12 (w64 (v13_12+(1:Int)))
def z151_l4 (t_:T15) (v13_12:Int) (ag12:Int→Option Bool) (x90:T9):Nat→Int→Option Bool
 | 0,_=>none
 | n14+1,v62_21 =>
 bif (decide (v62_21 < (t_.Machine.Moves.length:Int))) then ((idx t_.Machine.Moves v62_21).bind fun x101 =>
 bif (x101.To==x90.From) then (bif (!x101.Send) then (some false)
 else bif (x101.Label != x90.Label) then (some false)
 else (z151_l4 t_ v13_12 ag12 x90 n14) (w64 (v62_21+(1:Int))))
 else (z151_l4 t_ v13_12 ag12 x90 n14) (w64 (v62_21+(1:Int))))
 else z151_k3 v13_12 ag12
def z151_l2 (N:Nat) (t_:T15):Nat→Int→Option Bool
 | 0,_=>none
 | n12+1,v13_12 =>
 bif (decide (v13_12 < (t_.Machine.Moves.length:Int))) then ((idx t_.Machine.Moves v13_12).bind fun x90 =>
 bif (!x90.Again) then ((z151_l2 N t_ n12) (w64 (v13_12+(1:Int))))
 else bif (!x90.Send) then (some false)
 else (idx t_.out' x90.From).bind fun x91 =>
 bif ((x91.length:Int) != (1:Int)) then (some false)
 else bif (x90.From==t_.Machine.Start) then (some false)
 else (idx t_.Machine.Finals x90.From).bind fun x92 =>
 bif x92 then (some false)
 else z151_l4 t_ v13_12 (z151_l2 N t_ n12) x90 N (0:Int))
 else z151_k1
def z151 (N:Nat) (t_:T15):Option Bool :=
 z151_l2 N t_ N (0:Int)
def z152_k1:Option Bool :=
 some true
def z152_k3 (t_:T15) (v12_6:Int) (ag6:Int→Option Bool) (x33:T11) (v59_9:Bool):Option Bool :=
 bif v59_9 then (some false)
 else (idx t_.Machine.Moves x33.Else).bind fun x35 =>
 bif (x35.From != x33.State) then (some false)
 else bif (!x35.Send) then (some false)
 else bif x35.Again then (some false)
 else ag6 (w64 (v12_6+(1:Int)))
def z152_l2 (t_:T15):Nat→Int→Option Bool
 | 0,_=>none
 | n2+1,v12_6 =>
 bif (decide (v12_6 < (t_.Machine.Timeouts.length:Int))) then ((idx t_.Machine.Timeouts v12_6).bind fun x33 =>
 bif (decide (v12_6 > (0:Int))) then ((idx t_.Machine.Timeouts (w64 (v12_6-(1:Int)))).bind fun x36 =>
 bif (decide (x36.State≥x33.State)) then (z152_k3 t_ v12_6 (z152_l2 t_ n2) x33 true)
 else bif (decide (x33.Ticks < (1:Int))) then (z152_k3 t_ v12_6 (z152_l2 t_ n2) x33 true)
 else bif (decide (x33.Ticks > (1000:Int))) then (z152_k3 t_ v12_6 (z152_l2 t_ n2) x33 true)
 else bif (decide (x33.Else < (0:Int))) then (z152_k3 t_ v12_6 (z152_l2 t_ n2) x33 true)
 else z152_k3 t_ v12_6 (z152_l2 t_ n2) x33 (decide (x33.Else≥(t_.Machine.Moves.length:Int))))
 else bif (decide (x33.Ticks < (1:Int))) then (z152_k3 t_ v12_6 (z152_l2 t_ n2) x33 true)
 else bif (decide (x33.Ticks > (1000:Int))) then (z152_k3 t_ v12_6 (z152_l2 t_ n2) x33 true)
 else bif (decide (x33.Else < (0:Int))) then (z152_k3 t_ v12_6 (z152_l2 t_ n2) x33 true)
 else z152_k3 t_ v12_6 (z152_l2 t_ n2) x33 (decide (x33.Else≥(t_.Machine.Moves.length:Int))))
 else z152_k1
def z152 (N:Nat) (t_:T15):Option Bool :=
 z152_l2 t_ N (0:Int)
def z77 (N:Nat) (m_:T8):Option ((Option T15) × Bool) :=
 (z147 N m_).bind fun x1 =>
 bif (!x1) then (some (none,false))
 else (z148 N m_).bind fun x2 =>
 (z149 N x2).bind fun x3 =>
 bif x3 then ((z150 N x2).bind fun x4 =>
 bif x4 then ((z151 N x2).bind fun x5 =>
 bif x5 then ((z152 N x2).bind fun x6 =>
 some ((some x2),x6))
 else some ((some x2),false))
 else some ((some x2),false))
 else some ((some x2),false)
def z142 (N:Nat) (m_:T8):Option Bool :=
 (z77 N m_).bind fun x1 =>
 optC x1.1 (some x1.2) fun q2 =>
 some x1.2
def z140_9 (N:Nat) (x_:T9) (c0_:T5):Option Bool :=
 bif (decide (x_.Peer≥(c0_.Roles.length:Int))) then (some true)
 else some (decide (x_.Label≥(c0_.Decls.length:Int)))
def z111_10_k1:Option Int :=
 some (-1:Int)
def z111_10_l2 (N:Nat) (s_:(List T9)) (c0_:T5):Nat→Int→Option Int
 | 0,_=>none
 | n2+1,v8_3 =>
 bif (decide (v8_3 < (s_.length:Int))) then ((idx s_ v8_3).bind fun x17 =>
 (z140_9 N x17 c0_).bind fun x18 =>
 bif x18 then (some v8_3)
 else (z111_10_l2 N s_ c0_ n2) (w64 (v8_3+(1:Int))))
 else z111_10_k1
def z111_10 (N:Nat) (s_:(List T9)) (c0_:T5):Option Int :=
 z111_10_l2 N s_ c0_ N (0:Int)
def z143_11 (N:Nat) (s_:(List T9)) (c0_:T5):Option Bool :=
 (z111_10 N s_ c0_).bind fun x1 =>
 some (decide (x1≥(0:Int)))
def z72 (N:Nat) (g_:T5) (m_:T8):Option Bool :=
 (z141 N g_).bind fun x1 =>
 bif x1 then ((z142 N m_).bind fun x2 =>
 bif x2 then (bif (decide (m_.Role < (g_.Roles.length:Int))) then ((z143_11 N m_.Moves g_).bind fun x3 =>
 some (!x3))
 else some false)
 else some false)
 else some false
def z74_k1 (v3_1:(List T4)):Option (List T4) :=
 some v3_1
def z74_l2 (g_:T5):Nat→(List T4)→Int→Option (List T4)
 | 0,_,_=>none
 | n2+1,v3_3,v9_3 =>
 bif (decide (v9_3 < (g_.Decls.length:Int))) then ((idx g_.Decls v9_3).bind fun x17 =>
 (appL v3_3 x17.Fields).bind fun x18 =>
 (z74_l2 g_ n2) x18 (w64 (v9_3+(1:Int))))
 else z74_k1 v3_3
def z74 (N:Nat) (g_:T5):Option (List T4) :=
 z74_l2 g_ N ([]:List T4) (0:Int)
def z30 (N:Nat) (g_:T5) (m_:T8):Option T16 :=
 (z72 N g_ m_).bind fun x1 =>
 bif (!x1) then (some (⟨(0:Int),([]:List T12),([]:List T12)⟩:T16))
 else (z74 N g_).bind fun x2 =>
 (mkL (⟨(0:Int),(0:Int),(str [])⟩:T12) (x2.length:Int) (x2.length:Int)).bind fun x3 =>
 some (⟨m_.Start,x3,([]:List T12)⟩:T16)
def z137 (N:Nat) (v_:T12):Option Int :=
 bif (v_.Kind==(1:Int)) then (some v_.N)
 else bif (v_.Kind==(2:Int)) then (some (v_.S.size:Int))
 else some (0:Int)
def z138_k1 (s_:T10) (v3_1:Int) (v4_1:Int):Option Bool :=
 bif (decide (v3_1≤s_.Lo)) then (bif (decide (s_.Lo≤s_.Hi)) then (some (decide (s_.Hi≤v4_1)))
 else some false)
 else some false
def z138 (N:Nat) (s_:T10):Option Bool :=
 bif (s_.Kind==(1:Int)) then (z138_k1 s_ (-1000:Int) (1000:Int))
 else bif (s_.Kind==(2:Int)) then (z138_k1 s_ (0:Int) (40:Int))
 else some false
def z256 (N:Nat) (c_:Int):Option Bool :=
 bif (decide (c_ < (32:Int))) then (some true)
 else some (decide (c_ > (126:Int)))
def z294_12_k1 (vi0_1:Nat):Option Int :=
 some (-1:Int)
def z294_12_l2 (N:Nat) (s_:ByteArray) (truth_:Bool):Nat→Nat→Option Int
 | 0,_=>none
 | n2+1,vi0_3 =>
 bif decide (vi0_3 < s_.size) then ((z256 N ((Utf8.decode s_ vi0_3).1:Int)).bind fun x10 =>
 bif (x10==truth_) then (some ((vi0_3:Nat):Int))
 else (z294_12_l2 N s_ truth_ n2) (vi0_3+(Utf8.decode s_ vi0_3).2))
 else z294_12_k1 vi0_3
def z294_12 (N:Nat) (s_:ByteArray) (truth_:Bool):Option Int :=
 z294_12_l2 N s_ truth_ N (0:Nat)
def z270_13 (N:Nat) (s_:ByteArray):Option Int :=
 (z294_12 N s_ true).bind fun x1 =>
 some x1
def z225_14 (N:Nat) (s_:ByteArray):Option Bool :=
 (z270_13 N s_).bind fun x1 =>
 some (decide (x1≥(0:Int)))
def z203 (N:Nat) (s_:ByteArray):Option Bool :=
 (z225_14 N s_).bind fun x1 =>
 some (!x1)
def z139 (N:Nat) (v_:T12):Option Bool :=
 bif (v_.Kind==(1:Int)) then (bif (decide (v_.N≥(-1000:Int))) then (bif (decide (v_.N≤(1000:Int))) then (some (v_.S.toList==(str []).toList))
 else some false)
 else some false)
 else bif (v_.Kind==(2:Int)) then (bif (v_.N==(0:Int)) then (bif (decide ((v_.S.size:Int)≤(40:Int))) then ((z203 N v_.S).bind fun x1 =>
 some x1)
 else some false)
 else some false)
 else some false
def z71 (N:Nat) (s_:T10) (v_:T12):Option Bool :=
 (z137 N v_).bind fun x1 =>
 (z138 N s_).bind fun x2 =>
 bif x2 then ((z139 N v_).bind fun x3 =>
 bif x3 then (bif (s_.Kind==v_.Kind) then (bif (decide (x1≥s_.Lo)) then (some (decide (x1≤s_.Hi)))
 else some false)
 else some false)
 else some false)
 else some false
def z70 (N:Nat) (f_:T4) (v_:T12):Option Bool :=
 bif ((v_.Kind==(0:Int)) && ((v_.N==(0:Int)) && ((v_.S.toList==(str []).toList) && true))) then (some true)
 else (z71 N f_.Sort' v_).bind fun x1 =>
 some x1
def z73_15_k1:Option Bool :=
 some true
def z73_15_l2 (N:Nat) (s1_:(List T4)) (s2_:(List T12)):Nat→Int→Option Bool
 | 0,_=>none
 | n2+1,v17_3 =>
 bif (decide (v17_3 < (s1_.length:Int))) then ((idx s1_ v17_3).bind fun x25 =>
 (idx s2_ v17_3).bind fun x26 =>
 (z70 N x25 x26).bind fun x27 =>
 bif (!x27) then (some false)
 else (z73_15_l2 N s1_ s2_ n2) (w64 (v17_3+(1:Int))))
 else z73_15_k1
def z73_15 (N:Nat) (s1_:(List T4)) (s2_:(List T12)):Option Bool :=
 bif ((s1_.length:Int) != (s2_.length:Int)) then (some false)
 else z73_15_l2 N s1_ s2_ N (0:Int)
def z27 (N:Nat) (g_:T5) (m_:T8) (s_:T16):Option Bool :=
 (z72 N g_ m_).bind fun x1 =>
 bif x1 then (bif (decide (s_.At≥(0:Int))) then (bif (decide (s_.At < m_.States)) then ((z74 N g_).bind fun x2 =>
 (z73_15 N x2 s_.Known).bind fun x3 =>
 some x3)
 else some false)
 else some false)
 else some false
def z112_16 (N:Nat) (y_:T9) (c0_:T16) (c1_:T3):Option Bool :=
 bif (y_.From==c0_.At) then (bif (y_.Send==c1_.Send) then (bif (y_.Peer==c1_.Peer) then (some (y_.Label==c1_.Label))
 else some false)
 else some false)
 else some false
def z111_17_k1:Option Int :=
 some (-1:Int)
def z111_17_l2 (N:Nat) (s_:(List T9)) (c0_:T16) (c1_:T3):Nat→Int→Option Int
 | 0,_=>none
 | n2+1,v8_3 =>
 bif (decide (v8_3 < (s_.length:Int))) then ((idx s_ v8_3).bind fun x17 =>
 (z112_16 N x17 c0_ c1_).bind fun x18 =>
 bif x18 then (some v8_3)
 else (z111_17_l2 N s_ c0_ c1_ n2) (w64 (v8_3+(1:Int))))
 else z111_17_k1
def z111_17 (N:Nat) (s_:(List T9)) (c0_:T16) (c1_:T3):Option Int :=
 z111_17_l2 N s_ c0_ c1_ N (0:Int)
def z177 (N:Nat) (f_:T4) (x_:T12):Option Bool :=
 (z71 N f_.Sort' x_).bind fun x1 =>
 some x1
def z73_18_k1:Option Bool :=
 some true
def z73_18_l2 (N:Nat) (s1_:(List T4)) (s2_:(List T12)):Nat→Int→Option Bool
 | 0,_=>none
 | n2+1,v17_3 =>
 bif (decide (v17_3 < (s1_.length:Int))) then ((idx s1_ v17_3).bind fun x25 =>
 (idx s2_ v17_3).bind fun x26 =>
 (z177 N x25 x26).bind fun x27 =>
 bif (!x27) then (some false)
 else (z73_18_l2 N s1_ s2_ n2) (w64 (v17_3+(1:Int))))
 else z73_18_k1
def z73_18 (N:Nat) (s1_:(List T4)) (s2_:(List T12)):Option Bool :=
 bif ((s1_.length:Int) != (s2_.length:Int)) then (some false)
 else z73_18_l2 N s1_ s2_ N (0:Int)
def z113 (N:Nat) (l_:(List T4)) (v_:(List T12)):Option Bool :=
 (z73_18 N l_ v_).bind fun x1 =>
 some x1
def z160 (N:Nat) (v_:T12):Option Int :=
 bif (v_.Kind==(2:Int)) then (some (v_.S.size:Int))
 else some v_.N
def z226 (N:Nat) (r_:Int):Option Bool :=
 bif (decide (r_ < (32:Int))) then (some true)
 else some (decide (r_ > (126:Int)))
def z294_19_k1 (vi0_1:Nat):Option Int :=
 some (-1:Int)
def z294_19_l2 (N:Nat) (s_:ByteArray) (truth_:Bool):Nat→Nat→Option Int
 | 0,_=>none
 | n2+1,vi0_3 =>
 bif decide (vi0_3 < s_.size) then ((z226 N ((Utf8.decode s_ vi0_3).1:Int)).bind fun x10 =>
 bif (x10==truth_) then (some ((vi0_3:Nat):Int))
 else (z294_19_l2 N s_ truth_ n2) (vi0_3+(Utf8.decode s_ vi0_3).2))
 else z294_19_k1 vi0_3
def z294_19 (N:Nat) (s_:ByteArray) (truth_:Bool):Option Int :=
 z294_19_l2 N s_ truth_ N (0:Nat)
def z270_20 (N:Nat) (s_:ByteArray):Option Int :=
 (z294_19 N s_ true).bind fun x1 =>
 some x1
def z225_21 (N:Nat) (s_:ByteArray):Option Bool :=
 (z270_20 N s_).bind fun x1 =>
 some (decide (x1≥(0:Int)))
def z159 (N:Nat) (s_:T10) (v_:T12):Option Bool :=
 bif (v_.Kind != s_.Kind) then (some false)
 else (z160 N v_).bind fun x1 =>
 bif (decide (x1 < s_.Lo)) then (some false)
 else (z160 N v_).bind fun x2 =>
 bif (decide (x2 > s_.Hi)) then (some false)
 else bif (v_.Kind==(1:Int)) then (some (v_.S.toList==(str []).toList))
 else bif (v_.N==(0:Int)) then ((z225_21 N v_.S).bind fun x3 =>
 some (!x3))
 else some false
def z79_k1:Option Bool :=
 some true
def z79_l2 (N:Nat) (known_:(List T12)) (x2:(List T4)):Nat→Int→Option Bool
 | 0,_=>none
 | n2+1,v32_3 =>
 bif (decide (v32_3 < (known_.length:Int))) then ((idx known_ v32_3).bind fun x27 =>
 bif (!((x27.Kind==(0:Int)) && ((x27.N==(0:Int)) && ((x27.S.toList==(str []).toList) && true)))) then ((idx x2 v32_3).bind fun x28 =>
 (z159 N x28.Sort' x27).bind fun x29 =>
 bif (!x29) then (some false)
 else (z79_l2 N known_ x2 n2) (w64 (v32_3+(1:Int))))
 else (z79_l2 N known_ x2 n2) (w64 (v32_3+(1:Int))))
 else z79_k1
def z79 (N:Nat) (l_:(List T0)) (label_:Int) (known_:(List T12)):Option Bool :=
 bif (decide (label_ < (0:Int))) then (some false)
 else bif (decide (label_≥(l_.length:Int))) then (some false)
 else (z157 N l_).bind fun x1 =>
 bif (!x1) then (some false)
 else (z158 N l_).bind fun x2 =>
 bif ((x2.length:Int) != (known_.length:Int)) then (some false)
 else z79_l2 N known_ x2 N (0:Int)
def z80_k1:Option Bool :=
 some true
def z80_l2 (N:Nat) (l_:(List T4)) (values_:(List T12)):Nat→Int→Option Bool
 | 0,_=>none
 | n2+1,v14_3 =>
 bif (decide (v14_3 < (l_.length:Int))) then ((idx l_ v14_3).bind fun x25 =>
 (idx values_ v14_3).bind fun x26 =>
 (z159 N x25.Sort' x26).bind fun x27 =>
 bif (!x27) then (some false)
 else (z80_l2 N l_ values_ n2) (w64 (v14_3+(1:Int))))
 else z80_k1
def z80 (N:Nat) (l_:(List T4)) (values_:(List T12)):Option Bool :=
 bif ((l_.length:Int) != (values_.length:Int)) then (some false)
 else z80_l2 N l_ values_ N (0:Int)
def z114 (N:Nat) (s_:(List T12)):Option (List T12) :=
 (appL ([]:List T12) s_).bind fun x1 =>
 some x1
def z82 (N:Nat) (d_:T0) (values_:(List T12)) (known_:(List T12)):Option (List T12) :=
 (z114 N known_).bind fun x1 =>
 (lsl x1 (some d_.First) none).bind fun x2 =>
 (cpL x1 (some d_.First) none values_).bind fun x3 =>
 some x3.1
def z81_k1:Option Bool :=
 some true
def z81_l2 (g_:T6) (l_:(List T12)):Nat→Int→Option Bool
 | 0,_=>none
 | n9+1,v57_14 =>
 bif (decide (v57_14 < (g_.Equals.length:Int))) then ((idx g_.Equals v57_14).bind fun x197 =>
 (idx l_ x197.1).bind fun x198 =>
 bif (x198.Kind==(0:Int)) then (some false)
 else (idx l_ x197.2).bind fun x199 =>
 bif (x199.Kind==(0:Int)) then (some false)
 else (idx l_ x197.1).bind fun x200 =>
 (idx l_ x197.2).bind fun x201 =>
 bif (!(x200.S.toList==x201.S.toList)) then (some false)
 else (z81_l2 g_ l_ n9) (w64 (v57_14+(1:Int))))
 else z81_k1
def z81_k3 (N:Nat) (g_:T6) (l_:(List T12)):Option Bool :=
 z81_l2 g_ l_ N (0:Int)
def z81_k5 (v15_15:Int) (ag15:Int→Option Bool) (x362:T1) (vb7_6_0_22:Int) (vb7_6_1_22:Int):Option Bool :=
 bif (decide ((w64 (vb7_6_0_22-vb7_6_1_22)) > x362.C)) then (some false)
 else ag15 (w64 (v15_15+(1:Int)))
def z81_l6 (N:Nat) (l_:(List T12)) (v15_15:Int) (ag15:Int→Option Bool) (x362:T1):Nat→Int→Int→Int→Option Bool
 | 0,_,_,_=>none
 | n16+1,vb7_6_0_24,vb7_6_1_24,v25_24 =>
 bif (decide (v25_24 < (2:Int))) then ((idx ([x362.X,x362.Y]:List Int) v25_24).bind fun x401 =>
 bif (decide (x401 < (0:Int))) then ((z81_l6 N l_ v15_15 ag15 x362 n16) vb7_6_0_24 vb7_6_1_24 (w64 (v25_24+(1:Int))))
 else (idx l_ x401).bind fun x402 =>
 bif (x402.Kind==(0:Int)) then (some false)
 else (idx l_ x401).bind fun x403 =>
 (z160 N x403).bind fun x404 =>
 bif (v25_24==(0:Int)) then ((z81_l6 N l_ v15_15 ag15 x362 n16) x404 vb7_6_1_24 (w64 (v25_24+(1:Int))))
 else bif (v25_24==(1:Int)) then ((z81_l6 N l_ v15_15 ag15 x362 n16) vb7_6_0_24 x404 (w64 (v25_24+(1:Int))))
 else none)
 else z81_k5 v15_15 ag15 x362 vb7_6_0_24 vb7_6_1_24
def z81_l4 (N:Nat) (g_:T6) (l_:(List T12)):Nat→Int→Option Bool
 | 0,_=>none
 | n14+1,v15_15 =>
 bif (decide (v15_15 < (g_.Diffs.length:Int))) then ((idx g_.Diffs v15_15).bind fun x362 =>
 z81_l6 N l_ v15_15 (z81_l4 N g_ l_ n14) x362 N (0:Int) (0:Int) (0:Int))
 else z81_k3 N g_ l_
def z81 (N:Nat) (g_:T6) (l_:(List T12)):Option Bool :=
 z81_l4 N g_ l_ N (0:Int)
def z35 (N:Nat) (decls_:(List T0)) (label_:Int) (values_:(List T12)) (known_:(List T12)):Option Bool :=
 (z79 N decls_ label_ known_).bind fun x1 =>
 bif (!x1) then (some false)
 else (idx decls_ label_).bind fun x2 =>
 (z80 N x2.Fields values_).bind fun x3 =>
 bif (!x3) then (some false)
 else (idx decls_ label_).bind fun x4 =>
 (z82 N x4 values_ known_).bind fun x5 =>
 (z81 N x4.Guard x5).bind fun x6 =>
 some x6
def z261 (N:Nat) (x_:ByteArray):Option Bool :=
 some (!(x_.toList==x_.toList))
def z213 (N:Nat) (x_:ByteArray) (y_:ByteArray):Option Int :=
 (z261 N x_).bind fun x1 =>
 (z261 N y_).bind fun x2 =>
 bif x1 then (bif x2 then (some (0:Int))
 else some (-1:Int))
 else bif x2 then (some (1:Int))
 else bif (Op.bytesLess x_.toList y_.toList) then (some (-1:Int))
 else bif (!((Op.bytesLess x_.toList y_.toList) || (x_.toList==y_.toList))) then (some (1:Int))
 else some (0:Int)
def z146 (N:Nat) (a_:T12) (b_:T12):Option Int :=
 (z212 N a_.Kind b_.Kind).bind fun x1 =>
 (z212 N a_.N b_.N).bind fun x2 =>
 (z212 N (a_.S.size:Int) (b_.S.size:Int)).bind fun x3 =>
 (z213 N a_.S b_.S).bind fun x4 =>
 (z211 N ([x1,x2,x3,x4]:List Int)).bind fun x5 =>
 some x5
def z145 (N:Nat) (x_:T12) (y_:T12):Option Bool :=
 (z146 N x_ y_).bind fun x1 =>
 some (x1==(0:Int))
def z144_22_k1:Option Bool :=
 some true
def z144_22_l2 (N:Nat) (s1_:(List T12)) (s2_:(List T12)):Nat→Int→Option Bool
 | 0,_=>none
 | n2+1,v17_3 =>
 bif (decide (v17_3 < (s1_.length:Int))) then ((idx s1_ v17_3).bind fun x25 =>
 (idx s2_ v17_3).bind fun x26 =>
 (z145 N x25 x26).bind fun x27 =>
 bif (!x27) then (some false)
 else (z144_22_l2 N s1_ s2_ n2) (w64 (v17_3+(1:Int))))
 else z144_22_k1
def z144_22 (N:Nat) (s1_:(List T12)) (s2_:(List T12)):Option Bool :=
 bif ((s1_.length:Int) != (s2_.length:Int)) then (some false)
 else z144_22_l2 N s1_ s2_ N (0:Int)
def z76 (N:Nat) (a_:(List T12)) (b_:(List T12)):Option Bool :=
 (z144_22 N a_ b_).bind fun x1 =>
 some x1
def z36 (N:Nat) (decls_:(List T0)) (label_:Int) (values_:(List T12)) (known_:(List T12)):Option ((List T12) × Int) :=
 (z79 N decls_ label_ known_).bind fun x1 =>
 bif (!x1) then (some (([]:List T12),(1:Int)))
 else (idx decls_ label_).bind fun x2 =>
 (z80 N x2.Fields values_).bind fun x3 =>
 bif (!x3) then (some (([]:List T12),(11:Int)))
 else (idx decls_ label_).bind fun x4 =>
 (z82 N x4 values_ known_).bind fun x5 =>
 some (x5,(0:Int))
def z56_k1 (N:Nat) (g_:T5) (m_:T8) (s_:T16) (x_:T3) (x1:Int) (v40_1:Bool):Option (T16 × Int) :=
 bif v40_1 then (some ((⟨(0:Int),([]:List T12),([]:List T12)⟩:T16),(17:Int)))
 else (idx m_.Moves x1).bind fun x7 =>
 (z36 N g_.Decls x_.Label x_.Values s_.Known).bind fun x8 =>
 bif x_.Send then ((z114 N x_.Values).bind fun x9 =>
 some ((⟨x7.To,x8.1,x9⟩:T16),(0:Int)))
 else some ((⟨x7.To,x8.1,([]:List T12)⟩:T16),(0:Int))
def z56 (N:Nat) (g_:T5) (m_:T8) (s_:T16) (x_:T3):Option (T16 × Int) :=
 (z111_17 N m_.Moves s_ x_).bind fun x1 =>
 bif (x_.Role != m_.Role) then (some ((⟨(0:Int),([]:List T12),([]:List T12)⟩:T16),(12:Int)))
 else bif (decide (x1 < (0:Int))) then (some ((⟨(0:Int),([]:List T12),([]:List T12)⟩:T16),(23:Int)))
 else (idx g_.Decls x_.Label).bind fun x2 =>
 (z113 N x2.Fields x_.Values).bind fun x3 =>
 bif (!x3) then (some ((⟨(0:Int),([]:List T12),([]:List T12)⟩:T16),(11:Int)))
 else (z35 N g_.Decls x_.Label x_.Values s_.Known).bind fun x4 =>
 bif (!x4) then (z56_k1 N g_ m_ s_ x_ x1 true)
 else (idx m_.Moves x1).bind fun x10 =>
 bif x10.Again then ((z76 N x_.Values s_.Pending).bind fun x11 =>
 z56_k1 N g_ m_ s_ x_ x1 (!x11))
 else z56_k1 N g_ m_ s_ x_ x1 false
def z15_k1 (history_:(List T3)) (vb6_10_0_1:Int) (vb6_10_1_1:(List T12)) (vb6_10_2_1:(List T12)):Option (T16 × Int × Int) :=
 some ((⟨vb6_10_0_1,vb6_10_1_1,vb6_10_2_1⟩:T16),(history_.length:Int),(0:Int))
def z15_l2 (N:Nat) (g_:T5) (m_:T8) (history_:(List T3)):Nat→Int→(List T12)→(List T12)→Int→Option (T16 × Int × Int)
 | 0,_,_,_,_=>none
 | n2+1,vb6_10_0_3,vb6_10_1_3,vb6_10_2_3,v24_3 =>
 bif (decide (v24_3 < (history_.length:Int))) then ((idx history_ v24_3).bind fun x19 =>
 (z56 N g_ m_ (⟨vb6_10_0_3,vb6_10_1_3,vb6_10_2_3⟩:T16) x19).bind fun x20 =>
 bif (x20.2 != (0:Int)) then (some ((⟨vb6_10_0_3,vb6_10_1_3,vb6_10_2_3⟩:T16),v24_3,x20.2))
 else (z15_l2 N g_ m_ history_ n2) x20.1.At x20.1.Known x20.1.Pending (w64 (v24_3+(1:Int))))
 else z15_k1 history_ vb6_10_0_3 vb6_10_1_3 vb6_10_2_3
def z15 (N:Nat) (g_:T5) (m_:T8) (history_:(List T3)):Option (T16 × Int × Int) :=
 (z30 N g_ m_).bind fun x1 =>
 (z27 N g_ m_ x1).bind fun x2 =>
 bif (!x2) then (some ((⟨(0:Int),([]:List T12),([]:List T12)⟩:T16),(0:Int),(1:Int)))
 else z15_l2 N g_ m_ history_ N x1.At x1.Known x1.Pending (0:Int)
def z162 (N:Nat) (decls_:(List T0)) (label_:Int) (own_:(List T12)) (known_:(List T12)):Option (List T12) :=
 (appL ([]:List T12) known_).bind fun x1 =>
 (idx decls_ label_).bind fun x2 =>
 (lsl x1 (some x2.First) none).bind fun x3 =>
 (cpL x1 (some x2.First) none own_).bind fun x4 =>
 some x4.1
def z227 (N:Nat) (all_:(List T12)) (x_:Int):Option (Int × Bool) :=
 bif (decide (x_ < (0:Int))) then (some ((0:Int),true))
 else (idx all_ x_).bind fun x1 =>
 (z137 N x1).bind fun x2 =>
 (idx all_ x_).bind fun x3 =>
 some (x2,(x3.Kind != (0:Int)))
def z161_k1:Option (Int × Bool) :=
 some ((0:Int),false)
def z161_l2 (x_:T6) (all_:(List T12)):Nat→Int→Option (Int × Bool)
 | 0,_=>none
 | n3+1,v57_5 =>
 bif (decide (v57_5 < (x_.Equals.length:Int))) then ((idx x_.Equals v57_5).bind fun x37 =>
 (idx all_ x37.1).bind fun x38 =>
 (idx all_ x37.2).bind fun x39 =>
 bif (x38.Kind==(0:Int)) then (some ((w64 ((x_.Diffs.length:Int)+v57_5)),true))
 else bif (x39.Kind==(0:Int)) then (some ((w64 ((x_.Diffs.length:Int)+v57_5)),true))
 else bif (!(x38.S.toList==x39.S.toList)) then (some ((w64 ((x_.Diffs.length:Int)+v57_5)),true))
 else (z161_l2 x_ all_ n3) (w64 (v57_5+(1:Int))))
 else z161_k1
def z161_k3 (N:Nat) (x_:T6) (all_:(List T12)):Option (Int × Bool) :=
 z161_l2 x_ all_ N (0:Int)
def z161_l4 (N:Nat) (x_:T6) (all_:(List T12)):Nat→Int→Option (Int × Bool)
 | 0,_=>none
 | n4+1,v19_6 =>
 bif (decide (v19_6 < (x_.Diffs.length:Int))) then ((idx x_.Diffs v19_6).bind fun x52 =>
 (z227 N all_ x52.X).bind fun x53 =>
 (z227 N all_ x52.Y).bind fun x54 =>
 bif (!x53.2) then (some (v19_6,true))
 else bif (!x54.2) then (some (v19_6,true))
 else bif (decide ((w64 (x53.1-x54.1)) > x52.C)) then (some (v19_6,true))
 else (z161_l4 N x_ all_ n4) (w64 (v19_6+(1:Int))))
 else z161_k3 N x_ all_
def z161 (N:Nat) (x_:T6) (all_:(List T12)):Option (Int × Bool) :=
 z161_l4 N x_ all_ N (0:Int)
def z163_k1 (a_:(List T12)):Option Int :=
 some (a_.length:Int)
def z163_l2 (N:Nat) (a_:(List T12)) (b_:(List T12)):Nat→Int→Option Int
 | 0,_=>none
 | n2+1,v8_3 =>
 bif (decide (v8_3 < (a_.length:Int))) then (bif (decide (v8_3≥(b_.length:Int))) then (some v8_3)
 else (idx a_ v8_3).bind fun x25 =>
 (idx b_ v8_3).bind fun x26 =>
 (z146 N x25 x26).bind fun x27 =>
 bif (x27 != (0:Int)) then (some v8_3)
 else (z163_l2 N a_ b_ n2) (w64 (v8_3+(1:Int))))
 else z163_k1 a_
def z163 (N:Nat) (a_:(List T12)) (b_:(List T12)):Option Int :=
 z163_l2 N a_ b_ N (0:Int)
def z84_k1 (N:Nat) (g_:T5) (s_:T16) (x_:T3) (x1:T0):Option (Int × Int) :=
 (z162 N g_.Decls x_.Label x_.Values s_.Known).bind fun x14 =>
 (z161 N x1.Guard x14).bind fun x15 =>
 bif x15.2 then (some ((5:Int),x15.1))
 else (z163 N x_.Values s_.Pending).bind fun x16 =>
 some ((6:Int),x16)
def z84_l2 (N:Nat) (g_:T5) (s_:T16) (x_:T3) (x1:T0):Nat→Int→Option (Int × Int)
 | 0,_=>none
 | n2+1,v36_3 =>
 bif (decide (v36_3 < (x1.Fields.length:Int))) then ((idx x1.Fields v36_3).bind fun x29 =>
 (idx x_.Values v36_3).bind fun x30 =>
 (z71 N x29.Sort' x30).bind fun x31 =>
 bif (!x31) then (some ((4:Int),v36_3))
 else (z84_l2 N g_ s_ x_ x1 n2) (w64 (v36_3+(1:Int))))
 else z84_k1 N g_ s_ x_ x1
def z84 (N:Nat) (g_:T5) (s_:T16) (x_:T3) (e_:Int):Option (Int × Int) :=
 bif (e_==(12:Int)) then (some ((1:Int),(0:Int)))
 else bif (e_==(23:Int)) then (some ((2:Int),(0:Int)))
 else (idx g_.Decls x_.Label).bind fun x1 =>
 bif ((x_.Values.length:Int) != (x1.Fields.length:Int)) then (some ((3:Int),(0:Int)))
 else z84_l2 N g_ s_ x_ x1 N (0:Int)
def z39_k1 (N:Nat) (g_:T5) (m_:T8) (history_:(List T3)) (x1:T16 × Int × Int) (v21_1:Bool):Option (T13 × Bool × Int) :=
 bif v21_1 then (some ((⟨(0:Int),(0:Int),(0:Int),(0:Int)⟩:T13),false,x1.2.2))
 else (idx history_ x1.2.1).bind fun x2 =>
 (z84 N g_ x1.1 x2 x1.2.2).bind fun x3 =>
 bif (x3.1==(1:Int)) then (some ((⟨x1.2.1,x3.1,x3.2,x2.Role⟩:T13),true,(0:Int)))
 else bif x2.Send then (some ((⟨x1.2.1,x3.1,x3.2,m_.Role⟩:T13),true,(0:Int)))
 else some ((⟨x1.2.1,x3.1,x3.2,x2.Peer⟩:T13),true,(0:Int))
def z39 (N:Nat) (g_:T5) (m_:T8) (history_:(List T3)):Option (T13 × Bool × Int) :=
 (z15 N g_ m_ history_).bind fun x1 =>
 bif (x1.2.2==(0:Int)) then (z39_k1 N g_ m_ history_ x1 true)
 else z39_k1 N g_ m_ history_ x1 (x1.2.2==(1:Int))
def z93 (N:Nat) (l_:(List ByteArray)) (i_:Int):Option ByteArray :=
 bif (decide (i_ < (0:Int))) then (some (str [63]))
 else bif (decide (i_≥(l_.length:Int))) then (some (str [63]))
 else (idx l_ i_).bind fun x1 =>
 some x1
def z94_k1 (v3_1:(List ByteArray)):Option (List ByteArray) :=
 some v3_1
def z94_l2 (decls_:(List T0)):Nat→(List ByteArray)→Int→Option (List ByteArray)
 | 0,_,_=>none
 | n2+1,v3_3,v8_3 =>
 bif (decide (v8_3 < (decls_.length:Int))) then ((idx decls_ v8_3).bind fun x17 =>
 (appL v3_3 ([x17.Name]:List ByteArray)).bind fun x18 =>
 (z94_l2 decls_ n2) x18 (w64 (v8_3+(1:Int))))
 else z94_k1 v3_3
def z94 (N:Nat) (decls_:(List T0)):Option (List ByteArray) :=
 z94_l2 decls_ N ([]:List ByteArray) (0:Int)
def z165 (N:Nat) (v_:T12):Option ByteArray:=(z139 N v_).bind fun x1=>bif ((decide ((-9223372036854775808:Int)≤v_.N) && decide (v_.N≤9223372036854775807)) && decide (v_.S.size≤35184372088832)) then some (if x1=false then str [63] else if v_.Kind=1 then itoaS v_.N else ⟨([34]++quoL v_.S.data.toList++[34]).toArray⟩) else none
def z167 (N:Nat) (elems_:List ByteArray) (sep_:ByteArray):Option ByteArray:=bif (decide (elems_.length≤140737488355328) && decide ((joinL sep_.data.toList (elems_.map (·.data.toList))).length≤140737488355328)) then some ⟨(joinL sep_.data.toList (elems_.map (·.data.toList))).toArray⟩ else none
def z95_k1 (N:Nat) (v3_1:(List ByteArray)):Option ByteArray :=
 (z167 N v3_1 (str [44,32])).bind fun x13 =>
 (catS (str [40]) x13).bind fun x14 =>
 (catS x14 (str [41])).bind fun x15 =>
 some x15
def z95_l2 (N:Nat) (l_:(List T12)):Nat→(List ByteArray)→Int→Option ByteArray
 | 0,_,_=>none
 | n2+1,v3_3,v8_3 =>
 bif (decide (v8_3 < (l_.length:Int))) then ((idx l_ v8_3).bind fun x28 =>
 (z165 N x28).bind fun x29 =>
 (appL v3_3 ([x29]:List ByteArray)).bind fun x30 =>
 (z95_l2 N l_ n2) x30 (w64 (v8_3+(1:Int))))
 else z95_k1 N v3_3
def z95 (N:Nat) (l_:(List T12)):Option ByteArray :=
 z95_l2 N l_ N ([]:List ByteArray) (0:Int)
def z44_k1 (N:Nat) (g_:T5) (x_:T3) (v5_1:ByteArray) (v6_1:ByteArray):Option ByteArray :=
 (z93 N g_.Roles x_.Role).bind fun x1 =>
 (catS x1 v5_1).bind fun x2 =>
 (z94 N g_.Decls).bind fun x3 =>
 (z93 N x3 x_.Label).bind fun x4 =>
 (catS x2 x4).bind fun x5 =>
 (z95 N x_.Values).bind fun x6 =>
 (catS x5 x6).bind fun x7 =>
 (catS x7 v6_1).bind fun x8 =>
 (z93 N g_.Roles x_.Peer).bind fun x9 =>
 (catS x8 x9).bind fun x10 =>
 some x10
def z44 (N:Nat) (g_:T5) (x_:T3):Option ByteArray :=
 bif x_.Send then (z44_k1 N g_ x_ (str [32,115,101,110,100,115,32]) (str [32,116,111,32]))
 else z44_k1 N g_ x_ (str [32,103,101,116,115,32]) (str [32,102,114,111,109,32])
def z164 (N:Nat) (i_:Int):Option ByteArray:=bif (decide ((-9223372036854775808:Int)≤i_) && decide (i_≤9223372036854775807)) then some (itoaS i_) else none
def z170_k1:Option (T0 × T4 × Bool) :=
 some ((⟨(str []),([]:List T4),(0:Int),(⟨([]:List T1),([]:List (Int × Int))⟩:T6)⟩:T0),(⟨(str []),(⟨(0:Int),(0:Int),(0:Int)⟩:T10)⟩:T4),false)
def z170_l2 (decls_:(List T0)):Nat→Int→Int→Option (T0 × T4 × Bool)
 | 0,_,_=>none
 | n2+1,v1_3,v11_3 =>
 bif (decide (v11_3 < (decls_.length:Int))) then ((idx decls_ v11_3).bind fun x17 =>
 bif (decide (v1_3≥(0:Int))) then (bif (decide (v1_3 < (x17.Fields.length:Int))) then ((idx x17.Fields v1_3).bind fun x18 =>
 some (x17,x18,true))
 else (z170_l2 decls_ n2) (w64 (v1_3-(x17.Fields.length:Int))) (w64 (v11_3+(1:Int))))
 else (z170_l2 decls_ n2) (w64 (v1_3-(x17.Fields.length:Int))) (w64 (v11_3+(1:Int))))
 else z170_k1
def z170 (N:Nat) (decls_:(List T0)) (x_:Int):Option (T0 × T4 × Bool) :=
 z170_l2 decls_ N x_ (0:Int)
def z100 (N:Nat) (decls_:(List T0)) (x_:Int):Option ByteArray :=
 (z170 N decls_ x_).bind fun x1 =>
 (catS x1.1.Name (str [46])).bind fun x2 =>
 (catS x2 x1.2.1.Name).bind fun x3 =>
 some x3
def z169 (N:Nat) (decls_:(List T0)) (x_:Int):Option ByteArray :=
 (z170 N decls_ x_).bind fun x1 =>
 bif (x1.2.1.Sort'.Kind==(2:Int)) then ((z100 N decls_ x_).bind fun x2 =>
 (catS (str [108,101,110,40]) x2).bind fun x3 =>
 (catS x3 (str [41])).bind fun x4 =>
 some x4)
 else (z100 N decls_ x_).bind fun x5 =>
 some x5
def z99_k1 (N:Nat) (decls_:(List T0)) (d_:T1) (v6_1:Bool):Option ByteArray :=
 bif v6_1 then ((z164 N d_.C).bind fun x1 =>
 (catS (str [48,32,60,61,32]) x1).bind fun x2 =>
 some x2)
 else bif (decide (d_.Y < (0:Int))) then ((z169 N decls_ d_.X).bind fun x3 =>
 (catS x3 (str [32,60,61,32])).bind fun x4 =>
 (z164 N d_.C).bind fun x5 =>
 (catS x4 x5).bind fun x6 =>
 some x6)
 else bif (decide (d_.X < (0:Int))) then ((z169 N decls_ d_.Y).bind fun x7 =>
 (catS x7 (str [32,62,61,32])).bind fun x8 =>
 (z164 N (w64 (0-d_.C))).bind fun x9 =>
 (catS x8 x9).bind fun x10 =>
 some x10)
 else (z169 N decls_ d_.X).bind fun x11 =>
 (catS x11 (str [32,60,61,32])).bind fun x12 =>
 (z169 N decls_ d_.Y).bind fun x13 =>
 (catS x12 x13).bind fun x14 =>
 bif (decide (d_.C > (0:Int))) then ((catS x14 (str [32,43,32])).bind fun x15 =>
 (z164 N d_.C).bind fun x16 =>
 (catS x15 x16).bind fun x17 =>
 some x17)
 else bif (decide (d_.C < (0:Int))) then ((catS x14 (str [32,45,32])).bind fun x18 =>
 (z164 N (w64 (0-d_.C))).bind fun x19 =>
 (catS x18 x19).bind fun x20 =>
 some x20)
 else some x14
def z99 (N:Nat) (decls_:(List T0)) (d_:T1):Option ByteArray :=
 bif (decide (d_.X < (0:Int))) then (z99_k1 N decls_ d_ (decide (d_.Y < (0:Int))))
 else z99_k1 N decls_ d_ false
def z46 (N:Nat) (decls_:(List T0)) (label_:Int) (part_:Int):Option ByteArray :=
 (z98 N decls_ label_).bind fun x1 =>
 bif (x1.2 != (0:Int)) then (some (str []))
 else bif (decide (part_ < (0:Int))) then (some (str []))
 else (idx decls_ label_).bind fun x2 =>
 bif (decide (part_ < (x2.Guard.Diffs.length:Int))) then ((idx x2.Guard.Diffs part_).bind fun x3 =>
 (z99 N decls_ x3).bind fun x4 =>
 some x4)
 else bif (decide ((w64 (part_-(x2.Guard.Diffs.length:Int))) < (x2.Guard.Equals.length:Int))) then ((idx x2.Guard.Equals (w64 (part_-(x2.Guard.Diffs.length:Int)))).bind fun x5 =>
 (z100 N decls_ x5.1).bind fun x6 =>
 (catS x6 (str [32,61,61,32])).bind fun x7 =>
 (idx x2.Guard.Equals (w64 (part_-(x2.Guard.Diffs.length:Int)))).bind fun x8 =>
 (z100 N decls_ x8.2).bind fun x9 =>
 (catS x7 x9).bind fun x10 =>
 some x10)
 else some (str [])
def z88 (N:Nat) (g_:T5) (m_:T8) (b_:T13) (x_:T3):Option ByteArray :=
 bif (b_.Kind==(1:Int)) then ((z93 N g_.Roles m_.Role).bind fun x1 =>
 (catS (str [105,115,32,110,111,116,32,97,110,32,101,118,101,110,116,32,111,102,32]) x1).bind fun x2 =>
 some x2)
 else bif (b_.Kind==(2:Int)) then (some (str [105,115,32,110,111,116,32,112,101,114,109,105,116,116,101,100,32,104,101,114,101]))
 else bif (b_.Kind==(3:Int)) then ((z164 N (x_.Values.length:Int)).bind fun x3 =>
 (catS (str [104,97,115,32]) x3).bind fun x4 =>
 (catS x4 (str [32,118,97,108,117,101,115,32,105,110,115,116,101,97,100,32,111,102,32])).bind fun x5 =>
 (idx g_.Decls x_.Label).bind fun x6 =>
 (z164 N (x6.Fields.length:Int)).bind fun x7 =>
 (catS x5 x7).bind fun x8 =>
 some x8)
 else bif (b_.Kind==(4:Int)) then ((idx g_.Decls x_.Label).bind fun x9 =>
 (idx x9.Fields b_.Part).bind fun x10 =>
 (idx x_.Values b_.Part).bind fun x11 =>
 (z165 N x11).bind fun x12 =>
 (catS (str [104,97,115,32,116,104,101,32,118,97,108,117,101,32]) x12).bind fun x13 =>
 (catS x13 (str [32,102,111,114,32])).bind fun x14 =>
 (catS x14 x10.Name).bind fun x15 =>
 (catS x15 (str [44,32,119,104,105,99,104,32,105,115,32,110,111,116,32,102,114,111,109,32])).bind fun x16 =>
 (z164 N x10.Sort'.Lo).bind fun x17 =>
 (catS x16 x17).bind fun x18 =>
 (catS x18 (str [32,116,111,32])).bind fun x19 =>
 (z164 N x10.Sort'.Hi).bind fun x20 =>
 (catS x19 x20).bind fun x21 =>
 some x21)
 else bif (b_.Kind==(5:Int)) then ((z46 N g_.Decls x_.Label b_.Part).bind fun x22 =>
 (catS (str [100,111,101,115,32,110,111,116,32,107,101,101,112,32,116,104,101,32,103,117,97,114,100,32]) x22).bind fun x23 =>
 some x23)
 else some (str [100,111,101,115,32,110,111,116,32,104,97,118,101,32,116,104,101,32,115,97,109,101,32,118,97,108,117,101,115,32,97,115,32,116,104,101,32,109,101,115,115,97,103,101,32,97,104,101,97,100])
def z41 (N:Nat) (g_:T5) (m_:T8) (history_:(List T3)):Option (ByteArray × Int) :=
 (z39 N g_ m_ history_).bind fun x1 =>
 bif (x1.2.2 != (0:Int)) then (some ((str []),x1.2.2))
 else bif (!x1.2.1) then (some ((str []),x1.2.2))
 else (idx history_ x1.1.At).bind fun x2 =>
 (z44 N g_ x2).bind fun x3 =>
 (catS x3 (str [32])).bind fun x4 =>
 (z88 N g_ m_ x1.1 x2).bind fun x5 =>
 (catS x4 x5).bind fun x6 =>
 some (x6,(0:Int))
def z37 (N:Nat):Option Bool :=
 (lsl ([(⟨(str [120]),([(⟨(str [110]),(⟨(1:Int),(0:Int),(9:Int)⟩:T10)⟩:T4)]:List T4),(0:Int),(⟨([]:List T1),([]:List (Int × Int))⟩:T6)⟩:T0),(⟨(str [121]),([(⟨(str [109]),(⟨(1:Int),(0:Int),(9:Int)⟩:T10)⟩:T4)]:List T4),(1:Int),(⟨([(⟨(0:Int),(1:Int),(-1:Int)⟩:T1)]:List T1),([]:List (Int × Int))⟩:T6)⟩:T0)]:List T0) none (some (1:Int))).bind fun x1 =>
 (z83 N (3:Int)).bind fun x2 =>
 (z39 N (⟨(str [80]),([(str [97]),(str [98])]:List ByteArray),x1,(2:Int),(0:Int),(1:Int),([(⟨(0:Int),(⟨(0:Int),(1:Int),(0:Int)⟩:T7),(1:Int),false⟩:T2)]:List T2),([]:List T11)⟩:T5) (⟨(0:Int),(2:Int),(0:Int),([false,true]:List Bool),([(⟨(0:Int),true,(1:Int),(0:Int),(1:Int),false⟩:T9)]:List T9),([]:List T11)⟩:T8) ([(⟨(1:Int),false,(0:Int),(0:Int),([x2]:List T12)⟩:T3)]:List T3)).bind fun x3 =>
 (z41 N (⟨(str [80]),([(str [97]),(str [98])]:List ByteArray),x1,(2:Int),(0:Int),(1:Int),([(⟨(0:Int),(⟨(0:Int),(1:Int),(0:Int)⟩:T7),(1:Int),false⟩:T2)]:List T2),([]:List T11)⟩:T5) (⟨(0:Int),(2:Int),(0:Int),([false,true]:List Bool),([(⟨(0:Int),true,(1:Int),(0:Int),(1:Int),false⟩:T9)]:List T9),([]:List T11)⟩:T8) ([(⟨(1:Int),false,(0:Int),(0:Int),([x2]:List T12)⟩:T3)]:List T3)).bind fun x4 =>
 (z46 N ([(⟨(str [120]),([(⟨(str [110]),(⟨(1:Int),(0:Int),(9:Int)⟩:T10)⟩:T4)]:List T4),(0:Int),(⟨([]:List T1),([]:List (Int × Int))⟩:T6)⟩:T0),(⟨(str [121]),([(⟨(str [109]),(⟨(1:Int),(0:Int),(9:Int)⟩:T10)⟩:T4)]:List T4),(1:Int),(⟨([(⟨(0:Int),(1:Int),(-1:Int)⟩:T1)]:List T1),([]:List (Int × Int))⟩:T6)⟩:T0)]:List T0) (1:Int) (0:Int)).bind fun x5 =>
 bif (x5.toList==(str [120,46,110,32,60,61,32,121,46,109,32,45,32,49]).toList) then (bif x3.2.1 then (bif (x3.2.2==(0:Int)) then (bif (x4.2==(0:Int)) then (bif ((x3.1.At==(0:Int)) && ((x3.1.Kind==(1:Int)) && ((x3.1.Part==(0:Int)) && ((x3.1.Role==(1:Int)) && true)))) then (some (x4.1.toList==(str [98,32,103,101,116,115,32,120,40,51,41,32,102,114,111,109,32,97,32,105,115,32,110,111,116,32,97,110,32,101,118,101,110,116,32,111,102,32,97]).toList))
 else some false)
 else some false)
 else some false)
 else some false)
 else some false
def z92_k1 (l_:(List T0)) (v3_1:Int):Option Bool :=
 bif (decide ((l_.length:Int)≤(60:Int))) then (some (decide (v3_1≤(100:Int))))
 else some false
def z92_l2 (l_:(List T0)):Nat→Int→Int→Option Bool
 | 0,_,_=>none
 | n2+1,v3_3,v4_3 =>
 bif (decide (v4_3 < (l_.length:Int))) then ((idx l_ v4_3).bind fun x25 =>
 (idx l_ v4_3).bind fun x26 =>
 (idx l_ v4_3).bind fun x27 =>
 (z92_l2 l_ n2) (w64 (v3_3+(w64 ((w64 ((x25.Fields.length:Int)+(x26.Guard.Diffs.length:Int)))+(x27.Guard.Equals.length:Int))))) (w64 (v4_3+(1:Int))))
 else z92_k1 l_ v3_3
def z92 (N:Nat) (l_:(List T0)):Option Bool :=
 z92_l2 l_ N (0:Int) (0:Int)
def z43 (N:Nat) (g_:T5):Option Bool :=
 bif (decide (g_.States≤(40:Int))) then (bif (decide ((g_.Edges.length:Int)≤(80:Int))) then (bif (decide ((g_.Timeouts.length:Int)≤(40:Int))) then (bif (decide ((g_.Roles.length:Int)≤(10:Int))) then ((z92 N g_.Decls).bind fun x1 =>
 some x1)
 else some false)
 else some false)
 else some false)
 else some false
def z20_k1 (l_:(List T12)):Option Bool :=
 some (decide ((l_.length:Int)≤(40:Int)))
def z20_l2 (l_:(List T12)):Nat→Int→Option Bool
 | 0,_=>none
 | n2+1,v3_3 =>
 bif (decide (v3_3 < (l_.length:Int))) then ((idx l_ v3_3).bind fun x9 =>
 bif (decide ((x9.S.size:Int) > (100:Int))) then (some false)
 else (z20_l2 l_ n2) (w64 (v3_3+(1:Int))))
 else z20_k1 l_
def z20 (N:Nat) (l_:(List T12)):Option Bool :=
 z20_l2 l_ N (0:Int)
def z238 (N:Nat) (c_:Int):Option Bool :=
 bif (decide (c_≥(97:Int))) then (bif (decide (c_≤(122:Int))) then (some true)
 else bif (decide (c_≥(65:Int))) then (some (decide (c_≤(90:Int))))
 else some false)
 else bif (decide (c_≥(65:Int))) then (some (decide (c_≤(90:Int))))
 else some false
def z274 (N:Nat) (c_:Int):Option Bool :=
 bif (decide (c_≥(48:Int))) then (some (decide (c_≤(57:Int))))
 else some false
def z239 (N:Nat) (c_:Int):Option Bool :=
 (z238 N c_).bind fun x1 =>
 bif x1 then (some true)
 else (z274 N c_).bind fun x2 =>
 bif x2 then (some true)
 else some (c_==(95:Int))
def z184_k1:Option Bool :=
 some true
def z184_l2 (N:Nat) (s_:ByteArray):Nat→Int→Option Bool
 | 0,_=>none
 | n2+1,v3_3 =>
 bif (decide (v3_3 < (s_.size:Int))) then ((sidx s_ v3_3).bind fun x19 =>
 (z239 N x19).bind fun x20 =>
 bif (!x20) then (some false)
 else (z184_l2 N s_ n2) (w64 (v3_3+(1:Int))))
 else z184_k1
def z184 (N:Nat) (s_:ByteArray):Option Bool :=
 bif (s_.toList==(str []).toList) then (some false)
 else (sidx s_ (0:Int)).bind fun x1 =>
 (z238 N x1).bind fun x2 =>
 bif (!x2) then (some false)
 else bif (decide ((s_.size:Int) > (16:Int))) then (some false)
 else z184_l2 N s_ N (0:Int)
def z234 (N:Nat):Option (List ByteArray) :=
 some ([(str [97,103,97,105,110]),(str [97,110,100]),(str [97,115]),(str [97,116]),(str [99,97,108,108]),(str [99,104,111,105,99,101]),(str [101,108,115,101]),(str [102,114,111,109]),(str [105,102]),(str [105,110,116]),(str [108,101,110]),(str [108,111,111,112]),(str [109,101,115,115,97,103,101]),(str [111,102]),(str [111,102,102,101,114]),(str [111,110]),(str [111,114]),(str [112,97,114]),(str [112,108,97,121,115]),(str [112,114,111,116,111,99,111,108]),(str [115,101,114,118,105,99,101]),(str [116,101,120,116]),(str [116,105,109,101,115]),(str [116,111]),(str [118,97,114]),(str [119,104,101,114,101]),(str [119,104,105,108,101]),(str [119,105,116,104,105,110])]:List ByteArray)
def z233_k1:Option Bool :=
 some false
def z233_l2 (l_:(List ByteArray)) (s_:ByteArray):Nat→Int→Option Bool
 | 0,_=>none
 | n2+1,v5_3 =>
 bif (decide (v5_3 < (l_.length:Int))) then ((idx l_ v5_3).bind fun x9 =>
 bif (x9.toList==s_.toList) then (some true)
 else (z233_l2 l_ s_ n2) (w64 (v5_3+(1:Int))))
 else z233_k1
def z233 (N:Nat) (l_:(List ByteArray)) (s_:ByteArray):Option Bool :=
 z233_l2 l_ s_ N (0:Int)
def z172 (N:Nat) (s_:ByteArray):Option Bool :=
 (z184 N s_).bind fun x1 =>
 bif x1 then ((z234 N).bind fun x2 =>
 (z233 N x2 s_).bind fun x3 =>
 some (!x3))
 else some false
def z104_k1 (v3_1:Int):Option Int :=
 some v3_1
def z104_l2 (decls_:(List T0)):Nat→Int→Int→Option Int
 | 0,_,_=>none
 | n2+1,v3_3,v4_3 =>
 bif (decide (v4_3 < (decls_.length:Int))) then ((idx decls_ v4_3).bind fun x9 =>
 (z104_l2 decls_ n2) (w64 (v3_3+(x9.Fields.length:Int))) (w64 (v4_3+(1:Int))))
 else z104_k1 v3_3
def z104 (N:Nat) (decls_:(List T0)):Option Int :=
 z104_l2 decls_ N (0:Int) (0:Int)
def z171_k1 (s_:T10) (v3_1:Int) (v4_1:Int):Option Bool :=
 bif (s_.Kind==(1:Int)) then (bif (decide (s_.Lo≥v3_1)) then (bif (decide (s_.Hi≤v4_1)) then (some (decide (s_.Lo≤s_.Hi)))
 else some false)
 else some false)
 else bif (s_.Kind==(2:Int)) then (bif (decide (s_.Lo≥v3_1)) then (bif (decide (s_.Hi≤v4_1)) then (some (decide (s_.Lo≤s_.Hi)))
 else some false)
 else some false)
 else some false
def z171 (N:Nat) (s_:T10):Option Bool :=
 bif (s_.Kind==(2:Int)) then (z171_k1 s_ (0:Int) (40:Int))
 else z171_k1 s_ (-1000:Int) (1000:Int)
def z235 (N:Nat) (s_:ByteArray):Option Bool :=
 (z172 N s_).bind fun x1 =>
 some x1
def z173_k1 (s_:ByteArray):Option Bool :=
 some (decide ((s_.size:Int)≤(50:Int)))
def z173_k3 (N:Nat) (s_:ByteArray) (v3_6:Int) (v4_6:Int) (ag6:Int→Int→Option Bool) (v20_9:Bool):Option Bool :=
 bif v20_9 then ((ssl s_ (some v3_6) (some v4_6)).bind fun x34 =>
 (z235 N x34).bind fun x35 =>
 bif (!x35) then (some false)
 else ag6 (w64 (v4_6+(1:Int))) (w64 (v4_6+(1:Int))))
 else ag6 v3_6 (w64 (v4_6+(1:Int)))
def z173_l2 (N:Nat) (s_:ByteArray):Nat→Int→Int→Option Bool
 | 0,_,_=>none
 | n2+1,v3_6,v4_6 =>
 bif (decide (v4_6≤(s_.size:Int))) then (bif (v4_6==(s_.size:Int)) then (z173_k3 N s_ v3_6 v4_6 (z173_l2 N s_ n2) true)
 else (sidx s_ v4_6).bind fun x36 =>
 z173_k3 N s_ v3_6 v4_6 (z173_l2 N s_ n2) (x36==(46:Int)))
 else z173_k1 s_
def z173 (N:Nat) (s_:ByteArray):Option Bool :=
 z173_l2 N s_ N (0:Int) (0:Int)
def z106_k1:Option T4 :=
 some (⟨(str []),(⟨(0:Int),(0:Int),(0:Int)⟩:T10)⟩:T4)
def z106_l2 (decls_:(List T0)):Nat→Int→Int→Option T4
 | 0,_,_=>none
 | n2+1,v1_3,v5_3 =>
 bif (decide (v5_3 < (decls_.length:Int))) then ((idx decls_ v5_3).bind fun x33 =>
 bif (decide (v1_3 < (x33.Fields.length:Int))) then ((idx decls_ v5_3).bind fun x34 =>
 (idx x34.Fields v1_3).bind fun x35 =>
 some x35)
 else (idx decls_ v5_3).bind fun x36 =>
 (z106_l2 decls_ n2) (w64 (v1_3-(x36.Fields.length:Int))) (w64 (v5_3+(1:Int))))
 else z106_k1
def z106 (N:Nat) (decls_:(List T0)) (x_:Int):Option T4 :=
 z106_l2 decls_ N x_ (0:Int)
def z236 (N:Nat) (decls_:(List T0)) (x_:Int):Option Bool :=
 bif (decide (x_≥(0:Int))) then ((z104 N decls_).bind fun x1 =>
 bif (decide (x_ < x1)) then ((z106 N decls_ x_).bind fun x2 =>
 some (x2.Sort'.Kind==(2:Int)))
 else some false)
 else some false
def z174_k1 (g_:T6):Option Bool :=
 bif (decide ((g_.Diffs.length:Int)≤(20:Int))) then (some (decide ((g_.Equals.length:Int)≤(20:Int))))
 else some false
def z174_l2 (N:Nat) (decls_:(List T0)) (g_:T6):Nat→Int→Option Bool
 | 0,_=>none
 | n3+1,v8_5 =>
 bif (decide (v8_5 < (g_.Equals.length:Int))) then ((idx g_.Equals v8_5).bind fun x38 =>
 (z236 N decls_ x38.1).bind fun x39 =>
 bif (!x39) then (some false)
 else (idx g_.Equals v8_5).bind fun x40 =>
 (z236 N decls_ x40.2).bind fun x41 =>
 bif (!x41) then (some false)
 else (z174_l2 N decls_ g_ n3) (w64 (v8_5+(1:Int))))
 else z174_k1 g_
def z174_k3 (N:Nat) (decls_:(List T0)) (g_:T6):Option Bool :=
 z174_l2 N decls_ g_ N (0:Int)
def z174_l4 (N:Nat) (decls_:(List T0)) (g_:T6) (x1:Int):Nat→Int→Option Bool
 | 0,_=>none
 | n4+1,v6_6 =>
 bif (decide (v6_6 < (g_.Diffs.length:Int))) then ((idx g_.Diffs v6_6).bind fun x46 =>
 bif (decide (x46.X < (-1:Int))) then (some false)
 else bif (decide (x46.X≥x1)) then (some false)
 else bif (decide (x46.Y < (-1:Int))) then (some false)
 else bif (decide (x46.Y≥x1)) then (some false)
 else bif (decide (x46.C < (-20000:Int))) then (some false)
 else bif (decide (x46.C > (20000:Int))) then (some false)
 else (z174_l4 N decls_ g_ x1 n4) (w64 (v6_6+(1:Int))))
 else z174_k3 N decls_ g_
def z174 (N:Nat) (decls_:(List T0)) (g_:T6):Option Bool :=
 (z104 N decls_).bind fun x1 =>
 z174_l4 N decls_ g_ x1 N (0:Int)
def z101_k1:Option Bool :=
 some true
def z101_k3 (N:Nat) (decls_:(List T0)) (v3_75:Int) (v4_75:Int) (ag75:Int→Int→Option Bool) (x1395:T0):Option Bool :=
 (z173 N x1395.Name).bind fun x1480 =>
 bif (!x1480) then (some false)
 else bif (decide ((x1395.Fields.length:Int) > (4:Int))) then (some false)
 else bif (x1395.First != v3_75) then (some false)
 else (z174 N decls_ x1395.Guard).bind fun x1481 =>
 bif (!x1481) then (some false)
 else ag75 (w64 (v3_75+(x1395.Fields.length:Int))) (w64 (v4_75+(1:Int)))
def z101_k5 (v7_137:Int) (ag137:Int→Option Bool):Option Bool :=
 ag137 (w64 (v7_137+(1:Int)))
def z101_l6 (x1395:T0) (v7_137:Int) (ag137:Int→Option Bool):Nat→Int→Option Bool
 | 0,_=>none
 | n97+1,v8_146 =>
 bif (decide (v8_146 < v7_137)) then ((idx x1395.Fields v8_146).bind fun x1584 =>
 (idx x1395.Fields v7_137).bind fun x1585 =>
 bif (x1584.Name.toList==x1585.Name.toList) then (some false)
 else (z101_l6 x1395 v7_137 ag137 n97) (w64 (v8_146+(1:Int))))
 else z101_k5 v7_137 ag137
def z101_l4 (N:Nat) (decls_:(List T0)) (v3_75:Int) (v4_75:Int) (ag75:Int→Int→Option Bool) (x1395:T0):Nat→Int→Option Bool
 | 0,_=>none
 | n95+1,v7_137 =>
 bif (decide (v7_137 < (x1395.Fields.length:Int))) then ((idx x1395.Fields v7_137).bind fun x1564 =>
 (z171 N x1564.Sort').bind fun x1565 =>
 bif (!x1565) then (some false)
 else (idx x1395.Fields v7_137).bind fun x1566 =>
 (z172 N x1566.Name).bind fun x1567 =>
 bif (!x1567) then (some false)
 else z101_l6 x1395 v7_137 (z101_l4 N decls_ v3_75 v4_75 ag75 x1395 n95) N (0:Int))
 else z101_k3 N decls_ v3_75 v4_75 ag75 x1395
def z101_k7 (N:Nat) (decls_:(List T0)) (v3_75:Int) (v4_75:Int) (ag75:Int→Int→Option Bool) (x1395:T0):Option Bool :=
 z101_l4 N decls_ v3_75 v4_75 ag75 x1395 N (0:Int)
def z101_l8 (N:Nat) (decls_:(List T0)) (v3_75:Int) (v4_75:Int) (ag75:Int→Int→Option Bool) (x1395:T0):Nat→Int→Option Bool
 | 0,_=>none
 | n98+1,v6_147 =>
 bif (decide (v6_147 < v4_75)) then ((idx decls_ v6_147).bind fun x1590 =>
 bif (x1590.Name.toList==x1395.Name.toList) then (some false)
 else (z101_l8 N decls_ v3_75 v4_75 ag75 x1395 n98) (w64 (v6_147+(1:Int))))
 else z101_k7 N decls_ v3_75 v4_75 ag75 x1395
def z101_l2 (N:Nat) (decls_:(List T0)):Nat→Int→Int→Option Bool
 | 0,_,_=>none
 | n82+1,v3_75,v4_75 =>
 bif (decide (v4_75 < (decls_.length:Int))) then ((idx decls_ v4_75).bind fun x1395 =>
 z101_l8 N decls_ v3_75 v4_75 (z101_l2 N decls_ n82) x1395 N (0:Int))
 else z101_k1
def z101 (N:Nat) (decls_:(List T0)):Option Bool :=
 bif (decide ((decls_.length:Int) > (40:Int))) then (some false)
 else (z104 N decls_).bind fun x1 =>
 bif (decide (x1 > (24:Int))) then (some false)
 else z101_l2 N decls_ N (0:Int) (0:Int)
def z176_k1:Option Bool :=
 some true
def z176_l2 (s_:ByteArray):Nat→Int→Option Bool
 | 0,_=>none
 | n2+1,v3_3 =>
 bif (decide (v3_3 < (s_.size:Int))) then ((sidx s_ v3_3).bind fun x17 =>
 bif (decide (x17 < (32:Int))) then (some false)
 else (sidx s_ v3_3).bind fun x18 =>
 bif (decide (x18 > (126:Int))) then (some false)
 else (z176_l2 s_ n2) (w64 (v3_3+(1:Int))))
 else z176_k1
def z176 (N:Nat) (s_:ByteArray):Option Bool :=
 z176_l2 s_ N (0:Int)
def z108 (N:Nat) (v_:T12):Option Bool :=
 bif (v_.Kind==(1:Int)) then (bif (decide (v_.N≥(-1000:Int))) then (bif (decide (v_.N≤(1000:Int))) then (some (v_.S.toList==(str []).toList))
 else some false)
 else some false)
 else bif (v_.Kind==(2:Int)) then (bif (v_.N==(0:Int)) then (bif (decide ((v_.S.size:Int)≤(40:Int))) then ((z176 N v_.S).bind fun x1 =>
 some x1)
 else some false)
 else some false)
 else some false
def z51 (N:Nat) (d_:T0):Option Int :=
 some (w64 ((d_.Guard.Diffs.length:Int)+(d_.Guard.Equals.length:Int)))
def z96 (N:Nat) (g_:T5) (i_:Int):Option ByteArray :=
 bif (decide (i_ < (0:Int))) then (some (str [63]))
 else bif (decide (i_≥(g_.Decls.length:Int))) then (some (str [63]))
 else (idx g_.Decls i_).bind fun x1 =>
 some x1.Name
def z166_b (N:Nat) (rc:Int→Option ByteArray) (n_:Int):Option ByteArray :=
 bif (decide (n_ < (-9:Int))) then ((rc (w64 (n_.tdiv (10:Int)))).bind fun x1 =>
 (catS x1 (Utf8.encode (wk .i32 ((w64 ((48:Int)-(n_.tmod (10:Int)))))))).bind fun x2 =>
 some x2)
 else bif (decide (n_ < (0:Int))) then ((catS (str [45]) (Utf8.encode (wk .i32 ((w64 ((48:Int)-n_)))))).bind fun x3 =>
 some x3)
 else bif (decide (n_ < (10:Int))) then (some (Utf8.encode (wk .i32 ((w64 ((48:Int)+n_))))))
 else (rc (w64 (n_.tdiv (10:Int)))).bind fun x4 =>
 (catS x4 (Utf8.encode (wk .i32 ((w64 ((48:Int)+(n_.tmod (10:Int)))))))).bind fun x5 =>
 some x5
def z166_r:Nat→Int→Option ByteArray
 | 0,_=>none
 | N+1,a0=>z166_b N (z166_r N) a0
def z166 (N:Nat) (n_:Int):Option ByteArray:=z166_r N n_
def z91_k1 (v3_1:ByteArray):Option ByteArray :=
 (catS v3_1 (str [34])).bind fun x35 =>
 some x35
def z91_k3 (v_:T12) (v3_6:ByteArray) (v4_6:Int) (ag6:ByteArray→Int→Option ByteArray) (v32_9:Bool):Option ByteArray :=
 bif v32_9 then ((catS v3_6 (str [92])).bind fun x70 =>
 (ssl v_.S (some v4_6) (some (w64 (v4_6+(1:Int))))).bind fun x71 =>
 (catS x70 x71).bind fun x72 =>
 ag6 x72 (w64 (v4_6+(1:Int))))
 else (ssl v_.S (some v4_6) (some (w64 (v4_6+(1:Int))))).bind fun x73 =>
 (catS v3_6 x73).bind fun x74 =>
 ag6 x74 (w64 (v4_6+(1:Int)))
def z91_l2 (v_:T12):Nat→ByteArray→Int→Option ByteArray
 | 0,_,_=>none
 | n2+1,v3_6,v4_6 =>
 bif (decide (v4_6 < (v_.S.size:Int))) then ((sidx v_.S v4_6).bind fun x68 =>
 bif (x68==(34:Int)) then (z91_k3 v_ v3_6 v4_6 (z91_l2 v_ n2) true)
 else (sidx v_.S v4_6).bind fun x75 =>
 z91_k3 v_ v3_6 v4_6 (z91_l2 v_ n2) (x75==(92:Int)))
 else z91_k1 v3_6
def z91 (N:Nat) (v_:T12):Option ByteArray :=
 (z108 N v_).bind fun x1 =>
 bif (!x1) then (some (str [63]))
 else bif (v_.Kind==(1:Int)) then ((z166 N v_.N).bind fun x2 =>
 some x2)
 else z91_l2 v_ N (str [34]) (0:Int)
def z97_k1 (v3_1:ByteArray):Option ByteArray :=
 (catS v3_1 (str [41])).bind fun x29 =>
 some x29
def z97_l2 (N:Nat) (l_:(List T12)):Nat→ByteArray→Int→Option ByteArray
 | 0,_,_=>none
 | n2+1,v3_3,v4_3 =>
 bif (decide (v4_3 < (l_.length:Int))) then (bif (decide (v4_3 > (0:Int))) then ((catS v3_3 (str [44,32])).bind fun x58 =>
 (idx l_ v4_3).bind fun x59 =>
 (z91 N x59).bind fun x60 =>
 (catS x58 x60).bind fun x61 =>
 (z97_l2 N l_ n2) x61 (w64 (v4_3+(1:Int))))
 else (idx l_ v4_3).bind fun x62 =>
 (z91 N x62).bind fun x63 =>
 (catS v3_3 x63).bind fun x64 =>
 (z97_l2 N l_ n2) x64 (w64 (v4_3+(1:Int))))
 else z97_k1 v3_3
def z97 (N:Nat) (l_:(List T12)):Option ByteArray :=
 z97_l2 N l_ N (str [40]) (0:Int)
def z89 (N:Nat) (g_:T5) (i_:Int):Option ByteArray :=
 bif (decide (i_ < (0:Int))) then (some (str [63]))
 else bif (decide (i_≥(g_.Roles.length:Int))) then (some (str [63]))
 else (idx g_.Roles i_).bind fun x1 =>
 some x1
def z45 (N:Nat) (g_:T5) (x_:T3):Option ByteArray :=
 (z96 N g_ x_.Label).bind fun x1 =>
 (z97 N x_.Values).bind fun x2 =>
 (catS x1 x2).bind fun x3 =>
 bif x_.Send then ((z89 N g_ x_.Role).bind fun x4 =>
 (catS x4 (str [32,115,101,110,100,115,32])).bind fun x5 =>
 (catS x5 x3).bind fun x6 =>
 (catS x6 (str [32,116,111,32])).bind fun x7 =>
 (z89 N g_ x_.Peer).bind fun x8 =>
 (catS x7 x8).bind fun x9 =>
 some x9)
 else (z89 N g_ x_.Role).bind fun x10 =>
 (catS x10 (str [32,103,101,116,115,32])).bind fun x11 =>
 (catS x11 x3).bind fun x12 =>
 (catS x12 (str [32,102,114,111,109,32])).bind fun x13 =>
 (z89 N g_ x_.Peer).bind fun x14 =>
 (catS x13 x14).bind fun x15 =>
 some x15
def z90_b (N:Nat) (rc:Int→Option ByteArray) (n_:Int):Option ByteArray :=
 bif (decide (n_ < (-9:Int))) then ((rc (w64 (n_.tdiv (10:Int)))).bind fun x1 =>
 (catS x1 (Utf8.encode (wk .i32 ((w64 ((48:Int)-(n_.tmod (10:Int)))))))).bind fun x2 =>
 some x2)
 else bif (decide (n_ < (0:Int))) then ((catS (str [45]) (Utf8.encode (wk .i32 ((w64 ((48:Int)-n_)))))).bind fun x3 =>
 some x3)
 else bif (decide (n_ < (10:Int))) then (some (Utf8.encode (wk .i32 ((w64 ((48:Int)+n_))))))
 else (rc (w64 (n_.tdiv (10:Int)))).bind fun x4 =>
 (catS x4 (Utf8.encode (wk .i32 ((w64 ((48:Int)+(n_.tmod (10:Int)))))))).bind fun x5 =>
 some x5
def z90_r:Nat→Int→Option ByteArray
 | 0,_=>none
 | N+1,a0=>z90_b N (z90_r N) a0
def z90 (N:Nat) (n_:Int):Option ByteArray:=z90_r N n_
def z102_k1:Option (ByteArray × Bool) :=
 some ((str []),false)
def z102_l2 (decls_:(List T0)) (x_:Int):Nat→Int→Option (ByteArray × Bool)
 | 0,_=>none
 | n2+1,v6_3 =>
 bif (decide (v6_3 < (decls_.length:Int))) then ((idx decls_ v6_3).bind fun x33 =>
 bif (decide (x_≥x33.First)) then (bif (decide (x_ < (w64 (x33.First+(x33.Fields.length:Int))))) then ((idx x33.Fields (w64 (x_-x33.First))).bind fun x34 =>
 (catS x33.Name (str [46])).bind fun x35 =>
 (catS x35 x34.Name).bind fun x36 =>
 some (x36,(x34.Sort'.Kind==(2:Int))))
 else (z102_l2 decls_ x_ n2) (w64 (v6_3+(1:Int))))
 else (z102_l2 decls_ x_ n2) (w64 (v6_3+(1:Int))))
 else z102_k1
def z102 (N:Nat) (decls_:(List T0)) (x_:Int):Option (ByteArray × Bool) :=
 z102_l2 decls_ x_ N (0:Int)
def z103 (N:Nat) (decls_:(List T0)) (x_:Int):Option ByteArray :=
 (z102 N decls_ x_).bind fun x1 =>
 bif x1.2 then ((catS (str [108,101,110,40]) x1.1).bind fun x2 =>
 (catS x2 (str [41])).bind fun x3 =>
 some x3)
 else some x1.1
def z47 (N:Nat) (decls_:(List T0)) (at_:Int) (part_:Int):Option ByteArray :=
 (z101 N decls_).bind fun x1 =>
 bif (!x1) then (some (str []))
 else bif (decide (at_ < (0:Int))) then (some (str []))
 else bif (decide (at_≥(decls_.length:Int))) then (some (str []))
 else bif (decide (part_ < (0:Int))) then (some (str []))
 else (idx decls_ at_).bind fun x2 =>
 (z51 N x2).bind fun x3 =>
 bif (decide (part_≥x3)) then (some (str []))
 else (idx decls_ at_).bind fun x4 =>
 bif (decide (part_≥(x4.Guard.Diffs.length:Int))) then ((idx decls_ at_).bind fun x5 =>
 (idx x5.Guard.Equals (w64 (part_-(x4.Guard.Diffs.length:Int)))).bind fun x6 =>
 (z102 N decls_ x6.1).bind fun x7 =>
 (z102 N decls_ x6.2).bind fun x8 =>
 (catS x7.1 (str [32,61,61,32])).bind fun x9 =>
 (catS x9 x8.1).bind fun x10 =>
 some x10)
 else (idx decls_ at_).bind fun x11 =>
 (idx x11.Guard.Diffs part_).bind fun x12 =>
 bif (decide (x12.X < (0:Int))) then (bif (decide (x12.Y < (0:Int))) then ((z90 N x12.C).bind fun x13 =>
 (catS (str [48,32,60,61,32]) x13).bind fun x14 =>
 some x14)
 else bif (decide (x12.Y < (0:Int))) then ((z103 N decls_ x12.X).bind fun x15 =>
 (catS x15 (str [32,60,61,32])).bind fun x16 =>
 (z90 N x12.C).bind fun x17 =>
 (catS x16 x17).bind fun x18 =>
 some x18)
 else bif (decide (x12.X < (0:Int))) then ((z103 N decls_ x12.Y).bind fun x19 =>
 (catS x19 (str [32,62,61,32])).bind fun x20 =>
 (z90 N (w64 (0-x12.C))).bind fun x21 =>
 (catS x20 x21).bind fun x22 =>
 some x22)
 else (z103 N decls_ x12.X).bind fun x23 =>
 (catS x23 (str [32,60,61,32])).bind fun x24 =>
 (z103 N decls_ x12.Y).bind fun x25 =>
 (catS x24 x25).bind fun x26 =>
 bif (decide (x12.C > (0:Int))) then ((catS x26 (str [32,43,32])).bind fun x27 =>
 (z90 N x12.C).bind fun x28 =>
 (catS x27 x28).bind fun x29 =>
 some x29)
 else bif (decide (x12.C < (0:Int))) then ((catS x26 (str [32,45,32])).bind fun x30 =>
 (z90 N (w64 (0-x12.C))).bind fun x31 =>
 (catS x30 x31).bind fun x32 =>
 some x32)
 else some x26)
 else bif (decide (x12.Y < (0:Int))) then ((z103 N decls_ x12.X).bind fun x33 =>
 (catS x33 (str [32,60,61,32])).bind fun x34 =>
 (z90 N x12.C).bind fun x35 =>
 (catS x34 x35).bind fun x36 =>
 some x36)
 else bif (decide (x12.X < (0:Int))) then ((z103 N decls_ x12.Y).bind fun x37 =>
 (catS x37 (str [32,62,61,32])).bind fun x38 =>
 (z90 N (w64 (0-x12.C))).bind fun x39 =>
 (catS x38 x39).bind fun x40 =>
 some x40)
 else (z103 N decls_ x12.X).bind fun x41 =>
 (catS x41 (str [32,60,61,32])).bind fun x42 =>
 (z103 N decls_ x12.Y).bind fun x43 =>
 (catS x42 x43).bind fun x44 =>
 bif (decide (x12.C > (0:Int))) then ((catS x44 (str [32,43,32])).bind fun x45 =>
 (z90 N x12.C).bind fun x46 =>
 (catS x45 x46).bind fun x47 =>
 some x47)
 else bif (decide (x12.C < (0:Int))) then ((catS x44 (str [32,45,32])).bind fun x48 =>
 (z90 N (w64 (0-x12.C))).bind fun x49 =>
 (catS x48 x49).bind fun x50 =>
 some x50)
 else some x44
def law41_BlameShow (N:Nat) (g_:T5) (x_:T3) (at_:(Int × Int)):Option Bool :=
 (z37 N).bind fun x1 =>
 bif (!x1) then (some false)
 else (z43 N g_).bind fun x2 =>
 bif (!x2) then (some true)
 else (z20 N x_.Values).bind fun x3 =>
 bif (!x3) then (some true)
 else (z44 N g_ x_).bind fun x4 =>
 (z45 N g_ x_).bind fun x5 =>
 bif (x4.toList==x5.toList) then ((z46 N g_.Decls at_.1 at_.2).bind fun x6 =>
 (z47 N g_.Decls at_.1 at_.2).bind fun x7 =>
 some (x6.toList==x7.toList))
 else some false
end Gx
end
