/- What each function of the statement computes, as plain definitions. -/
import Derived.Test.YtngljfgicoflaaaGreatDoorGuardFillCore4
set_option linter.all false
section
open Go Go.Kx
namespace Gx
structure T4 where
  Kind:Int
  Lo:Int
  Hi:Int
structure T2 where
  Name:ByteArray
  Sort':T4
structure T1 where
  X:Int
  Y:Int
  C:Int
structure T3 where
  Diffs:(List T1)
  Equals:(List (Int × Int))
structure T0 where
  Name:ByteArray
  Fields:(List T2)
  First:Int
  Guard:T3
structure T5 where
  Kind:Int
  N:Int
  S:ByteArray
structure T6 where
  N:Int
  B:(List Int)
def z4 (N:Nat):Option Bool:=some true
def z12_k1 (l_:(List T0)) (v3_1:Int):Option Bool :=
 bif (decide ((l_.length:Int)≤(60:Int))) then (some (decide (v3_1≤(100:Int))))
 else some false
def z12_l2 (l_:(List T0)):Nat→Int→Int→Option Bool
 | 0,_,_=>none
 | n2+1,v3_3,v4_3 =>
 bif (decide (v4_3 < (l_.length:Int))) then ((idx l_ v4_3).bind fun x25 =>
 (idx l_ v4_3).bind fun x26 =>
 (idx l_ v4_3).bind fun x27 =>
 (z12_l2 l_ n2) (w64 (v3_3+(w64 ((w64 ((x25.Fields.length:Int)+(x26.Guard.Diffs.length:Int)))+(x27.Guard.Equals.length:Int))))) (w64 (v4_3+(1:Int))))
 else z12_k1 l_ v3_3
def z12 (N:Nat) (l_:(List T0)):Option Bool :=
 z12_l2 l_ N (0:Int) (0:Int)
def z5 (N:Nat) (d_:(List T0)) (values_:(List T5)) (known_:(List T5)):Option Bool :=
 (z12 N d_).bind fun x1 =>
 bif x1 then (bif (decide ((values_.length:Int)≤(30:Int))) then (some (decide ((known_.length:Int)≤(60:Int))))
 else some false)
 else some false
def z49_k1 (v3_1:(List T2)):Option (List T2) :=
 some v3_1
def z49_l2 (l_:(List T0)):Nat→(List T2)→Int→Option (List T2)
 | 0,_,_=>none
 | n2+1,v3_3,v8_3 =>
 bif (decide (v8_3 < (l_.length:Int))) then ((idx l_ v8_3).bind fun x17 =>
 (appL v3_3 x17.Fields).bind fun x18 =>
 (z49_l2 l_ n2) x18 (w64 (v8_3+(1:Int))))
 else z49_k1 v3_3
def z49 (N:Nat) (l_:(List T0)):Option (List T2) :=
 z49_l2 l_ N ([]:List T2) (0:Int)
def z228_k1 (v2_1:Int) (vi0_1:Nat):Option Int :=
 some v2_1
def z228_l2 (s_:ByteArray):Nat→Int→Nat→Option Int
 | 0,_,_=>none
 | n2+1,v2_3,vi0_3 =>
 bif decide (vi0_3 < s_.size) then ((z228_l2 s_ n2) (w64 (v2_3+(1:Int))) (vi0_3+(Utf8.decode s_ vi0_3).2))
 else z228_k1 v2_3 vi0_3
def z228 (N:Nat) (s_:ByteArray):Option Int :=
 z228_l2 s_ N (0:Int) (0:Nat)
def z237 (N:Nat) (s_:ByteArray):Option (Int × Int) :=
 bif (decide ((s_.size:Int) < (1:Int))) then (some ((65533:Int),(0:Int)))
 else (sidx s_ (0:Int)).bind fun x1 =>
 dead 0
def z229 (N:Nat) (s_:ByteArray):Option (Int × Int) :=
 bif (!(s_.toList==(str []).toList)) then ((sidx s_ (0:Int)).bind fun x1 =>
 bif (decide (x1 < (128:Int))) then ((sidx s_ (0:Int)).bind fun x2 =>
 some ((wk .i32 (x2)),(1:Int)))
 else (z237 N s_).bind fun x3 =>
 some (x3.1,x3.2))
 else (z237 N s_).bind fun x4 =>
 some (x4.1,x4.2)
def z216_k1 (v1_2:Int) (v0_3:ByteArray) (v6_3:(List ByteArray)):Option (List ByteArray) :=
 bif (decide (v1_2 > (0:Int))) then ((idx v6_3 (w64 (v1_2-(1:Int)))).bind fun x19 =>
 some (setL' v6_3 (w64 (v1_2-(1:Int))) v0_3))
 else some v6_3
def z216_l2 (N:Nat) (v1_2:Int):Nat→ByteArray→(List ByteArray)→Int→Option (List ByteArray)
 | 0,_,_,_=>none
 | n2+1,v0_5,v6_5,v7_5 =>
 bif (decide (v7_5 < (w64 (v1_2-(1:Int))))) then ((z229 N v0_5).bind fun x36 =>
 (ssl v0_5 none (some x36.2)).bind fun x37 =>
 (idx v6_5 v7_5).bind fun x38 =>
 (ssl v0_5 (some x36.2) none).bind fun x39 =>
 (z216_l2 N v1_2 n2) x39 (setL' v6_5 v7_5 x37) (w64 (v7_5+(1:Int))))
 else z216_k1 v1_2 v0_5 v6_5
def z216_k3 (N:Nat) (s_:ByteArray) (v1_2:Int):Option (List ByteArray) :=
 (mkL (str []) v1_2 v1_2).bind fun x2 =>
 z216_l2 N v1_2 N s_ x2 (0:Int)
def z216_k4 (N:Nat) (s_:ByteArray) (n_:Int) (x1:Int) (v18_1:Bool):Option (List ByteArray) :=
 bif v18_1 then (z216_k3 N s_ x1)
 else z216_k3 N s_ n_
def z216 (N:Nat) (s_:ByteArray) (n_:Int):Option (List ByteArray) :=
 (z228 N s_).bind fun x1 =>
 bif (decide (n_ < (0:Int))) then (z216_k4 N s_ n_ x1 true)
 else z216_k4 N s_ n_ x1 (decide (n_ > x1))
def z174 (N:Nat) (s_:ByteArray) (c_:Int):Option Int :=
 some (firstB s_ c_)
def z202 (N:Nat) (s_:ByteArray) (substr_:ByteArray):Option Int :=
 bif ((substr_.size:Int)==(0:Int)) then (some (0:Int))
 else bif (substr_.toList==s_.toList) then (some (0:Int))
 else bif ((substr_.size:Int)==(1:Int)) then ((sidx substr_ (0:Int)).bind fun x1 =>
 (z174 N s_ x1).bind fun x2 =>
 some x2)
 else bif (decide ((substr_.size:Int)≥(s_.size:Int))) then (some (-1:Int))
 else dead 0
def z175 (N:Nat) (s_:ByteArray) (substr_:ByteArray):Option Int :=
 (z202 N s_ substr_).bind fun x1 =>
 some x1
def z217_l1 (N:Nat) (substr_:ByteArray):Nat→ByteArray→Int→Option Int
 | 0,_,_=>none
 | n1+1,v0_1,v5_1 =>
 (z175 N v0_1 substr_).bind fun x11 =>
 bif (x11==(-1:Int)) then (some v5_1)
 else (ssl v0_1 (some (w64 (x11+(substr_.size:Int)))) none).bind fun x12 =>
 (z217_l1 N substr_ n1) x12 (w64 (v5_1+(1:Int)))
def z217 (N:Nat) (s_:ByteArray) (substr_:ByteArray):Option Int :=
 bif ((substr_.size:Int)==(0:Int)) then ((z228 N s_).bind fun x1 =>
 some (w64 (x1+(1:Int))))
 else bif ((substr_.size:Int)==(1:Int)) then ((sidx substr_ (0:Int)).bind fun x2 =>
 some (countB s_ x2))
 else z217_l1 N substr_ N s_ (0:Int)
def z194_k1 (v0_2:ByteArray) (v9_2:(List ByteArray)) (v10_2:Int):Option (List ByteArray) :=
 (idx v9_2 v10_2).bind fun x20 =>
 (lsl (setL' v9_2 v10_2 v0_2) none (some (w64 (v10_2+(1:Int))))).bind fun x21 =>
 some x21
def z194_l2 (N:Nat) (s_:ByteArray) (sep_:ByteArray) (sepSave_:Int) (v3_1:Int):Nat→ByteArray→(List ByteArray)→Int→Option (List ByteArray)
 | 0,_,_,_=>none
 | n2+1,v0_4,v9_4,v10_4 =>
 bif (decide (v10_4 < (w64 ((minI v3_1 (w64 ((s_.size:Int)+(1:Int))))-(1:Int))))) then ((z175 N v0_4 sep_).bind fun x38 =>
 bif (decide (x38 < (0:Int))) then (z194_k1 v0_4 v9_4 v10_4)
 else (ssl v0_4 none (some (w64 (x38+sepSave_)))).bind fun x39 =>
 (idx v9_4 v10_4).bind fun x40 =>
 (ssl v0_4 (some (w64 (x38+(sep_.size:Int)))) none).bind fun x41 =>
 (z194_l2 N s_ sep_ sepSave_ v3_1 n2) x41 (setL' v9_4 v10_4 x39) (w64 (v10_4+(1:Int))))
 else z194_k1 v0_4 v9_4 v10_4
def z194_k3 (N:Nat) (s_:ByteArray) (sep_:ByteArray) (sepSave_:Int) (v3_1:Int):Option (List ByteArray) :=
 (mkL (str []) (minI v3_1 (w64 ((s_.size:Int)+(1:Int)))) (minI v3_1 (w64 ((s_.size:Int)+(1:Int))))).bind fun x3 =>
 z194_l2 N s_ sep_ sepSave_ v3_1 N s_ x3 (0:Int)
def z194 (N:Nat) (s_:ByteArray) (sep_:ByteArray) (sepSave_:Int) (n_:Int):Option (List ByteArray) :=
 bif (n_==(0:Int)) then (some ([]:List ByteArray))
 else bif (sep_.toList==(str []).toList) then ((z216 N s_ n_).bind fun x1 =>
 some x1)
 else bif (decide (n_ < (0:Int))) then ((z217 N s_ sep_).bind fun x42 =>
 z194_k3 N s_ sep_ sepSave_ (w64 (x42+(1:Int))))
 else z194_k3 N s_ sep_ sepSave_ n_
def z163 (N:Nat) (s_:ByteArray) (sep_:ByteArray):Option (List ByteArray) :=
 (z194 N s_ sep_ (0:Int) (-1:Int)).bind fun x1 =>
 some x1
def z74 (N:Nat) (c_:Int):Option Bool :=
 bif (decide ((97:Int)≤c_)) then (bif (decide (c_≤(122:Int))) then (some true)
 else bif (decide ((65:Int)≤c_)) then (some (decide (c_≤(90:Int))))
 else some false)
 else bif (decide ((65:Int)≤c_)) then (some (decide (c_≤(90:Int))))
 else some false
def z76 (N:Nat) (c_:Int):Option Bool :=
 bif (decide ((48:Int)≤c_)) then (some (decide (c_≤(57:Int))))
 else some false
def z124 (N:Nat) (c_:Int):Option Bool :=
 (z74 N c_).bind fun x1 =>
 bif x1 then (some true)
 else (z76 N c_).bind fun x2 =>
 bif x2 then (some true)
 else some (c_==(95:Int))
def z133_k1:Option Bool :=
 some true
def z133_l2 (N:Nat) (s_:ByteArray):Nat→Int→Option Bool
 | 0,_=>none
 | n2+1,v19_3 =>
 bif (decide (v19_3 < (s_.size:Int))) then ((sidx s_ v19_3).bind fun x19 =>
 (z124 N x19).bind fun x20 =>
 bif (!x20) then (some false)
 else (z133_l2 N s_ n2) (w64 (v19_3+(1:Int))))
 else z133_k1
def z133 (N:Nat) (s_:ByteArray):Option Bool :=
 bif (s_.toList==(str []).toList) then (some false)
 else bif (decide ((s_.size:Int) > (16:Int))) then (some false)
 else (sidx s_ (0:Int)).bind fun x1 =>
 (z74 N x1).bind fun x2 =>
 bif (!x2) then (some false)
 else z133_l2 N s_ N (0:Int)
def z179_k1:Option Int :=
 some (-1:Int)
def z179_l2 (s_:(List ByteArray)) (v_:ByteArray):Nat→Int→Option Int
 | 0,_=>none
 | n2+1,v8_3 =>
 bif (decide (v8_3 < (s_.length:Int))) then ((idx s_ v8_3).bind fun x9 =>
 bif (v_.toList==x9.toList) then (some v8_3)
 else (z179_l2 s_ v_ n2) (w64 (v8_3+(1:Int))))
 else z179_k1
def z179 (N:Nat) (s_:(List ByteArray)) (v_:ByteArray):Option Int :=
 z179_l2 s_ v_ N (0:Int)
def z131 (N:Nat) (s_:(List ByteArray)) (v_:ByteArray):Option Bool :=
 (z179 N s_ v_).bind fun x1 =>
 some (decide (x1≥(0:Int)))
def z85 (N:Nat) (s_:ByteArray):Option Bool :=
 (z133 N s_).bind fun x1 =>
 bif x1 then ((z131 N ([(str [97,103,97,105,110]),(str [97,110,100]),(str [97,115]),(str [97,116]),(str [99,97,108,108]),(str [99,104,111,105,99,101]),(str [101,108,115,101]),(str [102,114,111,109]),(str [105,102]),(str [105,110,116]),(str [108,101,110]),(str [108,111,111,112]),(str [109,101,115,115,97,103,101]),(str [111,102]),(str [111,102,102,101,114]),(str [111,110]),(str [111,114]),(str [112,97,114]),(str [112,108,97,121,115]),(str [112,114,111,116,111,99,111,108]),(str [115,101,114,118,105,99,101]),(str [116,101,120,116]),(str [116,105,109,101,115]),(str [116,111]),(str [118,97,114]),(str [119,104,101,114,101]),(str [119,104,105,108,101]),(str [119,105,116,104,105,110])]:List ByteArray) s_).bind fun x2 =>
 some (!x2))
 else some false
def z164 (N:Nat) (w_:ByteArray):Option Bool :=
 (z85 N w_).bind fun x1 =>
 some (!x1)
def z182_0_k1:Option Int :=
 some (-1:Int)
def z182_0_l2 (N:Nat) (s_:(List ByteArray)):Nat→Int→Option Int
 | 0,_=>none
 | n2+1,v8_3 =>
 bif (decide (v8_3 < (s_.length:Int))) then ((idx s_ v8_3).bind fun x17 =>
 (z164 N x17).bind fun x18 =>
 bif x18 then (some v8_3)
 else (z182_0_l2 N s_ n2) (w64 (v8_3+(1:Int))))
 else z182_0_k1
def z182_0 (N:Nat) (s_:(List ByteArray)):Option Int :=
 z182_0_l2 N s_ N (0:Int)
def z134_1 (N:Nat) (s_:(List ByteArray)):Option Bool :=
 (z182_0 N s_).bind fun x1 =>
 some (decide (x1≥(0:Int)))
def z99 (N:Nat) (s_:ByteArray):Option Bool :=
 bif (decide ((s_.size:Int)≤(50:Int))) then ((z163 N s_ (str [46])).bind fun x1 =>
 (z134_1 N x1).bind fun x2 =>
 some (!x2))
 else some false
def z101_2 (N:Nat) (x_:T0) (c0_:T0):Option Bool :=
 some (x_.Name.toList==c0_.Name.toList)
def z43_3_k1:Option Int :=
 some (-1:Int)
def z43_3_l2 (N:Nat) (s_:(List T0)) (c0_:T0):Nat→Int→Option Int
 | 0,_=>none
 | n2+1,v8_3 =>
 bif (decide (v8_3 < (s_.length:Int))) then ((idx s_ v8_3).bind fun x17 =>
 (z101_2 N x17 c0_).bind fun x18 =>
 bif x18 then (some v8_3)
 else (z43_3_l2 N s_ c0_ n2) (w64 (v8_3+(1:Int))))
 else z43_3_k1
def z43_3 (N:Nat) (s_:(List T0)) (c0_:T0):Option Int :=
 z43_3_l2 N s_ c0_ N (0:Int)
def z100_4 (N:Nat) (s_:(List T0)) (c0_:T0):Option Bool :=
 (z43_3 N s_ c0_).bind fun x1 =>
 some (decide (x1≥(0:Int)))
def z102 (N:Nat) (s_:T4):Option Bool :=
 bif (s_.Kind==(1:Int)) then (bif (decide (s_.Lo≥(-1000:Int))) then (bif (decide (s_.Lo≤s_.Hi)) then (some (decide (s_.Hi≤(1000:Int))))
 else some false)
 else some false)
 else bif (s_.Kind==(2:Int)) then (bif (decide (s_.Lo≥(0:Int))) then (bif (decide (s_.Lo≤s_.Hi)) then (some (decide (s_.Hi≤(40:Int))))
 else some false)
 else some false)
 else some false
def z104_5 (N:Nat) (x_:T2) (c0_:T2):Option Bool :=
 some (x_.Name.toList==c0_.Name.toList)
def z45_6_k1:Option Int :=
 some (-1:Int)
def z45_6_l2 (N:Nat) (s_:(List T2)) (c0_:T2):Nat→Int→Option Int
 | 0,_=>none
 | n2+1,v8_3 =>
 bif (decide (v8_3 < (s_.length:Int))) then ((idx s_ v8_3).bind fun x17 =>
 (z104_5 N x17 c0_).bind fun x18 =>
 bif x18 then (some v8_3)
 else (z45_6_l2 N s_ c0_ n2) (w64 (v8_3+(1:Int))))
 else z45_6_k1
def z45_6 (N:Nat) (s_:(List T2)) (c0_:T2):Option Int :=
 z45_6_l2 N s_ c0_ N (0:Int)
def z103_7 (N:Nat) (s_:(List T2)) (c0_:T2):Option Bool :=
 (z45_6 N s_ c0_).bind fun x1 =>
 some (decide (x1≥(0:Int)))
def z105_k1:Option Bool :=
 some true
def z105_k3 (v58_14:Int) (ag14:Int→Option Bool):Option Bool :=
 ag14 (w64 (v58_14+(1:Int)))
def z105_l4 (all_:(List T2)) (v58_14:Int) (ag14:Int→Option Bool) (x127:(Int × Int)):Nat→Int→Option Bool
 | 0,_=>none
 | n15+1,v63_23 =>
 bif (decide (v63_23 < (2:Int))) then ((idx ([x127.1,x127.2]:List Int) v63_23).bind fun x142 =>
 bif (decide (x142 < (0:Int))) then (some false)
 else bif (decide (x142≥(all_.length:Int))) then (some false)
 else (idx all_ x142).bind fun x143 =>
 bif (x143.Sort'.Kind != (2:Int)) then (some false)
 else (z105_l4 all_ v58_14 ag14 x127 n15) (w64 (v63_23+(1:Int))))
 else z105_k3 v58_14 ag14
def z105_l2 (N:Nat) (g_:T3) (all_:(List T2)):Nat→Int→Option Bool
 | 0,_=>none
 | n13+1,v58_14 =>
 bif (decide (v58_14 < (g_.Equals.length:Int))) then ((idx g_.Equals v58_14).bind fun x127 =>
 z105_l4 all_ v58_14 (z105_l2 N g_ all_ n13) x127 N (0:Int))
 else z105_k1
def z105_k5 (N:Nat) (g_:T3) (all_:(List T2)):Option Bool :=
 z105_l2 N g_ all_ N (0:Int)
def z105_l6 (N:Nat) (g_:T3) (all_:(List T2)):Nat→Int→Option Bool
 | 0,_=>none
 | n16+1,v24_24 =>
 bif (decide (v24_24 < (g_.Diffs.length:Int))) then ((idx g_.Diffs v24_24).bind fun x148 =>
 bif (decide ((minI x148.X x148.Y) < (-1:Int))) then (some false)
 else bif (decide ((maxI x148.X x148.Y)≥(all_.length:Int))) then (some false)
 else bif (decide (x148.C < (-20000:Int))) then (some false)
 else bif (decide (x148.C > (20000:Int))) then (some false)
 else (z105_l6 N g_ all_ n16) (w64 (v24_24+(1:Int))))
 else z105_k5 N g_ all_
def z105 (N:Nat) (g_:T3) (all_:(List T2)):Option Bool :=
 bif (decide ((g_.Diffs.length:Int) > (20:Int))) then (some false)
 else bif (decide ((g_.Equals.length:Int) > (20:Int))) then (some false)
 else z105_l6 N g_ all_ N (0:Int)
def z48_k1:Option Bool :=
 some true
def z48_k3 (N:Nat) (x1:(List T2)) (v4_12:Int) (v19_12:Int) (ag12:Int→Int→Option Bool) (x367:T0):Option Bool :=
 (z105 N x367.Guard x1).bind fun x391 =>
 bif (!x391) then (some false)
 else ag12 (w64 (v4_12+(x367.Fields.length:Int))) (w64 (v19_12+(1:Int)))
def z48_l4 (N:Nat) (x1:(List T2)) (v4_12:Int) (v19_12:Int) (ag12:Int→Int→Option Bool) (x367:T0):Nat→Int→Option Bool
 | 0,_=>none
 | n14+1,v55_21 =>
 bif (decide (v55_21 < (x367.Fields.length:Int))) then ((idx x367.Fields v55_21).bind fun x412 =>
 (z85 N x412.Name).bind fun x413 =>
 bif (!x413) then (some false)
 else (z102 N x412.Sort').bind fun x414 =>
 bif (!x414) then (some false)
 else (lsl x367.Fields none (some v55_21)).bind fun x415 =>
 (z103_7 N x415 x412).bind fun x416 =>
 bif x416 then (some false)
 else (z48_l4 N x1 v4_12 v19_12 ag12 x367 n14) (w64 (v55_21+(1:Int))))
 else z48_k3 N x1 v4_12 v19_12 ag12 x367
def z48_l2 (N:Nat) (l_:(List T0)) (x1:(List T2)):Nat→Int→Int→Option Bool
 | 0,_,_=>none
 | n12+1,v4_12,v19_12 =>
 bif (decide (v19_12 < (l_.length:Int))) then ((idx l_ v19_12).bind fun x367 =>
 (z99 N x367.Name).bind fun x368 =>
 bif (!x368) then (some false)
 else bif (decide ((x367.Fields.length:Int) > (4:Int))) then (some false)
 else bif (x367.First != v4_12) then (some false)
 else (lsl l_ none (some v19_12)).bind fun x369 =>
 (z100_4 N x369 x367).bind fun x370 =>
 bif x370 then (some false)
 else z48_l4 N x1 v4_12 v19_12 (z48_l2 N l_ x1 n12) x367 N (0:Int))
 else z48_k1
def z48 (N:Nat) (l_:(List T0)):Option Bool :=
 bif (decide ((l_.length:Int) > (40:Int))) then (some false)
 else (z49 N l_).bind fun x1 =>
 bif (decide ((x1.length:Int) > (24:Int))) then (some false)
 else z48_l2 N l_ x1 N (0:Int) (0:Int)
def z16 (N:Nat) (v_:T5):Option Int :=
 bif (v_.Kind==(2:Int)) then (some (v_.S.size:Int))
 else some v_.N
def z107 (N:Nat) (r_:Int):Option Bool :=
 bif (decide (r_ < (32:Int))) then (some true)
 else some (decide (r_ > (126:Int)))
def z195_8_k1 (vi0_1:Nat):Option Int :=
 some (-1:Int)
def z195_8_l2 (N:Nat) (s_:ByteArray) (truth_:Bool):Nat→Nat→Option Int
 | 0,_=>none
 | n2+1,vi0_3 =>
 bif decide (vi0_3 < s_.size) then ((z107 N ((Utf8.decode s_ vi0_3).1:Int)).bind fun x10 =>
 bif (x10==truth_) then (some ((vi0_3:Nat):Int))
 else (z195_8_l2 N s_ truth_ n2) (vi0_3+(Utf8.decode s_ vi0_3).2))
 else z195_8_k1 vi0_3
def z195_8 (N:Nat) (s_:ByteArray) (truth_:Bool):Option Int :=
 z195_8_l2 N s_ truth_ N (0:Nat)
def z165_9 (N:Nat) (s_:ByteArray):Option Int :=
 (z195_8 N s_ true).bind fun x1 =>
 some x1
def z106_10 (N:Nat) (s_:ByteArray):Option Bool :=
 (z165_9 N s_).bind fun x1 =>
 some (decide (x1≥(0:Int)))
def z50 (N:Nat) (s_:T4) (v_:T5):Option Bool :=
 bif (v_.Kind != s_.Kind) then (some false)
 else (z16 N v_).bind fun x1 =>
 bif (decide (x1 < s_.Lo)) then (some false)
 else (z16 N v_).bind fun x2 =>
 bif (decide (x2 > s_.Hi)) then (some false)
 else bif (v_.Kind==(1:Int)) then (some (v_.S.toList==(str []).toList))
 else bif (v_.N==(0:Int)) then ((z106_10 N v_.S).bind fun x3 =>
 some (!x3))
 else some false
def z13_k1:Option Bool :=
 some true
def z13_l2 (N:Nat) (known_:(List T5)) (x2:(List T2)):Nat→Int→Option Bool
 | 0,_=>none
 | n2+1,v32_3 =>
 bif (decide (v32_3 < (known_.length:Int))) then ((idx known_ v32_3).bind fun x27 =>
 bif (!((x27.Kind==(0:Int)) && ((x27.N==(0:Int)) && ((x27.S.toList==(str []).toList) && true)))) then ((idx x2 v32_3).bind fun x28 =>
 (z50 N x28.Sort' x27).bind fun x29 =>
 bif (!x29) then (some false)
 else (z13_l2 N known_ x2 n2) (w64 (v32_3+(1:Int))))
 else (z13_l2 N known_ x2 n2) (w64 (v32_3+(1:Int))))
 else z13_k1
def z13 (N:Nat) (l_:(List T0)) (label_:Int) (known_:(List T5)):Option Bool :=
 bif (decide (label_ < (0:Int))) then (some false)
 else bif (decide (label_≥(l_.length:Int))) then (some false)
 else (z48 N l_).bind fun x1 =>
 bif (!x1) then (some false)
 else (z49 N l_).bind fun x2 =>
 bif ((x2.length:Int) != (known_.length:Int)) then (some false)
 else z13_l2 N known_ x2 N (0:Int)
def z108 (N:Nat) (i_:Int) (j_:Int):Option Int :=
 bif (i_==j_) then (some (0:Int))
 else bif (i_==(0:Int)) then (some (10000:Int))
 else bif (j_==(0:Int)) then (some (10000:Int))
 else some (20000:Int)
def z51_k1 (n_:Int) (vb3_2_1_1:(List Int)):Option T6 :=
 some (⟨n_,vb3_2_1_1⟩:T6)
def z51_k3 (v16_12:Int) (ag12:(List Int)→Int→Option T6) (vb3_2_1_19:(List Int)):Option T6 :=
 ag12 vb3_2_1_19 (w64 (v16_12+(1:Int)))
def z51_l4 (N:Nat) (n_:Int) (v16_12:Int) (ag12:(List Int)→Int→Option T6):Nat→(List Int)→Int→Option T6
 | 0,_,_=>none
 | n14+1,vb3_2_1_21,v21_21 =>
 bif (decide (v21_21 < (w64 (n_+(1:Int))))) then ((z108 N v16_12 v21_21).bind fun x148 =>
 (idx vb3_2_1_21 (w64 ((w64 (v16_12 * (w64 (n_+(1:Int)))))+v21_21))).bind fun x149 =>
 (z51_l4 N n_ v16_12 ag12 n14) (setL' vb3_2_1_21 (w64 ((w64 (v16_12 * (w64 (n_+(1:Int)))))+v21_21)) x148) (w64 (v21_21+(1:Int))))
 else z51_k3 v16_12 ag12 vb3_2_1_21
def z51_l2 (N:Nat) (n_:Int):Nat→(List Int)→Int→Option T6
 | 0,_,_=>none
 | n12+1,vb3_2_1_12,v16_12 =>
 bif (decide (v16_12 < (w64 (n_+(1:Int))))) then (z51_l4 N n_ v16_12 (z51_l2 N n_ n12) N vb3_2_1_12 (0:Int))
 else z51_k1 n_ vb3_2_1_12
def z51 (N:Nat) (n_:Int):Option T6 :=
 (mkL (0:Int) (w64 ((w64 (n_+(1:Int))) * (w64 (n_+(1:Int))))) (w64 ((w64 (n_+(1:Int))) * (w64 (n_+(1:Int)))))).bind fun x1 =>
 z51_l2 N n_ N x1 (0:Int)
def z14 (N:Nat) (n_:Int):Option (T6 × Int) :=
 bif (decide (n_ < (0:Int))) then (some ((⟨(0:Int),([]:List Int)⟩:T6),(2:Int)))
 else bif (decide (n_ > (24:Int))) then (some ((⟨(0:Int),([]:List Int)⟩:T6),(2:Int)))
 else (z51 N n_).bind fun x1 =>
 some (x1,(0:Int))
def z15_k1 (v3_3:(List T1)):Option (List T1) :=
 some v3_3
def z15_l2 (d_:T0):Nat→(List T1)→Int→Option (List T1)
 | 0,_,_=>none
 | n3+1,v3_5,v46_5 =>
 bif (decide (v46_5 < (d_.Guard.Equals.length:Int))) then ((idx d_.Guard.Equals v46_5).bind fun x26 =>
 (appL v3_5 ([(⟨x26.1,x26.2,(0:Int)⟩:T1),(⟨x26.2,x26.1,(0:Int)⟩:T1)]:List T1)).bind fun x27 =>
 (z15_l2 d_ n3) x27 (w64 (v46_5+(1:Int))))
 else z15_k1 v3_5
def z15_k3 (N:Nat) (d_:T0) (v3_1:(List T1)):Option (List T1) :=
 (appL v3_1 d_.Guard.Diffs).bind fun x9 =>
 z15_l2 d_ N x9 (0:Int)
def z15_l4 (N:Nat) (d_:T0):Nat→(List T1)→Int→Option (List T1)
 | 0,_,_=>none
 | n4+1,v3_6,v11_6 =>
 bif (decide (v11_6 < (d_.Fields.length:Int))) then ((idx d_.Fields v11_6).bind fun x36 =>
 (appL v3_6 ([(⟨(w64 (d_.First+v11_6)),(-1:Int),x36.Sort'.Hi⟩:T1),(⟨(-1:Int),(w64 (d_.First+v11_6)),(w64 (0-x36.Sort'.Lo))⟩:T1)]:List T1)).bind fun x37 =>
 (z15_l4 N d_ n4) x37 (w64 (v11_6+(1:Int))))
 else z15_k3 N d_ v3_6
def z15 (N:Nat) (d_:T0):Option (List T1) :=
 z15_l4 N d_ N ([]:List T1) (0:Int)
def z109_k1 (v3_2:Int):Option Int :=
 some v3_2
def z109_l2 (x_:(List Int)):Nat→Int→Int→Option Int
 | 0,_,_=>none
 | n2+1,v3_4,v4_4 =>
 bif (decide (v4_4 < (x_.length:Int))) then ((idx x_ v4_4).bind fun x10 =>
 (z109_l2 x_ n2) (minI v3_4 x10) (w64 (v4_4+(1:Int))))
 else z109_k1 v3_4
def z109 (N:Nat) (x_:(List Int)):Option Int :=
 bif (decide ((x_.length:Int) < (1:Int))) then (dead 0)
 else (idx x_ (0:Int)).bind fun x1 =>
 z109_l2 x_ N x1 (1:Int)
def z110_k1 (v3_2:Int):Option Int :=
 some v3_2
def z110_l2 (x_:(List Int)):Nat→Int→Int→Option Int
 | 0,_,_=>none
 | n2+1,v3_4,v4_4 =>
 bif (decide (v4_4 < (x_.length:Int))) then ((idx x_ v4_4).bind fun x10 =>
 (z110_l2 x_ n2) (maxI v3_4 x10) (w64 (v4_4+(1:Int))))
 else z110_k1 v3_4
def z110 (N:Nat) (x_:(List Int)):Option Int :=
 bif (decide ((x_.length:Int) < (1:Int))) then (dead 0)
 else (idx x_ (0:Int)).bind fun x1 =>
 z110_l2 x_ N x1 (1:Int)
def z52 (N:Nat) (z_:T6):Option Bool :=
 bif (decide (z_.N≥(0:Int))) then (bif (decide (z_.N≤(24:Int))) then (bif ((z_.B.length:Int)==(w64 ((w64 (z_.N+(1:Int))) * (w64 (z_.N+(1:Int)))))) then ((z109 N z_.B).bind fun x1 =>
 bif (decide (x1≥(-20001:Int))) then ((z110 N z_.B).bind fun x2 =>
 some (decide (x2≤(20000:Int))))
 else some false)
 else some false)
 else some false)
 else some false
def z53 (N:Nat) (z_:T6) (x_:Int):Option Bool :=
 bif (decide (x_≥(-1:Int))) then (some (decide (x_ < z_.N)))
 else some false
def z54 (N:Nat) (s_:(List Int)):Option (List Int) :=
 (appL ([]:List Int) s_).bind fun x1 =>
 some x1
def z17 (N:Nat) (z_:T6) (d_:T1):Option (T6 × Int) :=
 (z52 N z_).bind fun x1 =>
 bif (!x1) then (some ((⟨(0:Int),([]:List Int)⟩:T6),(1:Int)))
 else (z53 N z_ d_.X).bind fun x2 =>
 bif (!x2) then (some ((⟨(0:Int),([]:List Int)⟩:T6),(2:Int)))
 else (z53 N z_ d_.Y).bind fun x3 =>
 bif (!x3) then (some ((⟨(0:Int),([]:List Int)⟩:T6),(2:Int)))
 else (z54 N z_.B).bind fun x4 =>
 (idx x4 (w64 ((w64 ((w64 ((w64 (d_.X+(1:Int))) * (w64 (z_.N+(1:Int)))))+d_.Y))+(1:Int)))).bind fun x5 =>
 (idx x4 (w64 ((w64 ((w64 ((w64 (d_.X+(1:Int))) * (w64 (z_.N+(1:Int)))))+d_.Y))+(1:Int)))).bind fun x6 =>
 some ((⟨z_.N,(setL' x4 (w64 ((w64 ((w64 ((w64 (d_.X+(1:Int))) * (w64 (z_.N+(1:Int)))))+d_.Y))+(1:Int))) (minI x5 (maxI d_.C (-20001:Int))))⟩:T6),(0:Int))
def z55_k1 (z_:T6) (vb5_4_1_12:(List Int)):Option (T6 × Bool) :=
 some ((⟨z_.N,vb5_4_1_12⟩:T6),true)
def z55_k3 (v57_86:Int) (ag86:(List Int)→Int→Option (T6 × Bool)) (vb5_4_1_135:(List Int)):Option (T6 × Bool) :=
 ag86 vb5_4_1_135 (w64 (v57_86+(1:Int)))
def z55_l4 (z_:T6) (v57_86:Int) (ag86:(List Int)→Int→Option (T6 × Bool)) (vb5_4_1_135:(List Int)):Nat→Int→Option (T6 × Bool)
 | 0,_=>none
 | n98+1,v108_148 =>
 bif (decide (v108_148 < (w64 (z_.N+(1:Int))))) then ((idx vb5_4_1_135 (w64 ((w64 (v108_148 * (w64 (z_.N+(1:Int)))))+v108_148))).bind fun x2388 =>
 bif (decide (x2388 < (0:Int))) then (some ((⟨(0:Int),([]:List Int)⟩:T6),false))
 else (z55_l4 z_ v57_86 ag86 vb5_4_1_135 n98) (w64 (v108_148+(1:Int))))
 else z55_k3 v57_86 ag86 vb5_4_1_135
def z55_k5 (N:Nat) (z_:T6) (v57_86:Int) (ag86:(List Int)→Int→Option (T6 × Bool)) (vb5_4_1_135:(List Int)):Option (T6 × Bool) :=
 z55_l4 z_ v57_86 ag86 vb5_4_1_135 N (0:Int)
def z55_k7 (v61_149:Int) (ag149:(List Int)→Int→Option (T6 × Bool)) (vb5_4_1_156:(List Int)):Option (T6 × Bool) :=
 ag149 vb5_4_1_156 (w64 (v61_149+(1:Int)))
def z55_l8 (z_:T6) (v57_86:Int) (v61_149:Int) (ag149:(List Int)→Int→Option (T6 × Bool)):Nat→(List Int)→Int→Option (T6 × Bool)
 | 0,_,_=>none
 | n105+1,vb5_4_1_158,v65_158 =>
 bif (decide (v65_158 < (w64 (z_.N+(1:Int))))) then ((idx vb5_4_1_158 (w64 ((w64 (v61_149 * (w64 (z_.N+(1:Int)))))+v65_158))).bind fun x2553 =>
 (idx vb5_4_1_158 (w64 ((w64 (v61_149 * (w64 (z_.N+(1:Int)))))+v57_86))).bind fun x2554 =>
 (idx vb5_4_1_158 (w64 ((w64 (v57_86 * (w64 (z_.N+(1:Int)))))+v65_158))).bind fun x2555 =>
 (idx vb5_4_1_158 (w64 ((w64 (v61_149 * (w64 (z_.N+(1:Int)))))+v65_158))).bind fun x2556 =>
 (z55_l8 z_ v57_86 v61_149 ag149 n105) (setL' vb5_4_1_158 (w64 ((w64 (v61_149 * (w64 (z_.N+(1:Int)))))+v65_158)) (minI x2553 (w64 (x2554+x2555)))) (w64 (v65_158+(1:Int))))
 else z55_k7 v61_149 ag149 vb5_4_1_158
def z55_l6 (N:Nat) (z_:T6) (v57_86:Int) (ag86:(List Int)→Int→Option (T6 × Bool)):Nat→(List Int)→Int→Option (T6 × Bool)
 | 0,_,_=>none
 | n103+1,vb5_4_1_149,v61_149 =>
 bif (decide (v61_149 < (w64 (z_.N+(1:Int))))) then (z55_l8 z_ v57_86 v61_149 (z55_l6 N z_ v57_86 ag86 n103) N vb5_4_1_149 (0:Int))
 else z55_k5 N z_ v57_86 ag86 vb5_4_1_149
def z55_l2 (N:Nat) (z_:T6):Nat→(List Int)→Int→Option (T6 × Bool)
 | 0,_,_=>none
 | n89+1,vb5_4_1_86,v57_86 =>
 bif (decide (v57_86 < (w64 (z_.N+(1:Int))))) then (z55_l6 N z_ v57_86 (z55_l2 N z_ n89) N vb5_4_1_86 (0:Int))
 else z55_k1 z_ vb5_4_1_86
def z55_k9 (N:Nat) (z_:T6) (vb5_4_1_1:(List Int)):Option (T6 × Bool) :=
 z55_l2 N z_ N vb5_4_1_1 (0:Int)
def z55_k11 (v26_159:Int) (ag159:(List Int)→Int→Option (T6 × Bool)) (vb5_4_1_166:(List Int)):Option (T6 × Bool) :=
 ag159 vb5_4_1_166 (w64 (v26_159+(1:Int)))
def z55_l12 (N:Nat) (z_:T6) (v26_159:Int) (ag159:(List Int)→Int→Option (T6 × Bool)):Nat→(List Int)→Int→Option (T6 × Bool)
 | 0,_,_=>none
 | n112+1,vb5_4_1_168,v30_168 =>
 bif (decide (v30_168 < (w64 (z_.N+(1:Int))))) then ((idx vb5_4_1_168 (w64 ((w64 (v26_159 * (w64 (z_.N+(1:Int)))))+v30_168))).bind fun x2680 =>
 (z108 N v26_159 v30_168).bind fun x2681 =>
 (idx vb5_4_1_168 (w64 ((w64 (v26_159 * (w64 (z_.N+(1:Int)))))+v30_168))).bind fun x2682 =>
 (z55_l12 N z_ v26_159 ag159 n112) (setL' vb5_4_1_168 (w64 ((w64 (v26_159 * (w64 (z_.N+(1:Int)))))+v30_168)) (minI x2680 x2681)) (w64 (v30_168+(1:Int))))
 else z55_k11 v26_159 ag159 vb5_4_1_168
def z55_l10 (N:Nat) (z_:T6):Nat→(List Int)→Int→Option (T6 × Bool)
 | 0,_,_=>none
 | n110+1,vb5_4_1_159,v26_159 =>
 bif (decide (v26_159 < (w64 (z_.N+(1:Int))))) then (z55_l12 N z_ v26_159 (z55_l10 N z_ n110) N vb5_4_1_159 (0:Int))
 else z55_k9 N z_ vb5_4_1_159
def z55 (N:Nat) (z_:T6):Option (T6 × Bool) :=
 (z52 N z_).bind fun x1 =>
 bif (!x1) then (some ((⟨(0:Int),([]:List Int)⟩:T6),false))
 else (z54 N z_.B).bind fun x2 =>
 z55_l10 N z_ N x2 (0:Int)
def z56 (N:Nat) (z_:T6) (i_:Int) (j_:Int):Option Int :=
 (idx z_.B (w64 ((w64 (i_ * (w64 (z_.N+(1:Int)))))+j_))).bind fun x1 =>
 some x1
def z18_k1 (v6_1:(List Int)):Option ((List Int) × Bool) :=
 some (v6_1,true)
def z18_k3 (v6_12:(List Int)) (v21_12:Int) (ag12:(List Int)→Int→Option ((List Int) × Bool)) (v8_19:Int):Option ((List Int) × Bool) :=
 (appL v6_12 ([v8_19]:List Int)).bind fun x157 =>
 ag12 x157 (w64 (v21_12+(1:Int)))
def z18_l4 (N:Nat) (x1:T6 × Bool) (v6_12:(List Int)) (v21_12:Int) (ag12:(List Int)→Int→Option ((List Int) × Bool)):Nat→Int→Int→Option ((List Int) × Bool)
 | 0,_,_=>none
 | n14+1,v8_21,v31_21 =>
 bif (decide (v31_21 < (v6_12.length:Int))) then ((idx v6_12 v31_21).bind fun x166 =>
 (z56 N x1.1 (w64 (v31_21+(1:Int))) (w64 (v21_12+(1:Int)))).bind fun x167 =>
 (z18_l4 N x1 v6_12 v21_12 ag12 n14) (maxI v8_21 (w64 (x166-x167))) (w64 (v31_21+(1:Int))))
 else z18_k3 v6_12 v21_12 ag12 v8_21
def z18_l2 (N:Nat) (z_:T6) (x1:T6 × Bool):Nat→(List Int)→Int→Option ((List Int) × Bool)
 | 0,_,_=>none
 | n12+1,v6_12,v21_12 =>
 bif (decide (v21_12 < z_.N)) then ((z56 N x1.1 (0:Int) (w64 (v21_12+(1:Int)))).bind fun x148 =>
 z18_l4 N x1 v6_12 v21_12 (z18_l2 N z_ x1 n12) N (w64 (0-x148)) (0:Int))
 else z18_k1 v6_12
def z18 (N:Nat) (z_:T6):Option ((List Int) × Bool) :=
 (z55 N z_).bind fun x1 =>
 bif (!x1.2) then (some (([]:List Int),false))
 else z18_l2 N z_ x1 N ([]:List Int) (0:Int)
def repL (l:List UInt8):Nat→List UInt8
 | 0=>[]
 | n+1=>l++repL l n
def z19 (N:Nat) (s_:ByteArray) (count_:Int):Option ByteArray :=
 bif (decide (0≤count_) && decide (count_≤140737488355328)) && decide (s_.size * count_.toNat≤140737488355328) then some ⟨(repL s_.data.toList count_.toNat).toArray⟩ else none
def z63 (N:Nat) (s_:(List T5)):Option (List T5) :=
 (appL ([]:List T5) s_).bind fun x1 =>
 some x1
def z20 (N:Nat) (d_:T0) (values_:(List T5)) (known_:(List T5)):Option (List T5) :=
 (z63 N known_).bind fun x1 =>
 (lsl x1 (some d_.First) none).bind fun x2 =>
 (cpL x1 (some d_.First) none values_).bind fun x3 =>
 some x3.1
def z21_k1 (vk3_3:(List T5)):Option (List T5) :=
 some vk3_3
def z21_k3 (ag176:(List T5)→(List Bool)→Bool→Option (List T5)) (vk3_291:(List T5)) (v4_291:(List Bool)) (v6_291:Bool):Option (List T5) :=
 ag176 vk3_291 v4_291 v6_291
def z21_k5 (v51_320:Int) (ag320:(List T5)→(List Bool)→Bool→Int→Option (List T5)) (vk3_339:(List T5)) (v4_339:(List Bool)) (v6_339:Bool):Option (List T5) :=
 ag320 vk3_339 v4_339 v6_339 (w64 (v51_320+(1:Int)))
def z21_k7 (vk3_344:(List T5)) (v4_344:(List Bool)) (v6_344:Bool) (v56_344:Int) (ag344:(List T5)→(List Bool)→Bool→Int→Option (List T5)) (x3518:Int) (v11_347:Int):Option (List T5) :=
 (idx v4_344 v11_347).bind fun x3519 =>
 bif x3519 then ((idx v4_344 x3518).bind fun x3520 =>
 bif (!x3520) then ((idx vk3_344 v11_347).bind fun x3521 =>
 (idx vk3_344 x3518).bind fun x3522 =>
 (idx v4_344 x3518).bind fun x3523 =>
 ag344 (setL' vk3_344 x3518 (⟨x3522.Kind,x3522.N,x3521.S⟩:T5)) (setL' v4_344 x3518 true) true (w64 (v56_344+(1:Int))))
 else ag344 vk3_344 v4_344 v6_344 (w64 (v56_344+(1:Int))))
 else ag344 vk3_344 v4_344 v6_344 (w64 (v56_344+(1:Int)))
def z21_l6 (v51_320:Int) (ag320:(List T5)→(List Bool)→Bool→Int→Option (List T5)) (x3471:(Int × Int)):Nat→(List T5)→(List Bool)→Bool→Int→Option (List T5)
 | 0,_,_,_,_=>none
 | n87+1,vk3_344,v4_344,v6_344,v56_344 =>
 bif (decide (v56_344 < (2:Int))) then ((idx ([x3471.1,x3471.2]:List Int) v56_344).bind fun x3518 =>
 bif ((w64 ((1:Int)-v56_344))==(0:Int)) then (z21_k7 vk3_344 v4_344 v6_344 v56_344 (z21_l6 v51_320 ag320 x3471 n87) x3518 x3471.1)
 else bif ((w64 ((1:Int)-v56_344))==(1:Int)) then (z21_k7 vk3_344 v4_344 v6_344 v56_344 (z21_l6 v51_320 ag320 x3471 n87) x3518 x3471.2)
 else none)
 else z21_k5 v51_320 ag320 vk3_344 v4_344 v6_344
def z21_l4 (N:Nat) (d_:T0) (ag176:(List T5)→(List Bool)→Bool→Option (List T5)):Nat→(List T5)→(List Bool)→Bool→Int→Option (List T5)
 | 0,_,_,_,_=>none
 | n85+1,vk3_320,v4_320,v6_320,v51_320 =>
 bif (decide (v51_320 < (d_.Guard.Equals.length:Int))) then ((idx d_.Guard.Equals v51_320).bind fun x3471 =>
 z21_l6 v51_320 (z21_l4 N d_ ag176 n85) x3471 N vk3_320 v4_320 v6_320 (0:Int))
 else z21_k3 ag176 vk3_320 v4_320 v6_320
def z21_l2 (N:Nat) (d_:T0):Nat→(List T5)→(List Bool)→Bool→Option (List T5)
 | 0,_,_,_=>none
 | n73+1,vk3_176,v4_176,v6_176 =>
 bif v6_176 then (z21_l4 N d_ (z21_l2 N d_ n73) N vk3_176 v4_176 false (0:Int))
 else z21_k1 vk3_176
def z21_k8 (N:Nat) (d_:T0) (l_:(List T5)) (v4_1:(List Bool)):Option (List T5) :=
 z21_l2 N d_ N l_ v4_1 true
def z21_l9 (N:Nat) (d_:T0) (l_:(List T5)):Nat→(List Bool)→Int→Option (List T5)
 | 0,_,_=>none
 | n88+1,v4_348,v17_348 =>
 bif (decide (v17_348 < (l_.length:Int))) then (bif (decide (v17_348 < d_.First)) then ((idx l_ v17_348).bind fun x3544 =>
 (idx v4_348 v17_348).bind fun x3545 =>
 (z21_l9 N d_ l_ n88) (setL' v4_348 v17_348 (x3544.Kind != (0:Int))) (w64 (v17_348+(1:Int))))
 else bif (decide (v17_348≥(w64 (d_.First+(d_.Fields.length:Int))))) then ((idx l_ v17_348).bind fun x3546 =>
 (idx v4_348 v17_348).bind fun x3547 =>
 (z21_l9 N d_ l_ n88) (setL' v4_348 v17_348 (x3546.Kind != (0:Int))) (w64 (v17_348+(1:Int))))
 else (idx v4_348 v17_348).bind fun x3548 =>
 (z21_l9 N d_ l_ n88) (setL' v4_348 v17_348 false) (w64 (v17_348+(1:Int))))
 else z21_k8 N d_ l_ v4_348
def z21 (N:Nat) (d_:T0) (l_:(List T5)):Option (List T5) :=
 (mkL false (l_.length:Int) (l_.length:Int)).bind fun x1 =>
 z21_l9 N d_ l_ N x1 (0:Int)
def z22_k1:Option Bool :=
 some true
def z22_l2 (g_:T3) (l_:(List T5)):Nat→Int→Option Bool
 | 0,_=>none
 | n9+1,v57_14 =>
 bif (decide (v57_14 < (g_.Equals.length:Int))) then ((idx g_.Equals v57_14).bind fun x197 =>
 (idx l_ x197.1).bind fun x198 =>
 bif (x198.Kind==(0:Int)) then (some false)
 else (idx l_ x197.2).bind fun x199 =>
 bif (x199.Kind==(0:Int)) then (some false)
 else (idx l_ x197.1).bind fun x200 =>
 (idx l_ x197.2).bind fun x201 =>
 bif (!(x200.S.toList==x201.S.toList)) then (some false)
 else (z22_l2 g_ l_ n9) (w64 (v57_14+(1:Int))))
 else z22_k1
def z22_k3 (N:Nat) (g_:T3) (l_:(List T5)):Option Bool :=
 z22_l2 g_ l_ N (0:Int)
def z22_k5 (v15_15:Int) (ag15:Int→Option Bool) (x362:T1) (vb7_6_0_22:Int) (vb7_6_1_22:Int):Option Bool :=
 bif (decide ((w64 (vb7_6_0_22-vb7_6_1_22)) > x362.C)) then (some false)
 else ag15 (w64 (v15_15+(1:Int)))
def z22_l6 (N:Nat) (l_:(List T5)) (v15_15:Int) (ag15:Int→Option Bool) (x362:T1):Nat→Int→Int→Int→Option Bool
 | 0,_,_,_=>none
 | n16+1,vb7_6_0_24,vb7_6_1_24,v25_24 =>
 bif (decide (v25_24 < (2:Int))) then ((idx ([x362.X,x362.Y]:List Int) v25_24).bind fun x401 =>
 bif (decide (x401 < (0:Int))) then ((z22_l6 N l_ v15_15 ag15 x362 n16) vb7_6_0_24 vb7_6_1_24 (w64 (v25_24+(1:Int))))
 else (idx l_ x401).bind fun x402 =>
 bif (x402.Kind==(0:Int)) then (some false)
 else (idx l_ x401).bind fun x403 =>
 (z16 N x403).bind fun x404 =>
 bif (v25_24==(0:Int)) then ((z22_l6 N l_ v15_15 ag15 x362 n16) x404 vb7_6_1_24 (w64 (v25_24+(1:Int))))
 else bif (v25_24==(1:Int)) then ((z22_l6 N l_ v15_15 ag15 x362 n16) vb7_6_0_24 x404 (w64 (v25_24+(1:Int))))
 else none)
 else z22_k5 v15_15 ag15 x362 vb7_6_0_24 vb7_6_1_24
def z22_l4 (N:Nat) (g_:T3) (l_:(List T5)):Nat→Int→Option Bool
 | 0,_=>none
 | n14+1,v15_15 =>
 bif (decide (v15_15 < (g_.Diffs.length:Int))) then ((idx g_.Diffs v15_15).bind fun x362 =>
 z22_l6 N l_ v15_15 (z22_l4 N g_ l_ n14) x362 N (0:Int) (0:Int) (0:Int))
 else z22_k3 N g_ l_
def z22 (N:Nat) (g_:T3) (l_:(List T5)):Option Bool :=
 z22_l4 N g_ l_ N (0:Int)
def z23_k1:Option Bool :=
 some true
def z23_l2 (N:Nat) (l_:(List T2)) (values_:(List T5)):Nat→Int→Option Bool
 | 0,_=>none
 | n2+1,v14_3 =>
 bif (decide (v14_3 < (l_.length:Int))) then ((idx l_ v14_3).bind fun x25 =>
 (idx values_ v14_3).bind fun x26 =>
 (z50 N x25.Sort' x26).bind fun x27 =>
 bif (!x27) then (some false)
 else (z23_l2 N l_ values_ n2) (w64 (v14_3+(1:Int))))
 else z23_k1
def z23 (N:Nat) (l_:(List T2)) (values_:(List T5)):Option Bool :=
 bif ((l_.length:Int) != (values_.length:Int)) then (some false)
 else z23_l2 N l_ values_ N (0:Int)
def z6_k1 (N:Nat) (known_:(List T5)) (x2:T0) (v20_36:(List T5)):Option ((List T5) × Bool) :=
 (z20 N x2 v20_36 known_).bind fun x271 =>
 (z21 N x2 x271).bind fun x272 =>
 (lsl x272 (some x2.First) (some (w64 (x2.First+(x2.Fields.length:Int))))).bind fun x273 =>
 (cpL v20_36 none none x273).bind fun x274 =>
 (z22 N x2.Guard x272).bind fun x275 =>
 bif (!x275) then (some (([]:List T5),false))
 else (z23 N x2.Fields x274.1).bind fun x276 =>
 bif (!x276) then (some (([]:List T5),false))
 else some (x274.1,true)
def z6_l2 (N:Nat) (known_:(List T5)) (x2:T0) (x245:(List Int) × Bool):Nat→(List T5)→Int→Option ((List T5) × Bool)
 | 0,_,_=>none
 | n9+1,v20_38,v131_38 =>
 bif (decide (v131_38 < (x2.Fields.length:Int))) then ((idx x2.Fields v131_38).bind fun x301 =>
 (idx x245.1 v131_38).bind fun x302 =>
 (idx v20_38 v131_38).bind fun x303 =>
 bif (x301.Sort'.Kind==(2:Int)) then ((idx x245.1 v131_38).bind fun x304 =>
 (z19 N (str [97]) x304).bind fun x305 =>
 (idx (setL' v20_38 v131_38 (⟨x301.Sort'.Kind,x302,(str [])⟩:T5)) v131_38).bind fun x306 =>
 (z6_l2 N known_ x2 x245 n9) (setL' (setL' v20_38 v131_38 (⟨x301.Sort'.Kind,x302,(str [])⟩:T5)) v131_38 (⟨(2:Int),(0:Int),x305⟩:T5)) (w64 (v131_38+(1:Int))))
 else (z6_l2 N known_ x2 x245 n9) (setL' v20_38 v131_38 (⟨x301.Sort'.Kind,x302,(str [])⟩:T5)) (w64 (v131_38+(1:Int))))
 else z6_k1 N known_ x2 v20_38
def z6_k3 (N:Nat) (known_:(List T5)) (x2:T0) (vb10_8_0_1:Int) (vb10_8_1_1:(List Int)):Option ((List T5) × Bool) :=
 (z18 N (⟨vb10_8_0_1,vb10_8_1_1⟩:T6)).bind fun x245 =>
 bif (!x245.2) then (some (([]:List T5),false))
 else (mkL (⟨(0:Int),(0:Int),(str [])⟩:T5) (x2.Fields.length:Int) (x2.Fields.length:Int)).bind fun x246 =>
 z6_l2 N known_ x2 x245 N x246 (0:Int)
def z6_k5 (N:Nat) (vb10_8_0_39:Int) (vb10_8_1_39:(List Int)) (v44_39:Int) (ag39:Int→(List Int)→Int→Option ((List T5) × Bool)) (v14_62:Int) (vb15_13_0_62:Int) (vb15_13_1_62:Int):Option ((List T5) × Bool) :=
 (z17 N (⟨vb10_8_0_39,vb10_8_1_39⟩:T6) (⟨vb15_13_0_62,vb15_13_1_62,v14_62⟩:T1)).bind fun x583 =>
 ag39 x583.1.N x583.1.B (w64 (v44_39+(1:Int)))
def z6_k7 (N:Nat) (known_:(List T5)) (x2:T0) (v14_68:Int) (vb15_13_0_68:Int) (vb15_13_1_68:Int) (v56_68:Int) (ag68:Int→Int→Int→Int→Option ((List T5) × Bool)) (x613:Int) (v70_72:Bool):Option ((List T5) × Bool) :=
 bif v70_72 then (bif (v56_68==(0:Int)) then (ag68 v14_68 (w64 (x613-x2.First)) vb15_13_1_68 (w64 (v56_68+(1:Int))))
 else bif (v56_68==(1:Int)) then (ag68 v14_68 vb15_13_0_68 (w64 (x613-x2.First)) (w64 (v56_68+(1:Int))))
 else none)
 else (idx known_ x613).bind fun x614 =>
 bif (x614.Kind==(0:Int)) then (some (([]:List T5),false))
 else bif (v56_68==(0:Int)) then ((idx known_ x613).bind fun x615 =>
 (z16 N x615).bind fun x616 =>
 ag68 (w64 (v14_68-x616)) vb15_13_0_68 vb15_13_1_68 (w64 (v56_68+(1:Int))))
 else (idx known_ x613).bind fun x617 =>
 (z16 N x617).bind fun x618 =>
 ag68 (w64 (v14_68+x618)) vb15_13_0_68 vb15_13_1_68 (w64 (v56_68+(1:Int)))
def z6_l6 (N:Nat) (known_:(List T5)) (x2:T0) (vb10_8_0_39:Int) (vb10_8_1_39:(List Int)) (v44_39:Int) (ag39:Int→(List Int)→Int→Option ((List T5) × Bool)) (x553:T1):Nat→Int→Int→Int→Int→Option ((List T5) × Bool)
 | 0,_,_,_,_=>none
 | n16+1,v14_68,vb15_13_0_68,vb15_13_1_68,v56_68 =>
 bif (decide (v56_68 < (2:Int))) then ((idx ([x553.X,x553.Y]:List Int) v56_68).bind fun x613 =>
 bif (decide (x613 < (0:Int))) then ((z6_l6 N known_ x2 vb10_8_0_39 vb10_8_1_39 v44_39 ag39 x553 n16) v14_68 vb15_13_0_68 vb15_13_1_68 (w64 (v56_68+(1:Int))))
 else bif (decide (x613≥x2.First)) then (z6_k7 N known_ x2 v14_68 vb15_13_0_68 vb15_13_1_68 v56_68 (z6_l6 N known_ x2 vb10_8_0_39 vb10_8_1_39 v44_39 ag39 x553 n16) x613 (decide (x613 < (w64 (x2.First+(x2.Fields.length:Int))))))
 else z6_k7 N known_ x2 v14_68 vb15_13_0_68 vb15_13_1_68 v56_68 (z6_l6 N known_ x2 vb10_8_0_39 vb10_8_1_39 v44_39 ag39 x553 n16) x613 false)
 else z6_k5 N vb10_8_0_39 vb10_8_1_39 v44_39 ag39 v14_68 vb15_13_0_68 vb15_13_1_68
def z6_l4 (N:Nat) (known_:(List T5)) (x2:T0) (x4:(List T1)):Nat→Int→(List Int)→Int→Option ((List T5) × Bool)
 | 0,_,_,_=>none
 | n14+1,vb10_8_0_39,vb10_8_1_39,v44_39 =>
 bif (decide (v44_39 < (x4.length:Int))) then ((idx x4 v44_39).bind fun x553 =>
 z6_l6 N known_ x2 vb10_8_0_39 vb10_8_1_39 v44_39 (z6_l4 N known_ x2 x4 n14) x553 N x553.C (-1:Int) (-1:Int) (0:Int))
 else z6_k3 N known_ x2 vb10_8_0_39 vb10_8_1_39
def z6 (N:Nat) (decls_:(List T0)) (label_:Int) (known_:(List T5)):Option ((List T5) × Bool) :=
 (z13 N decls_ label_ known_).bind fun x1 =>
 bif (!x1) then (some (([]:List T5),false))
 else (idx decls_ label_).bind fun x2 =>
 (z14 N (x2.Fields.length:Int)).bind fun x3 =>
 (z15 N x2).bind fun x4 =>
 z6_l4 N known_ x2 x4 N x3.1.N x3.1.B (0:Int)
def z65_k1 (v3_1:Int):Option Int :=
 some v3_1
def z65_l2 (decls_:(List T0)):Nat→Int→Int→Option Int
 | 0,_,_=>none
 | n2+1,v3_3,v4_3 =>
 bif (decide (v4_3 < (decls_.length:Int))) then ((idx decls_ v4_3).bind fun x9 =>
 (z65_l2 decls_ n2) (w64 (v3_3+(x9.Fields.length:Int))) (w64 (v4_3+(1:Int))))
 else z65_k1 v3_3
def z65 (N:Nat) (decls_:(List T0)):Option Int :=
 z65_l2 decls_ N (0:Int) (0:Int)
def z116_k1 (s_:T4) (v3_1:Int) (v4_1:Int):Option Bool :=
 bif (s_.Kind==(1:Int)) then (bif (decide (s_.Lo≥v3_1)) then (bif (decide (s_.Hi≤v4_1)) then (some (decide (s_.Lo≤s_.Hi)))
 else some false)
 else some false)
 else bif (s_.Kind==(2:Int)) then (bif (decide (s_.Lo≥v3_1)) then (bif (decide (s_.Hi≤v4_1)) then (some (decide (s_.Lo≤s_.Hi)))
 else some false)
 else some false)
 else some false
def z116 (N:Nat) (s_:T4):Option Bool :=
 bif (s_.Kind==(2:Int)) then (z116_k1 s_ (0:Int) (40:Int))
 else z116_k1 s_ (-1000:Int) (1000:Int)
def z196 (N:Nat) (c_:Int):Option Bool :=
 bif (decide (c_≥(97:Int))) then (bif (decide (c_≤(122:Int))) then (some true)
 else bif (decide (c_≥(65:Int))) then (some (decide (c_≤(90:Int))))
 else some false)
 else bif (decide (c_≥(65:Int))) then (some (decide (c_≤(90:Int))))
 else some false
def z218 (N:Nat) (c_:Int):Option Bool :=
 bif (decide (c_≥(48:Int))) then (some (decide (c_≤(57:Int))))
 else some false
def z197 (N:Nat) (c_:Int):Option Bool :=
 (z196 N c_).bind fun x1 =>
 bif x1 then (some true)
 else (z218 N c_).bind fun x2 =>
 bif x2 then (some true)
 else some (c_==(95:Int))
def z168_k1:Option Bool :=
 some true
def z168_l2 (N:Nat) (s_:ByteArray):Nat→Int→Option Bool
 | 0,_=>none
 | n2+1,v3_3 =>
 bif (decide (v3_3 < (s_.size:Int))) then ((sidx s_ v3_3).bind fun x19 =>
 (z197 N x19).bind fun x20 =>
 bif (!x20) then (some false)
 else (z168_l2 N s_ n2) (w64 (v3_3+(1:Int))))
 else z168_k1
def z168 (N:Nat) (s_:ByteArray):Option Bool :=
 bif (s_.toList==(str []).toList) then (some false)
 else (sidx s_ (0:Int)).bind fun x1 =>
 (z196 N x1).bind fun x2 =>
 bif (!x2) then (some false)
 else bif (decide ((s_.size:Int) > (16:Int))) then (some false)
 else z168_l2 N s_ N (0:Int)
def z170 (N:Nat):Option (List ByteArray) :=
 some ([(str [97,103,97,105,110]),(str [97,110,100]),(str [97,115]),(str [97,116]),(str [99,97,108,108]),(str [99,104,111,105,99,101]),(str [101,108,115,101]),(str [102,114,111,109]),(str [105,102]),(str [105,110,116]),(str [108,101,110]),(str [108,111,111,112]),(str [109,101,115,115,97,103,101]),(str [111,102]),(str [111,102,102,101,114]),(str [111,110]),(str [111,114]),(str [112,97,114]),(str [112,108,97,121,115]),(str [112,114,111,116,111,99,111,108]),(str [115,101,114,118,105,99,101]),(str [116,101,120,116]),(str [116,105,109,101,115]),(str [116,111]),(str [118,97,114]),(str [119,104,101,114,101]),(str [119,104,105,108,101]),(str [119,105,116,104,105,110])]:List ByteArray)
def z169_k1:Option Bool :=
 some false
def z169_l2 (l_:(List ByteArray)) (s_:ByteArray):Nat→Int→Option Bool
 | 0,_=>none
 | n2+1,v5_3 =>
 bif (decide (v5_3 < (l_.length:Int))) then ((idx l_ v5_3).bind fun x9 =>
 bif (x9.toList==s_.toList) then (some true)
 else (z169_l2 l_ s_ n2) (w64 (v5_3+(1:Int))))
 else z169_k1
def z169 (N:Nat) (l_:(List ByteArray)) (s_:ByteArray):Option Bool :=
 z169_l2 l_ s_ N (0:Int)
def z117 (N:Nat) (s_:ByteArray):Option Bool :=
 (z168 N s_).bind fun x1 =>
 bif x1 then ((z170 N).bind fun x2 =>
 (z169 N x2 s_).bind fun x3 =>
 some (!x3))
 else some false
def z171 (N:Nat) (s_:ByteArray):Option Bool :=
 (z117 N s_).bind fun x1 =>
 some x1
def z118_k1 (s_:ByteArray):Option Bool :=
 some (decide ((s_.size:Int)≤(50:Int)))
def z118_k3 (N:Nat) (s_:ByteArray) (v3_6:Int) (v4_6:Int) (ag6:Int→Int→Option Bool) (v20_9:Bool):Option Bool :=
 bif v20_9 then ((ssl s_ (some v3_6) (some v4_6)).bind fun x34 =>
 (z171 N x34).bind fun x35 =>
 bif (!x35) then (some false)
 else ag6 (w64 (v4_6+(1:Int))) (w64 (v4_6+(1:Int))))
 else ag6 v3_6 (w64 (v4_6+(1:Int)))
def z118_l2 (N:Nat) (s_:ByteArray):Nat→Int→Int→Option Bool
 | 0,_,_=>none
 | n2+1,v3_6,v4_6 =>
 bif (decide (v4_6≤(s_.size:Int))) then (bif (v4_6==(s_.size:Int)) then (z118_k3 N s_ v3_6 v4_6 (z118_l2 N s_ n2) true)
 else (sidx s_ v4_6).bind fun x36 =>
 z118_k3 N s_ v3_6 v4_6 (z118_l2 N s_ n2) (x36==(46:Int)))
 else z118_k1 s_
def z118 (N:Nat) (s_:ByteArray):Option Bool :=
 z118_l2 N s_ N (0:Int) (0:Int)
def z67_k1:Option T2 :=
 some (⟨(str []),(⟨(0:Int),(0:Int),(0:Int)⟩:T4)⟩:T2)
def z67_l2 (decls_:(List T0)):Nat→Int→Int→Option T2
 | 0,_,_=>none
 | n2+1,v1_3,v5_3 =>
 bif (decide (v5_3 < (decls_.length:Int))) then ((idx decls_ v5_3).bind fun x33 =>
 bif (decide (v1_3 < (x33.Fields.length:Int))) then ((idx decls_ v5_3).bind fun x34 =>
 (idx x34.Fields v1_3).bind fun x35 =>
 some x35)
 else (idx decls_ v5_3).bind fun x36 =>
 (z67_l2 decls_ n2) (w64 (v1_3-(x36.Fields.length:Int))) (w64 (v5_3+(1:Int))))
 else z67_k1
def z67 (N:Nat) (decls_:(List T0)) (x_:Int):Option T2 :=
 z67_l2 decls_ N x_ (0:Int)
def z172 (N:Nat) (decls_:(List T0)) (x_:Int):Option Bool :=
 bif (decide (x_≥(0:Int))) then ((z65 N decls_).bind fun x1 =>
 bif (decide (x_ < x1)) then ((z67 N decls_ x_).bind fun x2 =>
 some (x2.Sort'.Kind==(2:Int)))
 else some false)
 else some false
def z119_k1 (g_:T3):Option Bool :=
 bif (decide ((g_.Diffs.length:Int)≤(20:Int))) then (some (decide ((g_.Equals.length:Int)≤(20:Int))))
 else some false
def z119_l2 (N:Nat) (decls_:(List T0)) (g_:T3):Nat→Int→Option Bool
 | 0,_=>none
 | n3+1,v8_5 =>
 bif (decide (v8_5 < (g_.Equals.length:Int))) then ((idx g_.Equals v8_5).bind fun x38 =>
 (z172 N decls_ x38.1).bind fun x39 =>
 bif (!x39) then (some false)
 else (idx g_.Equals v8_5).bind fun x40 =>
 (z172 N decls_ x40.2).bind fun x41 =>
 bif (!x41) then (some false)
 else (z119_l2 N decls_ g_ n3) (w64 (v8_5+(1:Int))))
 else z119_k1 g_
def z119_k3 (N:Nat) (decls_:(List T0)) (g_:T3):Option Bool :=
 z119_l2 N decls_ g_ N (0:Int)
def z119_l4 (N:Nat) (decls_:(List T0)) (g_:T3) (x1:Int):Nat→Int→Option Bool
 | 0,_=>none
 | n4+1,v6_6 =>
 bif (decide (v6_6 < (g_.Diffs.length:Int))) then ((idx g_.Diffs v6_6).bind fun x46 =>
 bif (decide (x46.X < (-1:Int))) then (some false)
 else bif (decide (x46.X≥x1)) then (some false)
 else bif (decide (x46.Y < (-1:Int))) then (some false)
 else bif (decide (x46.Y≥x1)) then (some false)
 else bif (decide (x46.C < (-20000:Int))) then (some false)
 else bif (decide (x46.C > (20000:Int))) then (some false)
 else (z119_l4 N decls_ g_ x1 n4) (w64 (v6_6+(1:Int))))
 else z119_k3 N decls_ g_
def z119 (N:Nat) (decls_:(List T0)) (g_:T3):Option Bool :=
 (z65 N decls_).bind fun x1 =>
 z119_l4 N decls_ g_ x1 N (0:Int)
def z64_k1:Option Bool :=
 some true
def z64_k3 (N:Nat) (decls_:(List T0)) (v3_75:Int) (v4_75:Int) (ag75:Int→Int→Option Bool) (x1395:T0):Option Bool :=
 (z118 N x1395.Name).bind fun x1480 =>
 bif (!x1480) then (some false)
 else bif (decide ((x1395.Fields.length:Int) > (4:Int))) then (some false)
 else bif (x1395.First != v3_75) then (some false)
 else (z119 N decls_ x1395.Guard).bind fun x1481 =>
 bif (!x1481) then (some false)
 else ag75 (w64 (v3_75+(x1395.Fields.length:Int))) (w64 (v4_75+(1:Int)))
def z64_k5 (v7_137:Int) (ag137:Int→Option Bool):Option Bool :=
 ag137 (w64 (v7_137+(1:Int)))
def z64_l6 (x1395:T0) (v7_137:Int) (ag137:Int→Option Bool):Nat→Int→Option Bool
 | 0,_=>none
 | n97+1,v8_146 =>
 bif (decide (v8_146 < v7_137)) then ((idx x1395.Fields v8_146).bind fun x1584 =>
 (idx x1395.Fields v7_137).bind fun x1585 =>
 bif (x1584.Name.toList==x1585.Name.toList) then (some false)
 else (z64_l6 x1395 v7_137 ag137 n97) (w64 (v8_146+(1:Int))))
 else z64_k5 v7_137 ag137
def z64_l4 (N:Nat) (decls_:(List T0)) (v3_75:Int) (v4_75:Int) (ag75:Int→Int→Option Bool) (x1395:T0):Nat→Int→Option Bool
 | 0,_=>none
 | n95+1,v7_137 =>
 bif (decide (v7_137 < (x1395.Fields.length:Int))) then ((idx x1395.Fields v7_137).bind fun x1564 =>
 (z116 N x1564.Sort').bind fun x1565 =>
 bif (!x1565) then (some false)
 else (idx x1395.Fields v7_137).bind fun x1566 =>
 (z117 N x1566.Name).bind fun x1567 =>
 bif (!x1567) then (some false)
 else z64_l6 x1395 v7_137 (z64_l4 N decls_ v3_75 v4_75 ag75 x1395 n95) N (0:Int))
 else z64_k3 N decls_ v3_75 v4_75 ag75 x1395
def z64_k7 (N:Nat) (decls_:(List T0)) (v3_75:Int) (v4_75:Int) (ag75:Int→Int→Option Bool) (x1395:T0):Option Bool :=
 z64_l4 N decls_ v3_75 v4_75 ag75 x1395 N (0:Int)
def z64_l8 (N:Nat) (decls_:(List T0)) (v3_75:Int) (v4_75:Int) (ag75:Int→Int→Option Bool) (x1395:T0):Nat→Int→Option Bool
 | 0,_=>none
 | n98+1,v6_147 =>
 bif (decide (v6_147 < v4_75)) then ((idx decls_ v6_147).bind fun x1590 =>
 bif (x1590.Name.toList==x1395.Name.toList) then (some false)
 else (z64_l8 N decls_ v3_75 v4_75 ag75 x1395 n98) (w64 (v6_147+(1:Int))))
 else z64_k7 N decls_ v3_75 v4_75 ag75 x1395
def z64_l2 (N:Nat) (decls_:(List T0)):Nat→Int→Int→Option Bool
 | 0,_,_=>none
 | n82+1,v3_75,v4_75 =>
 bif (decide (v4_75 < (decls_.length:Int))) then ((idx decls_ v4_75).bind fun x1395 =>
 z64_l8 N decls_ v3_75 v4_75 (z64_l2 N decls_ n82) x1395 N (0:Int))
 else z64_k1
def z64 (N:Nat) (decls_:(List T0)):Option Bool :=
 bif (decide ((decls_.length:Int) > (40:Int))) then (some false)
 else (z65 N decls_).bind fun x1 =>
 bif (decide (x1 > (24:Int))) then (some false)
 else z64_l2 N decls_ N (0:Int) (0:Int)
def z24 (N:Nat) (decls_:(List T0)) (label_:Int):Option Bool :=
 (z64 N decls_).bind fun x1 =>
 bif x1 then (bif (decide (label_≥(0:Int))) then (some (decide (label_ < (decls_.length:Int))))
 else some false)
 else some false
def z31 (N:Nat) (v_:T5):Option Int :=
 bif (v_.Kind==(2:Int)) then (some (v_.S.size:Int))
 else some v_.N
def z66_k1 (N:Nat) (s_:T4) (v_:T5) (v42_3:Bool):Option Bool :=
 bif v42_3 then (some false)
 else bif (v_.Kind==s_.Kind) then ((z31 N v_).bind fun x9 =>
 bif (decide (x9≥s_.Lo)) then ((z31 N v_).bind fun x10 =>
 some (decide (x10≤s_.Hi)))
 else some false)
 else some false
def z66_k2 (N:Nat) (s_:T4) (v_:T5):Option Bool :=
 bif (v_.Kind==(2:Int)) then (bif (v_.N != (0:Int)) then (z66_k1 N s_ v_ true)
 else bif (v_.Kind==(1:Int)) then (z66_k1 N s_ v_ (!(v_.S.toList==(str []).toList)))
 else z66_k1 N s_ v_ false)
 else bif (v_.Kind==(1:Int)) then (z66_k1 N s_ v_ (!(v_.S.toList==(str []).toList)))
 else z66_k1 N s_ v_ false
def z66_l3 (N:Nat) (s_:T4) (v_:T5):Nat→Int→Option Bool
 | 0,_=>none
 | n2+1,v5_4 =>
 bif (decide (v5_4 < (v_.S.size:Int))) then ((sidx v_.S v5_4).bind fun x19 =>
 bif (decide (x19 < (32:Int))) then (some false)
 else (sidx v_.S v5_4).bind fun x20 =>
 bif (decide (x20 > (126:Int))) then (some false)
 else (z66_l3 N s_ v_ n2) (w64 (v5_4+(1:Int))))
 else z66_k2 N s_ v_
def z66 (N:Nat) (s_:T4) (v_:T5):Option Bool :=
 z66_l3 N s_ v_ N (0:Int)
def z25_k1:Option Bool :=
 some true
def z25_l2 (N:Nat) (decls_:(List T0)) (known_:(List T5)):Nat→Int→Option Bool
 | 0,_=>none
 | n2+1,v5_3 =>
 bif (decide (v5_3 < (known_.length:Int))) then ((idx known_ v5_3).bind fun x34 =>
 bif (!((x34.Kind==(0:Int)) && ((x34.N==(0:Int)) && ((x34.S.toList==(str []).toList) && true)))) then ((z67 N decls_ v5_3).bind fun x35 =>
 (idx known_ v5_3).bind fun x36 =>
 (z66 N x35.Sort' x36).bind fun x37 =>
 bif (!x37) then (some false)
 else (z25_l2 N decls_ known_ n2) (w64 (v5_3+(1:Int))))
 else (z25_l2 N decls_ known_ n2) (w64 (v5_3+(1:Int))))
 else z25_k1
def z25 (N:Nat) (decls_:(List T0)) (known_:(List T5)):Option Bool :=
 (z65 N decls_).bind fun x1 =>
 bif ((known_.length:Int) != x1) then (some false)
 else z25_l2 N decls_ known_ N (0:Int)
def z26_k1 (v6_3:(List T1)):Option ((List T1) × Int) :=
 some (v6_3,(0:Int))
def z26_l2 (x2:T0):Nat→(List T1)→Int→Option ((List T1) × Int)
 | 0,_,_=>none
 | n3+1,v6_5,v10_5 =>
 bif (decide (v10_5 < (x2.Guard.Equals.length:Int))) then ((idx x2.Guard.Equals v10_5).bind fun x40 =>
 (idx x2.Guard.Equals v10_5).bind fun x41 =>
 (appL v6_5 ([(⟨x40.1,x41.2,(0:Int)⟩:T1),(⟨x41.2,x40.1,(0:Int)⟩:T1)]:List T1)).bind fun x42 =>
 (z26_l2 x2 n3) x42 (w64 (v10_5+(1:Int))))
 else z26_k1 v6_5
def z26_k3 (N:Nat) (x2:T0) (v6_1:(List T1)):Option ((List T1) × Int) :=
 (appL v6_1 x2.Guard.Diffs).bind fun x15 =>
 z26_l2 x2 N x15 (0:Int)
def z26_l4 (N:Nat) (x2:T0):Nat→(List T1)→Int→Option ((List T1) × Int)
 | 0,_,_=>none
 | n4+1,v6_6,v8_6 =>
 bif (decide (v8_6 < (x2.Fields.length:Int))) then ((idx x2.Fields v8_6).bind fun x55 =>
 (idx x2.Fields v8_6).bind fun x56 =>
 (appL v6_6 ([(⟨(w64 (x2.First+v8_6)),(-1:Int),x55.Sort'.Hi⟩:T1),(⟨(-1:Int),(w64 (x2.First+v8_6)),(w64 (0-x56.Sort'.Lo))⟩:T1)]:List T1)).bind fun x57 =>
 (z26_l4 N x2 n4) x57 (w64 (v8_6+(1:Int))))
 else z26_k3 N x2 v6_6
def z26 (N:Nat) (decls_:(List T0)) (label_:Int):Option ((List T1) × Int) :=
 (z24 N decls_ label_).bind fun x1 =>
 bif (!x1) then (some (([]:List T1),(1:Int)))
 else (idx decls_ label_).bind fun x2 =>
 z26_l4 N x2 N ([]:List T1) (0:Int)
def z32 (N:Nat) (d_:T0) (x_:Int):Option Bool :=
 bif (decide (x_≥d_.First)) then (some (decide (x_ < (w64 (d_.First+(d_.Fields.length:Int))))))
 else some false
def z27 (N:Nat) (d_:T0) (known_:(List T5)) (x_:Int):Option Bool :=
 bif (decide (x_≥(0:Int))) then ((z32 N d_ x_).bind fun x1 =>
 bif (!x1) then ((idx known_ x_).bind fun x2 =>
 some (x2.Kind==(0:Int)))
 else some false)
 else some false
def z28_k1 (v7_1:(List ByteArray)) (v8_1:(List Bool)):Option ((List ByteArray) × (List Bool) × Bool) :=
 some (v7_1,v8_1,true)
def z28_k3 (v9_390:Int) (ag390:(List ByteArray)→(List Bool)→Int→Option ((List ByteArray) × (List Bool) × Bool)) (v7_649:(List ByteArray)) (v8_649:(List Bool)):Option ((List ByteArray) × (List Bool) × Bool) :=
 ag390 v7_649 v8_649 (w64 (v9_390+(1:Int)))
def z28_k5 (v10_714:Int) (ag714:(List ByteArray)→(List Bool)→Int→Option ((List ByteArray) × (List Bool) × Bool)) (v7_757:(List ByteArray)) (v8_757:(List Bool)):Option ((List ByteArray) × (List Bool) × Bool) :=
 ag714 v7_757 v8_757 (w64 (v10_714+(1:Int)))
def z28_k7 (d_:T0) (v7_768:(List ByteArray)) (v8_768:(List Bool)) (v11_768:Int) (ag768:(List ByteArray)→(List Bool)→Int→Option ((List ByteArray) × (List Bool) × Bool)) (v12_775:Int) (v14_776:ByteArray) (v15_776:Bool) (v106_777:Bool):Option ((List ByteArray) × (List Bool) × Bool) :=
 bif v106_777 then (some (([]:List ByteArray),([]:List Bool),false))
 else bif v15_776 then ((idx v7_768 (w64 (v12_775-d_.First))).bind fun x10874 =>
 (idx v8_768 (w64 (v12_775-d_.First))).bind fun x10875 =>
 ag768 (setL' v7_768 (w64 (v12_775-d_.First)) v14_776) (setL' v8_768 (w64 (v12_775-d_.First)) true) (w64 (v11_768+(1:Int))))
 else ag768 v7_768 v8_768 (w64 (v11_768+(1:Int)))
def z28_k8 (d_:T0) (v7_768:(List ByteArray)) (v8_768:(List Bool)) (v11_768:Int) (ag768:(List ByteArray)→(List Bool)→Int→Option ((List ByteArray) × (List Bool) × Bool)) (v12_775:Int) (v14_776:ByteArray) (v15_776:Bool):Option ((List ByteArray) × (List Bool) × Bool) :=
 bif v15_776 then ((idx v8_768 (w64 (v12_775-d_.First))).bind fun x10876 =>
 bif x10876 then ((idx v7_768 (w64 (v12_775-d_.First))).bind fun x10877 =>
 z28_k7 d_ v7_768 v8_768 v11_768 ag768 v12_775 v14_776 v15_776 (!(x10877.toList==v14_776.toList)))
 else z28_k7 d_ v7_768 v8_768 v11_768 ag768 v12_775 v14_776 v15_776 false)
 else z28_k7 d_ v7_768 v8_768 v11_768 ag768 v12_775 v14_776 v15_776 false
def z28_k9 (N:Nat) (d_:T0) (known_:(List T5)) (v7_768:(List ByteArray)) (v8_768:(List Bool)) (v11_768:Int) (ag768:(List ByteArray)→(List Bool)→Int→Option ((List ByteArray) × (List Bool) × Bool)) (v12_775:Int) (v13_775:Int):Option ((List ByteArray) × (List Bool) × Bool) :=
 (z32 N d_ v12_775).bind fun x10867 =>
 bif (!x10867) then (ag768 v7_768 v8_768 (w64 (v11_768+(1:Int))))
 else (z32 N d_ v13_775).bind fun x10868 =>
 bif x10868 then ((idx v7_768 (w64 (v13_775-d_.First))).bind fun x10878 =>
 (idx v8_768 (w64 (v13_775-d_.First))).bind fun x10879 =>
 z28_k8 d_ v7_768 v8_768 v11_768 ag768 v12_775 x10878 x10879)
 else (idx known_ v13_775).bind fun x10880 =>
 z28_k8 d_ v7_768 v8_768 v11_768 ag768 v12_775 x10880.S true
def z28_l6 (N:Nat) (d_:T0) (known_:(List T5)) (v10_714:Int) (ag714:(List ByteArray)→(List Bool)→Int→Option ((List ByteArray) × (List Bool) × Bool)):Nat→(List ByteArray)→(List Bool)→Int→Option ((List ByteArray) × (List Bool) × Bool)
 | 0,_,_,_=>none
 | n86+1,v7_768,v8_768,v11_768 =>
 bif (decide (v11_768 < (2:Int))) then ((idx d_.Guard.Equals v10_714).bind fun x10864 =>
 bif (v11_768==(0:Int)) then ((idx d_.Guard.Equals v10_714).bind fun x10881 =>
 bif ((w64 ((1:Int)-v11_768))==(0:Int)) then (z28_k9 N d_ known_ v7_768 v8_768 v11_768 (z28_l6 N d_ known_ v10_714 ag714 n86) x10864.1 x10881.1)
 else bif ((w64 ((1:Int)-v11_768))==(1:Int)) then (z28_k9 N d_ known_ v7_768 v8_768 v11_768 (z28_l6 N d_ known_ v10_714 ag714 n86) x10864.1 x10881.2)
 else none)
 else bif (v11_768==(1:Int)) then ((idx d_.Guard.Equals v10_714).bind fun x10882 =>
 bif ((w64 ((1:Int)-v11_768))==(0:Int)) then (z28_k9 N d_ known_ v7_768 v8_768 v11_768 (z28_l6 N d_ known_ v10_714 ag714 n86) x10864.2 x10882.1)
 else bif ((w64 ((1:Int)-v11_768))==(1:Int)) then (z28_k9 N d_ known_ v7_768 v8_768 v11_768 (z28_l6 N d_ known_ v10_714 ag714 n86) x10864.2 x10882.2)
 else none)
 else none)
 else z28_k5 v10_714 ag714 v7_768 v8_768
def z28_l4 (N:Nat) (d_:T0) (known_:(List T5)) (v9_390:Int) (ag390:(List ByteArray)→(List Bool)→Int→Option ((List ByteArray) × (List Bool) × Bool)):Nat→(List ByteArray)→(List Bool)→Int→Option ((List ByteArray) × (List Bool) × Bool)
 | 0,_,_,_=>none
 | n84+1,v7_714,v8_714,v10_714 =>
 bif (decide (v10_714 < (d_.Guard.Equals.length:Int))) then (z28_l6 N d_ known_ v10_714 (z28_l4 N d_ known_ v9_390 ag390 n84) N v7_714 v8_714 (0:Int))
 else z28_k3 v9_390 ag390 v7_714 v8_714
def z28_l2 (N:Nat) (d_:T0) (known_:(List T5)):Nat→(List ByteArray)→(List Bool)→Int→Option ((List ByteArray) × (List Bool) × Bool)
 | 0,_,_,_=>none
 | n72+1,v7_390,v8_390,v9_390 =>
 bif (decide (v9_390≤(d_.Fields.length:Int))) then (z28_l4 N d_ known_ v9_390 (z28_l2 N d_ known_ n72) N v7_390 v8_390 (0:Int))
 else z28_k1 v7_390 v8_390
def z28 (N:Nat) (d_:T0) (known_:(List T5)):Option ((List ByteArray) × (List Bool) × Bool) :=
 (mkL (str []) (d_.Fields.length:Int) (d_.Fields.length:Int)).bind fun x1 =>
 (mkL false (d_.Fields.length:Int) (d_.Fields.length:Int)).bind fun x2 =>
 z28_l2 N d_ known_ N x1 x2 (0:Int)
def z68 (N:Nat) (i_:Int) (j_:Int):Option Int :=
 bif (i_==j_) then (some (0:Int))
 else bif (i_==(0:Int)) then (some (10000:Int))
 else bif (j_==(0:Int)) then (some (10000:Int))
 else some (20000:Int)
def z29_k1 (n_:Int) (vb4_1_1_1:(List Int)):Option (T6 × Int) :=
 some ((⟨n_,vb4_1_1_1⟩:T6),(0:Int))
def z29_k3 (v5_12:Int) (ag12:(List Int)→Int→Option (T6 × Int)) (vb4_1_1_19:(List Int)):Option (T6 × Int) :=
 ag12 vb4_1_1_19 (w64 (v5_12+(1:Int)))
def z29_l4 (N:Nat) (n_:Int) (v5_12:Int) (ag12:(List Int)→Int→Option (T6 × Int)):Nat→(List Int)→Int→Option (T6 × Int)
 | 0,_,_=>none
 | n14+1,vb4_1_1_21,v6_21 =>
 bif (decide (v6_21≤n_)) then ((z68 N v5_12 v6_21).bind fun x147 =>
 (appL vb4_1_1_21 ([x147]:List Int)).bind fun x148 =>
 (z29_l4 N n_ v5_12 ag12 n14) x148 (w64 (v6_21+(1:Int))))
 else z29_k3 v5_12 ag12 vb4_1_1_21
def z29_l2 (N:Nat) (n_:Int):Nat→(List Int)→Int→Option (T6 × Int)
 | 0,_,_=>none
 | n12+1,vb4_1_1_12,v5_12 =>
 bif (decide (v5_12≤n_)) then (z29_l4 N n_ v5_12 (z29_l2 N n_ n12) N vb4_1_1_12 (0:Int))
 else z29_k1 n_ vb4_1_1_12
def z29 (N:Nat) (n_:Int):Option (T6 × Int) :=
 bif (decide (n_ < (0:Int))) then (some ((⟨(0:Int),([]:List Int)⟩:T6),(2:Int)))
 else bif (decide (n_ > (24:Int))) then (some ((⟨(0:Int),([]:List Int)⟩:T6),(2:Int)))
 else z29_l2 N n_ N ([]:List Int) (0:Int)
def z69_k1:Option Bool :=
 some true
def z69_l2 (z_:T6):Nat→Int→Option Bool
 | 0,_=>none
 | n2+1,v3_3 =>
 bif (decide (v3_3 < (z_.B.length:Int))) then ((idx z_.B v3_3).bind fun x17 =>
 bif (decide (x17 < (-20001:Int))) then (some false)
 else (idx z_.B v3_3).bind fun x18 =>
 bif (decide (x18 > (20000:Int))) then (some false)
 else (z69_l2 z_ n2) (w64 (v3_3+(1:Int))))
 else z69_k1
def z69 (N:Nat) (z_:T6):Option Bool :=
 bif (decide (z_.N < (0:Int))) then (some false)
 else bif (decide (z_.N > (24:Int))) then (some false)
 else bif ((z_.B.length:Int) != (w64 ((w64 (z_.N+(1:Int))) * (w64 (z_.N+(1:Int)))))) then (some false)
 else z69_l2 z_ N (0:Int)
def z70 (N:Nat) (z_:T6) (x_:Int):Option Bool :=
 bif (decide (x_≥(-1:Int))) then (some (decide (x_ < z_.N)))
 else some false
def z30 (N:Nat) (z_:T6) (d_:T1):Option (T6 × Int) :=
 (z69 N z_).bind fun x1 =>
 bif (!x1) then (some ((⟨(0:Int),([]:List Int)⟩:T6),(1:Int)))
 else (z70 N z_ d_.X).bind fun x2 =>
 bif (!x2) then (some ((⟨(0:Int),([]:List Int)⟩:T6),(2:Int)))
 else (z70 N z_ d_.Y).bind fun x3 =>
 bif (!x3) then (some ((⟨(0:Int),([]:List Int)⟩:T6),(2:Int)))
 else (appL ([]:List Int) z_.B).bind fun x4 =>
 (idx x4 (w64 ((w64 ((w64 ((w64 (d_.X+(1:Int))) * (w64 (z_.N+(1:Int)))))+d_.Y))+(1:Int)))).bind fun x5 =>
 (idx x4 (w64 ((w64 ((w64 ((w64 (d_.X+(1:Int))) * (w64 (z_.N+(1:Int)))))+d_.Y))+(1:Int)))).bind fun x6 =>
 some ((⟨z_.N,(setL' x4 (w64 ((w64 ((w64 ((w64 (d_.X+(1:Int))) * (w64 (z_.N+(1:Int)))))+d_.Y))+(1:Int))) (minI x5 (maxI d_.C (-20001:Int))))⟩:T6),(0:Int))
def z71_k1 (z_:T6) (vb5_5_1_12:(List Int)):Option (T6 × Bool) :=
 some ((⟨z_.N,vb5_5_1_12⟩:T6),true)
def z71_l2 (z_:T6) (vb5_5_1_12:(List Int)):Nat→Int→Option (T6 × Bool)
 | 0,_=>none
 | n52+1,v11_79 =>
 bif (decide (v11_79 < (w64 (z_.N+(1:Int))))) then ((idx vb5_5_1_12 (w64 ((w64 (v11_79 * (w64 (z_.N+(1:Int)))))+v11_79))).bind fun x1131 =>
 bif (decide (x1131 < (0:Int))) then (some ((⟨(0:Int),([]:List Int)⟩:T6),false))
 else (z71_l2 z_ vb5_5_1_12 n52) (w64 (v11_79+(1:Int))))
 else z71_k1 z_ vb5_5_1_12
def z71_k3 (N:Nat) (z_:T6) (vb5_5_1_12:(List Int)):Option (T6 × Bool) :=
 z71_l2 z_ vb5_5_1_12 N (0:Int)
def z71_k5 (v8_80:Int) (ag80:(List Int)→Int→Option (T6 × Bool)) (vb5_5_1_123:(List Int)):Option (T6 × Bool) :=
 ag80 vb5_5_1_123 (w64 (v8_80+(1:Int)))
def z71_k7 (v9_134:Int) (ag134:(List Int)→Int→Option (T6 × Bool)) (vb5_5_1_141:(List Int)):Option (T6 × Bool) :=
 ag134 vb5_5_1_141 (w64 (v9_134+(1:Int)))
def z71_l8 (z_:T6) (v8_80:Int) (v9_134:Int) (ag134:(List Int)→Int→Option (T6 × Bool)):Nat→(List Int)→Int→Option (T6 × Bool)
 | 0,_,_=>none
 | n95+1,vb5_5_1_143,v10_143 =>
 bif (decide (v10_143 < (w64 (z_.N+(1:Int))))) then ((idx vb5_5_1_143 (w64 ((w64 (v9_134 * (w64 (z_.N+(1:Int)))))+v10_143))).bind fun x2488 =>
 (idx vb5_5_1_143 (w64 ((w64 (v9_134 * (w64 (z_.N+(1:Int)))))+v8_80))).bind fun x2489 =>
 (idx vb5_5_1_143 (w64 ((w64 (v8_80 * (w64 (z_.N+(1:Int)))))+v10_143))).bind fun x2490 =>
 (idx vb5_5_1_143 (w64 ((w64 (v9_134 * (w64 (z_.N+(1:Int)))))+v10_143))).bind fun x2491 =>
 (z71_l8 z_ v8_80 v9_134 ag134 n95) (setL' vb5_5_1_143 (w64 ((w64 (v9_134 * (w64 (z_.N+(1:Int)))))+v10_143)) (minI x2488 (maxI (-20001:Int) (w64 (x2489+x2490))))) (w64 (v10_143+(1:Int))))
 else z71_k7 v9_134 ag134 vb5_5_1_143
def z71_l6 (N:Nat) (z_:T6) (v8_80:Int) (ag80:(List Int)→Int→Option (T6 × Bool)):Nat→(List Int)→Int→Option (T6 × Bool)
 | 0,_,_=>none
 | n93+1,vb5_5_1_134,v9_134 =>
 bif (decide (v9_134 < (w64 (z_.N+(1:Int))))) then (z71_l8 z_ v8_80 v9_134 (z71_l6 N z_ v8_80 ag80 n93) N vb5_5_1_134 (0:Int))
 else z71_k5 v8_80 ag80 vb5_5_1_134
def z71_l4 (N:Nat) (z_:T6):Nat→(List Int)→Int→Option (T6 × Bool)
 | 0,_,_=>none
 | n81+1,vb5_5_1_80,v8_80 =>
 bif (decide (v8_80 < (w64 (z_.N+(1:Int))))) then (z71_l6 N z_ v8_80 (z71_l4 N z_ n81) N vb5_5_1_80 (0:Int))
 else z71_k3 N z_ vb5_5_1_80
def z71_k9 (N:Nat) (z_:T6) (vb5_5_1_1:(List Int)):Option (T6 × Bool) :=
 z71_l4 N z_ N vb5_5_1_1 (0:Int)
def z71_k11 (v6_144:Int) (ag144:(List Int)→Int→Option (T6 × Bool)) (vb5_5_1_151:(List Int)):Option (T6 × Bool) :=
 ag144 vb5_5_1_151 (w64 (v6_144+(1:Int)))
def z71_l12 (N:Nat) (z_:T6) (v6_144:Int) (ag144:(List Int)→Int→Option (T6 × Bool)):Nat→(List Int)→Int→Option (T6 × Bool)
 | 0,_,_=>none
 | n102+1,vb5_5_1_153,v7_153 =>
 bif (decide (v7_153 < (w64 (z_.N+(1:Int))))) then ((idx vb5_5_1_153 (w64 ((w64 (v6_144 * (w64 (z_.N+(1:Int)))))+v7_153))).bind fun x2615 =>
 (z68 N v6_144 v7_153).bind fun x2616 =>
 (idx vb5_5_1_153 (w64 ((w64 (v6_144 * (w64 (z_.N+(1:Int)))))+v7_153))).bind fun x2617 =>
 (z71_l12 N z_ v6_144 ag144 n102) (setL' vb5_5_1_153 (w64 ((w64 (v6_144 * (w64 (z_.N+(1:Int)))))+v7_153)) (minI x2615 x2616)) (w64 (v7_153+(1:Int))))
 else z71_k11 v6_144 ag144 vb5_5_1_153
def z71_l10 (N:Nat) (z_:T6):Nat→(List Int)→Int→Option (T6 × Bool)
 | 0,_,_=>none
 | n100+1,vb5_5_1_144,v6_144 =>
 bif (decide (v6_144 < (w64 (z_.N+(1:Int))))) then (z71_l12 N z_ v6_144 (z71_l10 N z_ n100) N vb5_5_1_144 (0:Int))
 else z71_k9 N z_ vb5_5_1_144
def z71 (N:Nat) (z_:T6):Option (T6 × Bool) :=
 (z69 N z_).bind fun x1 =>
 bif (!x1) then (some ((⟨(0:Int),([]:List Int)⟩:T6),false))
 else (appL ([]:List Int) z_.B).bind fun x2 =>
 z71_l10 N z_ N x2 (0:Int)
def z33_k1 (v6_1:(List Int)):Option ((List Int) × Bool) :=
 some (v6_1,true)
def z33_l2 (N:Nat) (z_:T6):Nat→Int→(List Int)→(List Int)→Int→Option ((List Int) × Bool)
 | 0,_,_,_,_=>none
 | n2+1,vb4_3_0_3,vb4_3_1_3,v6_3,v7_3 =>
 bif (decide (v7_3 < z_.N)) then ((idx vb4_3_1_3 (w64 (v7_3+(1:Int)))).bind fun x34 =>
 (appL v6_3 ([(w64 (0-x34))]:List Int)).bind fun x35 =>
 (z30 N (⟨vb4_3_0_3,vb4_3_1_3⟩:T6) (⟨v7_3,(-1:Int),(w64 (0-x34))⟩:T1)).bind fun x36 =>
 (z71 N x36.1).bind fun x37 =>
 (z33_l2 N z_ n2) x37.1.N x37.1.B x35 (w64 (v7_3+(1:Int))))
 else z33_k1 v6_3
def z33 (N:Nat) (z_:T6):Option ((List Int) × Bool) :=
 (z71 N z_).bind fun x1 =>
 bif (!x1.2) then (some (([]:List Int),false))
 else z33_l2 N z_ N x1.1.N x1.1.B ([]:List Int) (0:Int)
def z34_k1 (v3_1:ByteArray):Option ByteArray :=
 some v3_1
def z34_l2 (n_:Int):Nat→ByteArray→Int→Option ByteArray
 | 0,_,_=>none
 | n2+1,v3_3,v4_3 =>
 bif (decide (v4_3 < n_)) then ((catS v3_3 (str [97])).bind fun x9 =>
 (z34_l2 n_ n2) x9 (w64 (v4_3+(1:Int))))
 else z34_k1 v3_3
def z34 (N:Nat) (n_:Int):Option ByteArray :=
 z34_l2 n_ N (str []) (0:Int)
def z36_k1 (v7_1:(List T5)):Option (List T5) :=
 some v7_1
def z36_l2 (d_:T0) (values_:(List T5)):Nat→(List T5)→Int→Option (List T5)
 | 0,_,_=>none
 | n2+1,v7_3,v8_3 =>
 bif (decide (v8_3 < (values_.length:Int))) then ((idx values_ v8_3).bind fun x18 =>
 (idx v7_3 (w64 (d_.First+v8_3))).bind fun x19 =>
 (z36_l2 d_ values_ n2) (setL' v7_3 (w64 (d_.First+v8_3)) x18) (w64 (v8_3+(1:Int))))
 else z36_k1 v7_3
def z36 (N:Nat) (d_:T0) (values_:(List T5)) (known_:(List T5)):Option (List T5) :=
 (appL ([]:List T5) known_).bind fun x1 =>
 z36_l2 d_ values_ N x1 (0:Int)
def z35_k1:Option Bool :=
 some true
def z35_l2 (g_:T3) (all_:(List T5)):Nat→Int→Option Bool
 | 0,_=>none
 | n3+1,v9_11 =>
 bif (decide (v9_11 < (g_.Equals.length:Int))) then ((idx g_.Equals v9_11).bind fun x81 =>
 (idx all_ x81.1).bind fun x82 =>
 (idx g_.Equals v9_11).bind fun x83 =>
 (idx all_ x83.2).bind fun x84 =>
 bif (x82.Kind==(0:Int)) then (some false)
 else bif (x84.Kind==(0:Int)) then (some false)
 else bif (!(x82.S.toList==x84.S.toList)) then (some false)
 else (z35_l2 g_ all_ n3) (w64 (v9_11+(1:Int))))
 else z35_k1
def z35_k3 (N:Nat) (g_:T3) (all_:(List T5)):Option Bool :=
 z35_l2 g_ all_ N (0:Int)
def z35_k5 (all_:(List T5)) (v5_12:Int) (ag12:Int→Option Bool) (x133:T1) (v7_17:Int) (v8_18:Int):Option Bool :=
 bif (decide (x133.X≥(0:Int))) then ((idx all_ x133.X).bind fun x138 =>
 bif (x138.Kind==(0:Int)) then (some false)
 else bif (decide (x133.Y≥(0:Int))) then ((idx all_ x133.Y).bind fun x139 =>
 bif (x139.Kind==(0:Int)) then (some false)
 else bif (decide ((w64 (v7_17-v8_18)) > x133.C)) then (some false)
 else ag12 (w64 (v5_12+(1:Int))))
 else bif (decide ((w64 (v7_17-v8_18)) > x133.C)) then (some false)
 else ag12 (w64 (v5_12+(1:Int))))
 else bif (decide (x133.Y≥(0:Int))) then ((idx all_ x133.Y).bind fun x140 =>
 bif (x140.Kind==(0:Int)) then (some false)
 else bif (decide ((w64 (v7_17-v8_18)) > x133.C)) then (some false)
 else ag12 (w64 (v5_12+(1:Int))))
 else bif (decide ((w64 (v7_17-v8_18)) > x133.C)) then (some false)
 else ag12 (w64 (v5_12+(1:Int)))
def z35_k6 (N:Nat) (all_:(List T5)) (v5_12:Int) (ag12:Int→Option Bool) (x133:T1) (v7_17:Int):Option Bool :=
 bif (decide (x133.Y≥(0:Int))) then ((idx all_ x133.Y).bind fun x141 =>
 (z31 N x141).bind fun x142 =>
 z35_k5 all_ v5_12 ag12 x133 v7_17 x142)
 else z35_k5 all_ v5_12 ag12 x133 v7_17 (0:Int)
def z35_l4 (N:Nat) (g_:T3) (all_:(List T5)):Nat→Int→Option Bool
 | 0,_=>none
 | n4+1,v5_12 =>
 bif (decide (v5_12 < (g_.Diffs.length:Int))) then ((idx g_.Diffs v5_12).bind fun x133 =>
 bif (decide (x133.X≥(0:Int))) then ((idx all_ x133.X).bind fun x143 =>
 (z31 N x143).bind fun x144 =>
 z35_k6 N all_ v5_12 (z35_l4 N g_ all_ n4) x133 x144)
 else z35_k6 N all_ v5_12 (z35_l4 N g_ all_ n4) x133 (0:Int))
 else z35_k3 N g_ all_
def z35 (N:Nat) (g_:T3) (all_:(List T5)):Option Bool :=
 z35_l4 N g_ all_ N (0:Int)
def z7_k1 (N:Nat) (known_:(List T5)) (x3:T0) (v23_13:(List T5)):Option ((List T5) × Bool) :=
 (z36 N x3 v23_13 known_).bind fun x140 =>
 (z35 N x3.Guard x140).bind fun x141 =>
 bif (!x141) then (some (([]:List T5),false))
 else some (v23_13,true)
def z7_l2 (N:Nat) (known_:(List T5)) (x3:T0) (x21:(List ByteArray) × (List Bool) × Bool) (x103:(List Int) × Bool):Nat→(List T5)→Int→Option ((List T5) × Bool)
 | 0,_,_=>none
 | n5+1,v23_15,v24_15 =>
 bif (decide (v24_15 < (x3.Fields.length:Int))) then ((idx x3.Fields v24_15).bind fun x178 =>
 bif (x178.Sort'.Kind==(1:Int)) then ((idx x103.1 (w64 (x3.First+v24_15))).bind fun x179 =>
 (appL v23_15 ([(⟨x178.Sort'.Kind,x179,(str [])⟩:T5)]:List T5)).bind fun x180 =>
 (z7_l2 N known_ x3 x21 x103 n5) x180 (w64 (v24_15+(1:Int))))
 else (idx x21.2.1 v24_15).bind fun x181 =>
 bif x181 then ((idx x21.1 v24_15).bind fun x182 =>
 (appL v23_15 ([(⟨x178.Sort'.Kind,(0:Int),x182⟩:T5)]:List T5)).bind fun x183 =>
 (z7_l2 N known_ x3 x21 x103 n5) x183 (w64 (v24_15+(1:Int))))
 else (idx x103.1 (w64 (x3.First+v24_15))).bind fun x184 =>
 (z34 N x184).bind fun x185 =>
 (appL v23_15 ([(⟨x178.Sort'.Kind,(0:Int),x185⟩:T5)]:List T5)).bind fun x186 =>
 (z7_l2 N known_ x3 x21 x103 n5) x186 (w64 (v24_15+(1:Int))))
 else z7_k1 N known_ x3 v23_15
def z7_k3 (N:Nat) (known_:(List T5)) (x3:T0) (x21:(List ByteArray) × (List Bool) × Bool) (vb15_11_0_5:Int) (vb15_11_1_5:(List Int)):Option ((List T5) × Bool) :=
 (z33 N (⟨vb15_11_0_5,vb15_11_1_5⟩:T6)).bind fun x103 =>
 bif (!x103.2) then (some (([]:List T5),false))
 else z7_l2 N known_ x3 x21 x103 N ([]:List T5) (0:Int)
def z7_k5 (N:Nat) (vb15_11_0_16:Int) (vb15_11_1_16:(List Int)) (v18_16:Int) (ag16:Int→(List Int)→Int→Option ((List T5) × Bool)) (v19_21:Int) (v20_21:Bool):Option ((List T5) × Bool) :=
 bif v20_21 then ((z30 N (⟨vb15_11_0_16,vb15_11_1_16⟩:T6) (⟨v18_16,(-1:Int),v19_21⟩:T1)).bind fun x266 =>
 (z30 N x266.1 (⟨(-1:Int),v18_16,(w64 (0-v19_21))⟩:T1)).bind fun x267 =>
 ag16 x267.1.N x267.1.B (w64 (v18_16+(1:Int))))
 else ag16 vb15_11_0_16 vb15_11_1_16 (w64 (v18_16+(1:Int)))
def z7_k6 (N:Nat) (vb15_11_0_16:Int) (vb15_11_1_16:(List Int)) (v18_16:Int) (ag16:Int→(List Int)→Int→Option ((List T5) × Bool)) (v19_22:Int) (v20_22:Bool):Option ((List T5) × Bool) :=
 bif v20_22 then ((z30 N (⟨vb15_11_0_16,vb15_11_1_16⟩:T6) (⟨v18_16,(-1:Int),v19_22⟩:T1)).bind fun x274 =>
 (z30 N x274.1 (⟨(-1:Int),v18_16,(w64 (0-v19_22))⟩:T1)).bind fun x275 =>
 ag16 x275.1.N x275.1.B (w64 (v18_16+(1:Int))))
 else ag16 vb15_11_0_16 vb15_11_1_16 (w64 (v18_16+(1:Int)))
def z7_l4 (N:Nat) (known_:(List T5)) (x3:T0) (x21:(List ByteArray) × (List Bool) × Bool):Nat→Int→(List Int)→Int→Option ((List T5) × Bool)
 | 0,_,_,_=>none
 | n6+1,vb15_11_0_16,vb15_11_1_16,v18_16 =>
 bif (decide (v18_16 < (known_.length:Int))) then ((idx known_ v18_16).bind fun x259 =>
 (z31 N x259).bind fun x260 =>
 (z32 N x3 v18_16).bind fun x261 =>
 bif (!x261) then ((idx known_ v18_16).bind fun x262 =>
 (z32 N x3 v18_16).bind fun x263 =>
 bif x263 then ((idx x21.2.1 (w64 (v18_16-x3.First))).bind fun x264 =>
 bif x264 then ((idx x21.1 (w64 (v18_16-x3.First))).bind fun x268 =>
 z7_k5 N vb15_11_0_16 vb15_11_1_16 v18_16 (z7_l4 N known_ x3 x21 n6) (x268.size:Int) true)
 else z7_k5 N vb15_11_0_16 vb15_11_1_16 v18_16 (z7_l4 N known_ x3 x21 n6) x260 (x262.Kind != (0:Int)))
 else bif (x262.Kind != (0:Int)) then ((z30 N (⟨vb15_11_0_16,vb15_11_1_16⟩:T6) (⟨v18_16,(-1:Int),x260⟩:T1)).bind fun x269 =>
 (z30 N x269.1 (⟨(-1:Int),v18_16,(w64 (0-x260))⟩:T1)).bind fun x270 =>
 (z7_l4 N known_ x3 x21 n6) x270.1.N x270.1.B (w64 (v18_16+(1:Int))))
 else (z7_l4 N known_ x3 x21 n6) vb15_11_0_16 vb15_11_1_16 (w64 (v18_16+(1:Int))))
 else (z32 N x3 v18_16).bind fun x271 =>
 bif x271 then ((idx x21.2.1 (w64 (v18_16-x3.First))).bind fun x272 =>
 bif x272 then ((idx x21.1 (w64 (v18_16-x3.First))).bind fun x276 =>
 z7_k6 N vb15_11_0_16 vb15_11_1_16 v18_16 (z7_l4 N known_ x3 x21 n6) (x276.size:Int) true)
 else z7_k6 N vb15_11_0_16 vb15_11_1_16 v18_16 (z7_l4 N known_ x3 x21 n6) x260 false)
 else (z7_l4 N known_ x3 x21 n6) vb15_11_0_16 vb15_11_1_16 (w64 (v18_16+(1:Int))))
 else z7_k3 N known_ x3 x21 vb15_11_0_16 vb15_11_1_16
def z7_k7 (N:Nat) (known_:(List T5)) (x3:T0) (x21:(List ByteArray) × (List Bool) × Bool) (vb15_11_0_3:Int) (vb15_11_1_3:(List Int)):Option ((List T5) × Bool) :=
 z7_l4 N known_ x3 x21 N vb15_11_0_3 vb15_11_1_3 (0:Int)
def z7_l8 (N:Nat) (known_:(List T5)) (x3:T0) (x4:(List T1) × Int) (x21:(List ByteArray) × (List Bool) × Bool):Nat→Int→(List Int)→Int→Option ((List T5) × Bool)
 | 0,_,_,_=>none
 | n7+1,vb15_11_0_23,vb15_11_1_23,v17_23 =>
 bif (decide (v17_23 < (x4.1.length:Int))) then ((idx x4.1 v17_23).bind fun x285 =>
 (z30 N (⟨vb15_11_0_23,vb15_11_1_23⟩:T6) x285).bind fun x286 =>
 (z7_l8 N known_ x3 x4 x21 n7) x286.1.N x286.1.B (w64 (v17_23+(1:Int))))
 else z7_k7 N known_ x3 x21 vb15_11_0_23 vb15_11_1_23
def z7_k9 (N:Nat) (known_:(List T5)) (x3:T0) (x4:(List T1) × Int):Option ((List T5) × Bool) :=
 (z28 N x3 known_).bind fun x21 =>
 bif (!x21.2.2) then (some (([]:List T5),false))
 else (z29 N (known_.length:Int)).bind fun x22 =>
 z7_l8 N known_ x3 x4 x21 N x22.1.N x22.1.B (0:Int)
def z7_l10 (N:Nat) (known_:(List T5)) (x3:T0) (x4:(List T1) × Int):Nat→Int→Option ((List T5) × Bool)
 | 0,_=>none
 | n8+1,v11_24 =>
 bif (decide (v11_24 < (x4.1.length:Int))) then ((idx x4.1 v11_24).bind fun x303 =>
 (z27 N x3 known_ x303.X).bind fun x304 =>
 bif x304 then (some (([]:List T5),false))
 else (idx x4.1 v11_24).bind fun x305 =>
 (z27 N x3 known_ x305.Y).bind fun x306 =>
 bif x306 then (some (([]:List T5),false))
 else (z7_l10 N known_ x3 x4 n8) (w64 (v11_24+(1:Int))))
 else z7_k9 N known_ x3 x4
def z7 (N:Nat) (decls_:(List T0)) (label_:Int) (known_:(List T5)):Option ((List T5) × Bool) :=
 (z24 N decls_ label_).bind fun x1 =>
 bif (!x1) then (some (([]:List T5),false))
 else (z25 N decls_ known_).bind fun x2 =>
 bif (!x2) then (some (([]:List T5),false))
 else (idx decls_ label_).bind fun x3 =>
 (z26 N decls_ label_).bind fun x4 =>
 z7_l10 N known_ x3 x4 N (0:Int)
def z8_k1:Option Bool :=
 some true
def z8_l2 (a_:(List T5)) (b_:(List T5)):Nat→Int→Option Bool
 | 0,_=>none
 | n2+1,v5_3 =>
 bif (decide (v5_3 < (a_.length:Int))) then ((idx a_ v5_3).bind fun x17 =>
 (idx b_ v5_3).bind fun x18 =>
 bif (!((x17.Kind==x18.Kind) && ((x17.N==x18.N) && ((x17.S.toList==x18.S.toList) && true)))) then (some false)
 else (z8_l2 a_ b_ n2) (w64 (v5_3+(1:Int))))
 else z8_k1
def z8 (N:Nat) (a_:(List T5)) (b_:(List T5)):Option Bool :=
 bif ((a_.length:Int) != (b_.length:Int)) then (some false)
 else z8_l2 a_ b_ N (0:Int)
def law14_GuardFill (N:Nat) (d_:(List T0)) (label_:Int) (known_:(List T5)):Option Bool :=
 (z4 N).bind fun x1 =>
 bif (!x1) then ((z4 N).bind fun x2 =>
 some x2)
 else (z5 N d_ ([]:List T5) known_).bind fun x3 =>
 bif (!x3) then ((z4 N).bind fun x4 =>
 some x4)
 else (z6 N d_ label_ known_).bind fun x5 =>
 (z7 N d_ label_ known_).bind fun x6 =>
 bif (x5.2==x6.2) then ((z8 N x5.1 x6.1).bind fun x7 =>
 some x7)
 else some false
end Gx
end
