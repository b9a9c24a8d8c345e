/- What each function of the statement computes, as plain definitions. -/
import Derived.Test.YtbaebccneokflaaGreatDoorGuardLeastCore4
set_option linter.all false
section
open Go Go.Kx
namespace Gx
structure T4 where
  Kind:Int
  Lo:Int
  Hi:Int
structure T2 where
  Name:ByteArray
  Sort':T4
structure T1 where
  X:Int
  Y:Int
  C:Int
structure T3 where
  Diffs:(List T1)
  Equals:(List (Int × Int))
structure T0 where
  Name:ByteArray
  Fields:(List T2)
  First:Int
  Guard:T3
structure T5 where
  Kind:Int
  N:Int
  S:ByteArray
structure T8 where
  N:Int
  B:(List Int)
structure T7 where
  N:Int
  B:(List Int)
structure T6 where
  Values:(List T5)
  Known:(List T5)
def z11 (N:Nat):Option Bool:=some true
def z32_k1 (l_:(List T0)) (v3_1:Int):Option Bool :=
 bif (decide ((l_.length:Int)≤(60:Int))) then (some (decide (v3_1≤(100:Int))))
 else some false
def z32_l2 (l_:(List T0)):Nat→Int→Int→Option Bool
 | 0,_,_=>none
 | n2+1,v3_3,v4_3 =>
 bif (decide (v4_3 < (l_.length:Int))) then ((idx l_ v4_3).bind fun x52 =>
 (idx l_ v4_3).bind fun x53 =>
 (idx l_ v4_3).bind fun x54 =>
 (z32_l2 l_ n2) (w64 (v3_3+(w64 ((w64 ((x52.Fields.length:Int)+(x53.Guard.Diffs.length:Int)))+(x54.Guard.Equals.length:Int))))) (w64 (v4_3+(1:Int))))
 else z32_k1 l_ v3_3
def z32 (N:Nat) (l_:(List T0)):Option Bool :=
 z32_l2 l_ N (0:Int) (0:Int)
def z12 (N:Nat) (d_:(List T0)) (values_:(List T5)) (known_:(List T5)):Option Bool :=
 (z32 N d_).bind fun x1 =>
 bif x1 then (bif (decide ((values_.length:Int)≤(30:Int))) then (some (decide ((known_.length:Int)≤(60:Int))))
 else some false)
 else some false
def z79_k1 (v3_1:(List T2)):Option (List T2) :=
 some v3_1
def z79_l2 (l_:(List T0)):Nat→(List T2)→Int→Option (List T2)
 | 0,_,_=>none
 | n2+1,v3_3,v8_3 =>
 bif (decide (v8_3 < (l_.length:Int))) then ((idx l_ v8_3).bind fun x17 =>
 (appL v3_3 x17.Fields).bind fun x18 =>
 (z79_l2 l_ n2) x18 (w64 (v8_3+(1:Int))))
 else z79_k1 v3_3
def z79 (N:Nat) (l_:(List T0)):Option (List T2) :=
 z79_l2 l_ N ([]:List T2) (0:Int)
def z276_k1 (v2_1:Int) (vi0_1:Nat):Option Int :=
 some v2_1
def z276_l2 (s_:ByteArray):Nat→Int→Nat→Option Int
 | 0,_,_=>none
 | n2+1,v2_3,vi0_3 =>
 bif decide (vi0_3 < s_.size) then ((z276_l2 s_ n2) (w64 (v2_3+(1:Int))) (vi0_3+(Utf8.decode s_ vi0_3).2))
 else z276_k1 v2_3 vi0_3
def z276 (N:Nat) (s_:ByteArray):Option Int :=
 z276_l2 s_ N (0:Int) (0:Nat)
def z283 (N:Nat) (s_:ByteArray):Option (Int × Int) :=
 bif (decide ((s_.size:Int) < (1:Int))) then (some ((65533:Int),(0:Int)))
 else (sidx s_ (0:Int)).bind fun x1 =>
 dead 0
def z277 (N:Nat) (s_:ByteArray):Option (Int × Int) :=
 bif (!(s_.toList==(str []).toList)) then ((sidx s_ (0:Int)).bind fun x1 =>
 bif (decide (x1 < (128:Int))) then ((sidx s_ (0:Int)).bind fun x2 =>
 some ((wk .i32 (x2)),(1:Int)))
 else (z283 N s_).bind fun x3 =>
 some (x3.1,x3.2))
 else (z283 N s_).bind fun x4 =>
 some (x4.1,x4.2)
def z261_k1 (v1_2:Int) (v0_3:ByteArray) (v6_3:(List ByteArray)):Option (List ByteArray) :=
 bif (decide (v1_2 > (0:Int))) then ((idx v6_3 (w64 (v1_2-(1:Int)))).bind fun x19 =>
 some (setL' v6_3 (w64 (v1_2-(1:Int))) v0_3))
 else some v6_3
def z261_l2 (N:Nat) (v1_2:Int):Nat→ByteArray→(List ByteArray)→Int→Option (List ByteArray)
 | 0,_,_,_=>none
 | n2+1,v0_5,v6_5,v7_5 =>
 bif (decide (v7_5 < (w64 (v1_2-(1:Int))))) then ((z277 N v0_5).bind fun x36 =>
 (ssl v0_5 none (some x36.2)).bind fun x37 =>
 (idx v6_5 v7_5).bind fun x38 =>
 (ssl v0_5 (some x36.2) none).bind fun x39 =>
 (z261_l2 N v1_2 n2) x39 (setL' v6_5 v7_5 x37) (w64 (v7_5+(1:Int))))
 else z261_k1 v1_2 v0_5 v6_5
def z261_k3 (N:Nat) (s_:ByteArray) (v1_2:Int):Option (List ByteArray) :=
 (mkL (str []) v1_2 v1_2).bind fun x2 =>
 z261_l2 N v1_2 N s_ x2 (0:Int)
def z261_k4 (N:Nat) (s_:ByteArray) (n_:Int) (x1:Int) (v18_1:Bool):Option (List ByteArray) :=
 bif v18_1 then (z261_k3 N s_ x1)
 else z261_k3 N s_ n_
def z261 (N:Nat) (s_:ByteArray) (n_:Int):Option (List ByteArray) :=
 (z276 N s_).bind fun x1 =>
 bif (decide (n_ < (0:Int))) then (z261_k4 N s_ n_ x1 true)
 else z261_k4 N s_ n_ x1 (decide (n_ > x1))
def z235 (N:Nat) (s_:ByteArray) (c_:Int):Option Int :=
 some (firstB s_ c_)
def z267 (N:Nat) (s_:ByteArray) (substr_:ByteArray):Option Int :=
 bif ((substr_.size:Int)==(0:Int)) then (some (0:Int))
 else bif (substr_.toList==s_.toList) then (some (0:Int))
 else bif ((substr_.size:Int)==(1:Int)) then ((sidx substr_ (0:Int)).bind fun x1 =>
 (z235 N s_ x1).bind fun x2 =>
 some x2)
 else bif (decide ((substr_.size:Int)≥(s_.size:Int))) then (some (-1:Int))
 else dead 0
def z236 (N:Nat) (s_:ByteArray) (substr_:ByteArray):Option Int :=
 (z267 N s_ substr_).bind fun x1 =>
 some x1
def z262_l1 (N:Nat) (substr_:ByteArray):Nat→ByteArray→Int→Option Int
 | 0,_,_=>none
 | n1+1,v0_1,v5_1 =>
 (z236 N v0_1 substr_).bind fun x11 =>
 bif (x11==(-1:Int)) then (some v5_1)
 else (ssl v0_1 (some (w64 (x11+(substr_.size:Int)))) none).bind fun x12 =>
 (z262_l1 N substr_ n1) x12 (w64 (v5_1+(1:Int)))
def z262 (N:Nat) (s_:ByteArray) (substr_:ByteArray):Option Int :=
 bif ((substr_.size:Int)==(0:Int)) then ((z276 N s_).bind fun x1 =>
 some (w64 (x1+(1:Int))))
 else bif ((substr_.size:Int)==(1:Int)) then ((sidx substr_ (0:Int)).bind fun x2 =>
 some (countB s_ x2))
 else z262_l1 N substr_ N s_ (0:Int)
def z233_k1 (v0_2:ByteArray) (v9_2:(List ByteArray)) (v10_2:Int):Option (List ByteArray) :=
 (idx v9_2 v10_2).bind fun x20 =>
 (lsl (setL' v9_2 v10_2 v0_2) none (some (w64 (v10_2+(1:Int))))).bind fun x21 =>
 some x21
def z233_l2 (N:Nat) (s_:ByteArray) (sep_:ByteArray) (sepSave_:Int) (v3_1:Int):Nat→ByteArray→(List ByteArray)→Int→Option (List ByteArray)
 | 0,_,_,_=>none
 | n2+1,v0_4,v9_4,v10_4 =>
 bif (decide (v10_4 < (w64 ((minI v3_1 (w64 ((s_.size:Int)+(1:Int))))-(1:Int))))) then ((z236 N v0_4 sep_).bind fun x38 =>
 bif (decide (x38 < (0:Int))) then (z233_k1 v0_4 v9_4 v10_4)
 else (ssl v0_4 none (some (w64 (x38+sepSave_)))).bind fun x39 =>
 (idx v9_4 v10_4).bind fun x40 =>
 (ssl v0_4 (some (w64 (x38+(sep_.size:Int)))) none).bind fun x41 =>
 (z233_l2 N s_ sep_ sepSave_ v3_1 n2) x41 (setL' v9_4 v10_4 x39) (w64 (v10_4+(1:Int))))
 else z233_k1 v0_4 v9_4 v10_4
def z233_k3 (N:Nat) (s_:ByteArray) (sep_:ByteArray) (sepSave_:Int) (v3_1:Int):Option (List ByteArray) :=
 (mkL (str []) (minI v3_1 (w64 ((s_.size:Int)+(1:Int)))) (minI v3_1 (w64 ((s_.size:Int)+(1:Int))))).bind fun x3 =>
 z233_l2 N s_ sep_ sepSave_ v3_1 N s_ x3 (0:Int)
def z233 (N:Nat) (s_:ByteArray) (sep_:ByteArray) (sepSave_:Int) (n_:Int):Option (List ByteArray) :=
 bif (n_==(0:Int)) then (some ([]:List ByteArray))
 else bif (sep_.toList==(str []).toList) then ((z261 N s_ n_).bind fun x1 =>
 some x1)
 else bif (decide (n_ < (0:Int))) then ((z262 N s_ sep_).bind fun x42 =>
 z233_k3 N s_ sep_ sepSave_ (w64 (x42+(1:Int))))
 else z233_k3 N s_ sep_ sepSave_ n_
def z190 (N:Nat) (s_:ByteArray) (sep_:ByteArray):Option (List ByteArray) :=
 (z233 N s_ sep_ (0:Int) (-1:Int)).bind fun x1 =>
 some x1
def z129 (N:Nat) (c_:Int):Option Bool :=
 bif (decide ((97:Int)≤c_)) then (bif (decide (c_≤(122:Int))) then (some true)
 else bif (decide ((65:Int)≤c_)) then (some (decide (c_≤(90:Int))))
 else some false)
 else bif (decide ((65:Int)≤c_)) then (some (decide (c_≤(90:Int))))
 else some false
def z131 (N:Nat) (c_:Int):Option Bool :=
 bif (decide ((48:Int)≤c_)) then (some (decide (c_≤(57:Int))))
 else some false
def z197 (N:Nat) (c_:Int):Option Bool :=
 (z129 N c_).bind fun x1 =>
 bif x1 then (some true)
 else (z131 N c_).bind fun x2 =>
 bif x2 then (some true)
 else some (c_==(95:Int))
def z192_k1:Option Bool :=
 some true
def z192_l2 (N:Nat) (s_:ByteArray):Nat→Int→Option Bool
 | 0,_=>none
 | n2+1,v19_3 =>
 bif (decide (v19_3 < (s_.size:Int))) then ((sidx s_ v19_3).bind fun x19 =>
 (z197 N x19).bind fun x20 =>
 bif (!x20) then (some false)
 else (z192_l2 N s_ n2) (w64 (v19_3+(1:Int))))
 else z192_k1
def z192 (N:Nat) (s_:ByteArray):Option Bool :=
 bif (s_.toList==(str []).toList) then (some false)
 else bif (decide ((s_.size:Int) > (16:Int))) then (some false)
 else (sidx s_ (0:Int)).bind fun x1 =>
 (z129 N x1).bind fun x2 =>
 bif (!x2) then (some false)
 else z192_l2 N s_ N (0:Int)
def z217_k1:Option Int :=
 some (-1:Int)
def z217_l2 (s_:(List ByteArray)) (v_:ByteArray):Nat→Int→Option Int
 | 0,_=>none
 | n2+1,v8_3 =>
 bif (decide (v8_3 < (s_.length:Int))) then ((idx s_ v8_3).bind fun x9 =>
 bif (v_.toList==x9.toList) then (some v8_3)
 else (z217_l2 s_ v_ n2) (w64 (v8_3+(1:Int))))
 else z217_k1
def z217 (N:Nat) (s_:(List ByteArray)) (v_:ByteArray):Option Int :=
 z217_l2 s_ v_ N (0:Int)
def z157 (N:Nat) (s_:(List ByteArray)) (v_:ByteArray):Option Bool :=
 (z217 N s_ v_).bind fun x1 =>
 some (decide (x1≥(0:Int)))
def z122 (N:Nat) (s_:ByteArray):Option Bool :=
 (z192 N s_).bind fun x1 =>
 bif x1 then ((z157 N ([(str [97,103,97,105,110]),(str [97,110,100]),(str [97,115]),(str [97,116]),(str [99,97,108,108]),(str [99,104,111,105,99,101]),(str [101,108,115,101]),(str [102,114,111,109]),(str [105,102]),(str [105,110,116]),(str [108,101,110]),(str [108,111,111,112]),(str [109,101,115,115,97,103,101]),(str [111,102]),(str [111,102,102,101,114]),(str [111,110]),(str [111,114]),(str [112,97,114]),(str [112,108,97,121,115]),(str [112,114,111,116,111,99,111,108]),(str [115,101,114,118,105,99,101]),(str [116,101,120,116]),(str [116,105,109,101,115]),(str [116,111]),(str [118,97,114]),(str [119,104,101,114,101]),(str [119,104,105,108,101]),(str [119,105,116,104,105,110])]:List ByteArray) s_).bind fun x2 =>
 some (!x2))
 else some false
def z191 (N:Nat) (w_:ByteArray):Option Bool :=
 (z122 N w_).bind fun x1 =>
 some (!x1)
def z225_0_k1:Option Int :=
 some (-1:Int)
def z225_0_l2 (N:Nat) (s_:(List ByteArray)):Nat→Int→Option Int
 | 0,_=>none
 | n2+1,v8_3 =>
 bif (decide (v8_3 < (s_.length:Int))) then ((idx s_ v8_3).bind fun x17 =>
 (z191 N x17).bind fun x18 =>
 bif x18 then (some v8_3)
 else (z225_0_l2 N s_ n2) (w64 (v8_3+(1:Int))))
 else z225_0_k1
def z225_0 (N:Nat) (s_:(List ByteArray)):Option Int :=
 z225_0_l2 N s_ N (0:Int)
def z189_1 (N:Nat) (s_:(List ByteArray)):Option Bool :=
 (z225_0 N s_).bind fun x1 =>
 some (decide (x1≥(0:Int)))
def z119 (N:Nat) (s_:ByteArray):Option Bool :=
 bif (decide ((s_.size:Int)≤(50:Int))) then ((z190 N s_ (str [46])).bind fun x1 =>
 (z189_1 N x1).bind fun x2 =>
 some (!x2))
 else some false
def z121_2 (N:Nat) (x_:T0) (c0_:T0):Option Bool :=
 some (x_.Name.toList==c0_.Name.toList)
def z66_3_k1:Option Int :=
 some (-1:Int)
def z66_3_l2 (N:Nat) (s_:(List T0)) (c0_:T0):Nat→Int→Option Int
 | 0,_=>none
 | n2+1,v8_3 =>
 bif (decide (v8_3 < (s_.length:Int))) then ((idx s_ v8_3).bind fun x17 =>
 (z121_2 N x17 c0_).bind fun x18 =>
 bif x18 then (some v8_3)
 else (z66_3_l2 N s_ c0_ n2) (w64 (v8_3+(1:Int))))
 else z66_3_k1
def z66_3 (N:Nat) (s_:(List T0)) (c0_:T0):Option Int :=
 z66_3_l2 N s_ c0_ N (0:Int)
def z120_4 (N:Nat) (s_:(List T0)) (c0_:T0):Option Bool :=
 (z66_3 N s_ c0_).bind fun x1 =>
 some (decide (x1≥(0:Int)))
def z123 (N:Nat) (s_:T4):Option Bool :=
 bif (s_.Kind==(1:Int)) then (bif (decide (s_.Lo≥(-1000:Int))) then (bif (decide (s_.Lo≤s_.Hi)) then (some (decide (s_.Hi≤(1000:Int))))
 else some false)
 else some false)
 else bif (s_.Kind==(2:Int)) then (bif (decide (s_.Lo≥(0:Int))) then (bif (decide (s_.Lo≤s_.Hi)) then (some (decide (s_.Hi≤(40:Int))))
 else some false)
 else some false)
 else some false
def z125_5 (N:Nat) (x_:T2) (c0_:T2):Option Bool :=
 some (x_.Name.toList==c0_.Name.toList)
def z68_6_k1:Option Int :=
 some (-1:Int)
def z68_6_l2 (N:Nat) (s_:(List T2)) (c0_:T2):Nat→Int→Option Int
 | 0,_=>none
 | n2+1,v8_3 =>
 bif (decide (v8_3 < (s_.length:Int))) then ((idx s_ v8_3).bind fun x17 =>
 (z125_5 N x17 c0_).bind fun x18 =>
 bif x18 then (some v8_3)
 else (z68_6_l2 N s_ c0_ n2) (w64 (v8_3+(1:Int))))
 else z68_6_k1
def z68_6 (N:Nat) (s_:(List T2)) (c0_:T2):Option Int :=
 z68_6_l2 N s_ c0_ N (0:Int)
def z124_7 (N:Nat) (s_:(List T2)) (c0_:T2):Option Bool :=
 (z68_6 N s_ c0_).bind fun x1 =>
 some (decide (x1≥(0:Int)))
def z126_k1:Option Bool :=
 some true
def z126_k3 (v58_14:Int) (ag14:Int→Option Bool):Option Bool :=
 ag14 (w64 (v58_14+(1:Int)))
def z126_l4 (all_:(List T2)) (v58_14:Int) (ag14:Int→Option Bool) (x127:(Int × Int)):Nat→Int→Option Bool
 | 0,_=>none
 | n15+1,v63_23 =>
 bif (decide (v63_23 < (2:Int))) then ((idx ([x127.1,x127.2]:List Int) v63_23).bind fun x142 =>
 bif (decide (x142 < (0:Int))) then (some false)
 else bif (decide (x142≥(all_.length:Int))) then (some false)
 else (idx all_ x142).bind fun x143 =>
 bif (x143.Sort'.Kind != (2:Int)) then (some false)
 else (z126_l4 all_ v58_14 ag14 x127 n15) (w64 (v63_23+(1:Int))))
 else z126_k3 v58_14 ag14
def z126_l2 (N:Nat) (g_:T3) (all_:(List T2)):Nat→Int→Option Bool
 | 0,_=>none
 | n13+1,v58_14 =>
 bif (decide (v58_14 < (g_.Equals.length:Int))) then ((idx g_.Equals v58_14).bind fun x127 =>
 z126_l4 all_ v58_14 (z126_l2 N g_ all_ n13) x127 N (0:Int))
 else z126_k1
def z126_k5 (N:Nat) (g_:T3) (all_:(List T2)):Option Bool :=
 z126_l2 N g_ all_ N (0:Int)
def z126_l6 (N:Nat) (g_:T3) (all_:(List T2)):Nat→Int→Option Bool
 | 0,_=>none
 | n16+1,v24_24 =>
 bif (decide (v24_24 < (g_.Diffs.length:Int))) then ((idx g_.Diffs v24_24).bind fun x148 =>
 bif (decide ((minI x148.X x148.Y) < (-1:Int))) then (some false)
 else bif (decide ((maxI x148.X x148.Y)≥(all_.length:Int))) then (some false)
 else bif (decide (x148.C < (-20000:Int))) then (some false)
 else bif (decide (x148.C > (20000:Int))) then (some false)
 else (z126_l6 N g_ all_ n16) (w64 (v24_24+(1:Int))))
 else z126_k5 N g_ all_
def z126 (N:Nat) (g_:T3) (all_:(List T2)):Option Bool :=
 bif (decide ((g_.Diffs.length:Int) > (20:Int))) then (some false)
 else bif (decide ((g_.Equals.length:Int) > (20:Int))) then (some false)
 else z126_l6 N g_ all_ N (0:Int)
def z74_k1:Option Bool :=
 some true
def z74_k3 (N:Nat) (x1:(List T2)) (v4_12:Int) (v19_12:Int) (ag12:Int→Int→Option Bool) (x367:T0):Option Bool :=
 (z126 N x367.Guard x1).bind fun x391 =>
 bif (!x391) then (some false)
 else ag12 (w64 (v4_12+(x367.Fields.length:Int))) (w64 (v19_12+(1:Int)))
def z74_l4 (N:Nat) (x1:(List T2)) (v4_12:Int) (v19_12:Int) (ag12:Int→Int→Option Bool) (x367:T0):Nat→Int→Option Bool
 | 0,_=>none
 | n14+1,v55_21 =>
 bif (decide (v55_21 < (x367.Fields.length:Int))) then ((idx x367.Fields v55_21).bind fun x412 =>
 (z122 N x412.Name).bind fun x413 =>
 bif (!x413) then (some false)
 else (z123 N x412.Sort').bind fun x414 =>
 bif (!x414) then (some false)
 else (lsl x367.Fields none (some v55_21)).bind fun x415 =>
 (z124_7 N x415 x412).bind fun x416 =>
 bif x416 then (some false)
 else (z74_l4 N x1 v4_12 v19_12 ag12 x367 n14) (w64 (v55_21+(1:Int))))
 else z74_k3 N x1 v4_12 v19_12 ag12 x367
def z74_l2 (N:Nat) (l_:(List T0)) (x1:(List T2)):Nat→Int→Int→Option Bool
 | 0,_,_=>none
 | n12+1,v4_12,v19_12 =>
 bif (decide (v19_12 < (l_.length:Int))) then ((idx l_ v19_12).bind fun x367 =>
 (z119 N x367.Name).bind fun x368 =>
 bif (!x368) then (some false)
 else bif (decide ((x367.Fields.length:Int) > (4:Int))) then (some false)
 else bif (x367.First != v4_12) then (some false)
 else (lsl l_ none (some v19_12)).bind fun x369 =>
 (z120_4 N x369 x367).bind fun x370 =>
 bif x370 then (some false)
 else z74_l4 N x1 v4_12 v19_12 (z74_l2 N l_ x1 n12) x367 N (0:Int))
 else z74_k1
def z74 (N:Nat) (l_:(List T0)):Option Bool :=
 bif (decide ((l_.length:Int) > (40:Int))) then (some false)
 else (z79 N l_).bind fun x1 =>
 bif (decide ((x1.length:Int) > (24:Int))) then (some false)
 else z74_l2 N l_ x1 N (0:Int) (0:Int)
def z36 (N:Nat) (v_:T5):Option Int :=
 bif (v_.Kind==(2:Int)) then (some (v_.S.size:Int))
 else some v_.N
def z145 (N:Nat) (r_:Int):Option Bool :=
 bif (decide (r_ < (32:Int))) then (some true)
 else some (decide (r_ > (126:Int)))
def z246_8_k1 (vi0_1:Nat):Option Int :=
 some (-1:Int)
def z246_8_l2 (N:Nat) (s_:ByteArray) (truth_:Bool):Nat→Nat→Option Int
 | 0,_=>none
 | n2+1,vi0_3 =>
 bif decide (vi0_3 < s_.size) then ((z145 N ((Utf8.decode s_ vi0_3).1:Int)).bind fun x10 =>
 bif (x10==truth_) then (some ((vi0_3:Nat):Int))
 else (z246_8_l2 N s_ truth_ n2) (vi0_3+(Utf8.decode s_ vi0_3).2))
 else z246_8_k1 vi0_3
def z246_8 (N:Nat) (s_:ByteArray) (truth_:Bool):Option Int :=
 z246_8_l2 N s_ truth_ N (0:Nat)
def z213_9 (N:Nat) (s_:ByteArray):Option Int :=
 (z246_8 N s_ true).bind fun x1 =>
 some x1
def z144_10 (N:Nat) (s_:ByteArray):Option Bool :=
 (z213_9 N s_).bind fun x1 =>
 some (decide (x1≥(0:Int)))
def z80 (N:Nat) (s_:T4) (v_:T5):Option Bool :=
 bif (v_.Kind != s_.Kind) then (some false)
 else (z36 N v_).bind fun x3 =>
 bif (decide (x3 < s_.Lo)) then (some false)
 else (z36 N v_).bind fun x4 =>
 bif (decide (x4 > s_.Hi)) then (some false)
 else bif (v_.Kind==(1:Int)) then (some (v_.S.toList==(str []).toList))
 else bif (v_.N==(0:Int)) then ((z144_10 N v_.S).bind fun x5 =>
 some (!x5))
 else some false
def z33_k1:Option Bool :=
 some true
def z33_l2 (N:Nat) (known_:(List T5)) (x2:(List T2)):Nat→Int→Option Bool
 | 0,_=>none
 | n2+1,v32_3 =>
 bif (decide (v32_3 < (known_.length:Int))) then ((idx known_ v32_3).bind fun x227 =>
 bif (!((x227.Kind==(0:Int)) && ((x227.N==(0:Int)) && ((x227.S.toList==(str []).toList) && true)))) then ((idx x2 v32_3).bind fun x236 =>
 (z80 N x236.Sort' x227).bind fun x241 =>
 bif (!x241) then (some false)
 else (z33_l2 N known_ x2 n2) (w64 (v32_3+(1:Int))))
 else (z33_l2 N known_ x2 n2) (w64 (v32_3+(1:Int))))
 else z33_k1
def z33 (N:Nat) (l_:(List T0)) (label_:Int) (known_:(List T5)):Option Bool :=
 bif (decide (label_ < (0:Int))) then (some false)
 else bif (decide (label_≥(l_.length:Int))) then (some false)
 else (z74 N l_).bind fun x1 =>
 bif (!x1) then (some false)
 else (z79 N l_).bind fun x2 =>
 bif ((x2.length:Int) != (known_.length:Int)) then (some false)
 else z33_l2 N known_ x2 N (0:Int)
def z146 (N:Nat) (i_:Int) (j_:Int):Option Int :=
 bif (i_==j_) then (some (0:Int))
 else bif (i_==(0:Int)) then (some (10000:Int))
 else bif (j_==(0:Int)) then (some (10000:Int))
 else some (20000:Int)
def z81_k1 (n_:Int) (vb3_2_1_1:(List Int)):Option T8 :=
 some (⟨n_,vb3_2_1_1⟩:T8)
def z81_k3 (v16_12:Int) (ag12:(List Int)→Int→Option T8) (vb3_2_1_19:(List Int)):Option T8 :=
 ag12 vb3_2_1_19 (w64 (v16_12+(1:Int)))
def z81_l4 (N:Nat) (n_:Int) (v16_12:Int) (ag12:(List Int)→Int→Option T8):Nat→(List Int)→Int→Option T8
 | 0,_,_=>none
 | n14+1,vb3_2_1_21,v21_21 =>
 bif (decide (v21_21 < (w64 (n_+(1:Int))))) then ((z146 N v16_12 v21_21).bind fun x1107 =>
 (idx vb3_2_1_21 (w64 ((w64 (v16_12 * (w64 (n_+(1:Int)))))+v21_21))).bind fun x1109 =>
 (z81_l4 N n_ v16_12 ag12 n14) (setL' vb3_2_1_21 (w64 ((w64 (v16_12 * (w64 (n_+(1:Int)))))+v21_21)) x1107) (w64 (v21_21+(1:Int))))
 else z81_k3 v16_12 ag12 vb3_2_1_21
def z81_l2 (N:Nat) (n_:Int):Nat→(List Int)→Int→Option T8
 | 0,_,_=>none
 | n12+1,vb3_2_1_12,v16_12 =>
 bif (decide (v16_12 < (w64 (n_+(1:Int))))) then (z81_l4 N n_ v16_12 (z81_l2 N n_ n12) N vb3_2_1_12 (0:Int))
 else z81_k1 n_ vb3_2_1_12
def z81 (N:Nat) (n_:Int):Option T8 :=
 (mkL (0:Int) (w64 ((w64 (n_+(1:Int))) * (w64 (n_+(1:Int))))) (w64 ((w64 (n_+(1:Int))) * (w64 (n_+(1:Int)))))).bind fun x1 =>
 z81_l2 N n_ N x1 (0:Int)
def z34 (N:Nat) (n_:Int):Option (T8 × Int) :=
 bif (decide (n_ < (0:Int))) then (some ((⟨(0:Int),([]:List Int)⟩:T8),(2:Int)))
 else bif (decide (n_ > (24:Int))) then (some ((⟨(0:Int),([]:List Int)⟩:T8),(2:Int)))
 else (z81 N n_).bind fun x1 =>
 some (x1,(0:Int))
def z35_k1 (v3_3:(List T1)):Option (List T1) :=
 some v3_3
def z35_l2 (d_:T0):Nat→(List T1)→Int→Option (List T1)
 | 0,_,_=>none
 | n3+1,v3_5,v46_5 =>
 bif (decide (v46_5 < (d_.Guard.Equals.length:Int))) then ((idx d_.Guard.Equals v46_5).bind fun x26 =>
 (appL v3_5 ([(⟨x26.1,x26.2,(0:Int)⟩:T1),(⟨x26.2,x26.1,(0:Int)⟩:T1)]:List T1)).bind fun x27 =>
 (z35_l2 d_ n3) x27 (w64 (v46_5+(1:Int))))
 else z35_k1 v3_5
def z35_k3 (N:Nat) (d_:T0) (v3_1:(List T1)):Option (List T1) :=
 (appL v3_1 d_.Guard.Diffs).bind fun x9 =>
 z35_l2 d_ N x9 (0:Int)
def z35_l4 (N:Nat) (d_:T0):Nat→(List T1)→Int→Option (List T1)
 | 0,_,_=>none
 | n4+1,v3_6,v11_6 =>
 bif (decide (v11_6 < (d_.Fields.length:Int))) then ((idx d_.Fields v11_6).bind fun x36 =>
 (appL v3_6 ([(⟨(w64 (d_.First+v11_6)),(-1:Int),x36.Sort'.Hi⟩:T1),(⟨(-1:Int),(w64 (d_.First+v11_6)),(w64 (0-x36.Sort'.Lo))⟩:T1)]:List T1)).bind fun x37 =>
 (z35_l4 N d_ n4) x37 (w64 (v11_6+(1:Int))))
 else z35_k3 N d_ v3_6
def z35 (N:Nat) (d_:T0):Option (List T1) :=
 z35_l4 N d_ N ([]:List T1) (0:Int)
def z147_k1 (v3_2:Int):Option Int :=
 some v3_2
def z147_l2 (x_:(List Int)):Nat→Int→Int→Option Int
 | 0,_,_=>none
 | n2+1,v3_4,v4_4 =>
 bif (decide (v4_4 < (x_.length:Int))) then ((idx x_ v4_4).bind fun x10 =>
 (z147_l2 x_ n2) (minI v3_4 x10) (w64 (v4_4+(1:Int))))
 else z147_k1 v3_4
def z147 (N:Nat) (x_:(List Int)):Option Int :=
 bif (decide ((x_.length:Int) < (1:Int))) then (dead 0)
 else (idx x_ (0:Int)).bind fun x1 =>
 z147_l2 x_ N x1 (1:Int)
def z148_k1 (v3_2:Int):Option Int :=
 some v3_2
def z148_l2 (x_:(List Int)):Nat→Int→Int→Option Int
 | 0,_,_=>none
 | n2+1,v3_4,v4_4 =>
 bif (decide (v4_4 < (x_.length:Int))) then ((idx x_ v4_4).bind fun x10 =>
 (z148_l2 x_ n2) (maxI v3_4 x10) (w64 (v4_4+(1:Int))))
 else z148_k1 v3_4
def z148 (N:Nat) (x_:(List Int)):Option Int :=
 bif (decide ((x_.length:Int) < (1:Int))) then (dead 0)
 else (idx x_ (0:Int)).bind fun x1 =>
 z148_l2 x_ N x1 (1:Int)
def z82 (N:Nat) (z_:T8):Option Bool :=
 bif (decide (z_.N≥(0:Int))) then (bif (decide (z_.N≤(24:Int))) then (bif ((z_.B.length:Int)==(w64 ((w64 (z_.N+(1:Int))) * (w64 (z_.N+(1:Int)))))) then ((z147 N z_.B).bind fun x1 =>
 bif (decide (x1≥(-20001:Int))) then ((z148 N z_.B).bind fun x2 =>
 some (decide (x2≤(20000:Int))))
 else some false)
 else some false)
 else some false)
 else some false
def z83 (N:Nat) (z_:T8) (x_:Int):Option Bool :=
 bif (decide (x_≥(-1:Int))) then (some (decide (x_ < z_.N)))
 else some false
def z84 (N:Nat) (s_:(List Int)):Option (List Int) :=
 (appL ([]:List Int) s_).bind fun x1 =>
 some x1
def z37 (N:Nat) (z_:T8) (d_:T1):Option (T8 × Int) :=
 (z82 N z_).bind fun x1 =>
 bif (!x1) then (some ((⟨(0:Int),([]:List Int)⟩:T8),(1:Int)))
 else (z83 N z_ d_.X).bind fun x2 =>
 bif (!x2) then (some ((⟨(0:Int),([]:List Int)⟩:T8),(2:Int)))
 else (z83 N z_ d_.Y).bind fun x3 =>
 bif (!x3) then (some ((⟨(0:Int),([]:List Int)⟩:T8),(2:Int)))
 else (z84 N z_.B).bind fun x8 =>
 (idx x8 (w64 ((w64 ((w64 ((w64 (d_.X+(1:Int))) * (w64 (z_.N+(1:Int)))))+d_.Y))+(1:Int)))).bind fun x19 =>
 (idx x8 (w64 ((w64 ((w64 ((w64 (d_.X+(1:Int))) * (w64 (z_.N+(1:Int)))))+d_.Y))+(1:Int)))).bind fun x26 =>
 some ((⟨z_.N,(setL' x8 (w64 ((w64 ((w64 ((w64 (d_.X+(1:Int))) * (w64 (z_.N+(1:Int)))))+d_.Y))+(1:Int))) (minI x19 (maxI d_.C (-20001:Int))))⟩:T8),(0:Int))
def z85_k1 (z_:T8) (vb5_4_1_12:(List Int)):Option (T8 × Bool) :=
 some ((⟨z_.N,vb5_4_1_12⟩:T8),true)
def z85_k3 (v57_86:Int) (ag86:(List Int)→Int→Option (T8 × Bool)) (vb5_4_1_135:(List Int)):Option (T8 × Bool) :=
 ag86 vb5_4_1_135 (w64 (v57_86+(1:Int)))
def z85_l4 (z_:T8) (v57_86:Int) (ag86:(List Int)→Int→Option (T8 × Bool)) (vb5_4_1_135:(List Int)):Nat→Int→Option (T8 × Bool)
 | 0,_=>none
 | n98+1,v108_148 =>
 bif (decide (v108_148 < (w64 (z_.N+(1:Int))))) then ((idx vb5_4_1_135 (w64 ((w64 (v108_148 * (w64 (z_.N+(1:Int)))))+v108_148))).bind fun x24152 =>
 bif (decide (x24152 < (0:Int))) then (some ((⟨(0:Int),([]:List Int)⟩:T8),false))
 else (z85_l4 z_ v57_86 ag86 vb5_4_1_135 n98) (w64 (v108_148+(1:Int))))
 else z85_k3 v57_86 ag86 vb5_4_1_135
def z85_k5 (N:Nat) (z_:T8) (v57_86:Int) (ag86:(List Int)→Int→Option (T8 × Bool)) (vb5_4_1_135:(List Int)):Option (T8 × Bool) :=
 z85_l4 z_ v57_86 ag86 vb5_4_1_135 N (0:Int)
def z85_k7 (v61_149:Int) (ag149:(List Int)→Int→Option (T8 × Bool)) (vb5_4_1_156:(List Int)):Option (T8 × Bool) :=
 ag149 vb5_4_1_156 (w64 (v61_149+(1:Int)))
def z85_l8 (z_:T8) (v57_86:Int) (v61_149:Int) (ag149:(List Int)→Int→Option (T8 × Bool)):Nat→(List Int)→Int→Option (T8 × Bool)
 | 0,_,_=>none
 | n105+1,vb5_4_1_158,v65_158 =>
 bif (decide (v65_158 < (w64 (z_.N+(1:Int))))) then ((idx vb5_4_1_158 (w64 ((w64 (v61_149 * (w64 (z_.N+(1:Int)))))+v65_158))).bind fun x25889 =>
 (idx vb5_4_1_158 (w64 ((w64 (v61_149 * (w64 (z_.N+(1:Int)))))+v57_86))).bind fun x25899 =>
 (idx vb5_4_1_158 (w64 ((w64 (v57_86 * (w64 (z_.N+(1:Int)))))+v65_158))).bind fun x25909 =>
 (idx vb5_4_1_158 (w64 ((w64 (v61_149 * (w64 (z_.N+(1:Int)))))+v65_158))).bind fun x25914 =>
 (z85_l8 z_ v57_86 v61_149 ag149 n105) (setL' vb5_4_1_158 (w64 ((w64 (v61_149 * (w64 (z_.N+(1:Int)))))+v65_158)) (minI x25889 (w64 (x25899+x25909)))) (w64 (v65_158+(1:Int))))
 else z85_k7 v61_149 ag149 vb5_4_1_158
def z85_l6 (N:Nat) (z_:T8) (v57_86:Int) (ag86:(List Int)→Int→Option (T8 × Bool)):Nat→(List Int)→Int→Option (T8 × Bool)
 | 0,_,_=>none
 | n103+1,vb5_4_1_149,v61_149 =>
 bif (decide (v61_149 < (w64 (z_.N+(1:Int))))) then (z85_l8 z_ v57_86 v61_149 (z85_l6 N z_ v57_86 ag86 n103) N vb5_4_1_149 (0:Int))
 else z85_k5 N z_ v57_86 ag86 vb5_4_1_149
def z85_l2 (N:Nat) (z_:T8):Nat→(List Int)→Int→Option (T8 × Bool)
 | 0,_,_=>none
 | n89+1,vb5_4_1_86,v57_86 =>
 bif (decide (v57_86 < (w64 (z_.N+(1:Int))))) then (z85_l6 N z_ v57_86 (z85_l2 N z_ n89) N vb5_4_1_86 (0:Int))
 else z85_k1 z_ vb5_4_1_86
def z85_k9 (N:Nat) (z_:T8) (vb5_4_1_1:(List Int)):Option (T8 × Bool) :=
 z85_l2 N z_ N vb5_4_1_1 (0:Int)
def z85_k11 (v26_159:Int) (ag159:(List Int)→Int→Option (T8 × Bool)) (vb5_4_1_166:(List Int)):Option (T8 × Bool) :=
 ag159 vb5_4_1_166 (w64 (v26_159+(1:Int)))
def z85_l12 (N:Nat) (z_:T8) (v26_159:Int) (ag159:(List Int)→Int→Option (T8 × Bool)):Nat→(List Int)→Int→Option (T8 × Bool)
 | 0,_,_=>none
 | n112+1,vb5_4_1_168,v30_168 =>
 bif (decide (v30_168 < (w64 (z_.N+(1:Int))))) then ((idx vb5_4_1_168 (w64 ((w64 (v26_159 * (w64 (z_.N+(1:Int)))))+v30_168))).bind fun x26956 =>
 (z146 N v26_159 v30_168).bind fun x26961 =>
 (idx vb5_4_1_168 (w64 ((w64 (v26_159 * (w64 (z_.N+(1:Int)))))+v30_168))).bind fun x26964 =>
 (z85_l12 N z_ v26_159 ag159 n112) (setL' vb5_4_1_168 (w64 ((w64 (v26_159 * (w64 (z_.N+(1:Int)))))+v30_168)) (minI x26956 x26961)) (w64 (v30_168+(1:Int))))
 else z85_k11 v26_159 ag159 vb5_4_1_168
def z85_l10 (N:Nat) (z_:T8):Nat→(List Int)→Int→Option (T8 × Bool)
 | 0,_,_=>none
 | n110+1,vb5_4_1_159,v26_159 =>
 bif (decide (v26_159 < (w64 (z_.N+(1:Int))))) then (z85_l12 N z_ v26_159 (z85_l10 N z_ n110) N vb5_4_1_159 (0:Int))
 else z85_k9 N z_ vb5_4_1_159
def z85 (N:Nat) (z_:T8):Option (T8 × Bool) :=
 (z82 N z_).bind fun x1 =>
 bif (!x1) then (some ((⟨(0:Int),([]:List Int)⟩:T8),false))
 else (z84 N z_.B).bind fun x6 =>
 z85_l10 N z_ N x6 (0:Int)
def z86 (N:Nat) (z_:T8) (i_:Int) (j_:Int):Option Int :=
 (idx z_.B (w64 ((w64 (i_ * (w64 (z_.N+(1:Int)))))+j_))).bind fun x1 =>
 some x1
def z38_k1 (v6_1:(List Int)):Option ((List Int) × Bool) :=
 some (v6_1,true)
def z38_k3 (v6_12:(List Int)) (v21_12:Int) (ag12:(List Int)→Int→Option ((List Int) × Bool)) (v8_19:Int):Option ((List Int) × Bool) :=
 (appL v6_12 ([v8_19]:List Int)).bind fun x157 =>
 ag12 x157 (w64 (v21_12+(1:Int)))
def z38_l4 (N:Nat) (x1:T8 × Bool) (v6_12:(List Int)) (v21_12:Int) (ag12:(List Int)→Int→Option ((List Int) × Bool)):Nat→Int→Int→Option ((List Int) × Bool)
 | 0,_,_=>none
 | n14+1,v8_21,v31_21 =>
 bif (decide (v31_21 < (v6_12.length:Int))) then ((idx v6_12 v31_21).bind fun x166 =>
 (z86 N x1.1 (w64 (v31_21+(1:Int))) (w64 (v21_12+(1:Int)))).bind fun x167 =>
 (z38_l4 N x1 v6_12 v21_12 ag12 n14) (maxI v8_21 (w64 (x166-x167))) (w64 (v31_21+(1:Int))))
 else z38_k3 v6_12 v21_12 ag12 v8_21
def z38_l2 (N:Nat) (z_:T8) (x1:T8 × Bool):Nat→(List Int)→Int→Option ((List Int) × Bool)
 | 0,_,_=>none
 | n12+1,v6_12,v21_12 =>
 bif (decide (v21_12 < z_.N)) then ((z86 N x1.1 (0:Int) (w64 (v21_12+(1:Int)))).bind fun x148 =>
 z38_l4 N x1 v6_12 v21_12 (z38_l2 N z_ x1 n12) N (w64 (0-x148)) (0:Int))
 else z38_k1 v6_12
def z38 (N:Nat) (z_:T8):Option ((List Int) × Bool) :=
 (z85 N z_).bind fun x1 =>
 bif (!x1.2) then (some (([]:List Int),false))
 else z38_l2 N z_ x1 N ([]:List Int) (0:Int)
def repL (l:List UInt8):Nat→List UInt8
 | 0=>[]
 | n+1=>l++repL l n
def z39 (N:Nat) (s_:ByteArray) (count_:Int):Option ByteArray :=
 bif (decide (0≤count_) && decide (count_≤140737488355328)) && decide (s_.size * count_.toNat≤140737488355328) then some ⟨(repL s_.data.toList count_.toNat).toArray⟩ else none
def z93 (N:Nat) (s_:(List T5)):Option (List T5) :=
 (appL ([]:List T5) s_).bind fun x1 =>
 some x1
def z40 (N:Nat) (d_:T0) (values_:(List T5)) (known_:(List T5)):Option (List T5) :=
 (z93 N known_).bind fun x1 =>
 (lsl x1 (some d_.First) none).bind fun x2 =>
 (cpL x1 (some d_.First) none values_).bind fun x3 =>
 some x3.1
def z41_k1 (vk3_3:(List T5)):Option (List T5) :=
 some vk3_3
def z41_k3 (ag176:(List T5)→(List Bool)→Bool→Option (List T5)) (vk3_291:(List T5)) (v4_291:(List Bool)) (v6_291:Bool):Option (List T5) :=
 ag176 vk3_291 v4_291 v6_291
def z41_k5 (v51_320:Int) (ag320:(List T5)→(List Bool)→Bool→Int→Option (List T5)) (vk3_339:(List T5)) (v4_339:(List Bool)) (v6_339:Bool):Option (List T5) :=
 ag320 vk3_339 v4_339 v6_339 (w64 (v51_320+(1:Int)))
def z41_k7 (vk3_344:(List T5)) (v4_344:(List Bool)) (v6_344:Bool) (v56_344:Int) (ag344:(List T5)→(List Bool)→Bool→Int→Option (List T5)) (x3518:Int) (v11_347:Int):Option (List T5) :=
 (idx v4_344 v11_347).bind fun x3519 =>
 bif x3519 then ((idx v4_344 x3518).bind fun x3520 =>
 bif (!x3520) then ((idx vk3_344 v11_347).bind fun x3521 =>
 (idx vk3_344 x3518).bind fun x3522 =>
 (idx v4_344 x3518).bind fun x3523 =>
 ag344 (setL' vk3_344 x3518 (⟨x3522.Kind,x3522.N,x3521.S⟩:T5)) (setL' v4_344 x3518 true) true (w64 (v56_344+(1:Int))))
 else ag344 vk3_344 v4_344 v6_344 (w64 (v56_344+(1:Int))))
 else ag344 vk3_344 v4_344 v6_344 (w64 (v56_344+(1:Int)))
def z41_l6 (v51_320:Int) (ag320:(List T5)→(List Bool)→Bool→Int→Option (List T5)) (x3471:(Int × Int)):Nat→(List T5)→(List Bool)→Bool→Int→Option (List T5)
 | 0,_,_,_,_=>none
 | n87+1,vk3_344,v4_344,v6_344,v56_344 =>
 bif (decide (v56_344 < (2:Int))) then ((idx ([x3471.1,x3471.2]:List Int) v56_344).bind fun x3518 =>
 bif ((w64 ((1:Int)-v56_344))==(0:Int)) then (z41_k7 vk3_344 v4_344 v6_344 v56_344 (z41_l6 v51_320 ag320 x3471 n87) x3518 x3471.1)
 else bif ((w64 ((1:Int)-v56_344))==(1:Int)) then (z41_k7 vk3_344 v4_344 v6_344 v56_344 (z41_l6 v51_320 ag320 x3471 n87) x3518 x3471.2)
 else none)
 else z41_k5 v51_320 ag320 vk3_344 v4_344 v6_344
def z41_l4 (N:Nat) (d_:T0) (ag176:(List T5)→(List Bool)→Bool→Option (List T5)):Nat→(List T5)→(List Bool)→Bool→Int→Option (List T5)
 | 0,_,_,_,_=>none
 | n85+1,vk3_320,v4_320,v6_320,v51_320 =>
 bif (decide (v51_320 < (d_.Guard.Equals.length:Int))) then ((idx d_.Guard.Equals v51_320).bind fun x3471 =>
 z41_l6 v51_320 (z41_l4 N d_ ag176 n85) x3471 N vk3_320 v4_320 v6_320 (0:Int))
 else z41_k3 ag176 vk3_320 v4_320 v6_320
def z41_l2 (N:Nat) (d_:T0):Nat→(List T5)→(List Bool)→Bool→Option (List T5)
 | 0,_,_,_=>none
 | n73+1,vk3_176,v4_176,v6_176 =>
 bif v6_176 then (z41_l4 N d_ (z41_l2 N d_ n73) N vk3_176 v4_176 false (0:Int))
 else z41_k1 vk3_176
def z41_k8 (N:Nat) (d_:T0) (l_:(List T5)) (v4_1:(List Bool)):Option (List T5) :=
 z41_l2 N d_ N l_ v4_1 true
def z41_l9 (N:Nat) (d_:T0) (l_:(List T5)):Nat→(List Bool)→Int→Option (List T5)
 | 0,_,_=>none
 | n88+1,v4_348,v17_348 =>
 bif (decide (v17_348 < (l_.length:Int))) then (bif (decide (v17_348 < d_.First)) then ((idx l_ v17_348).bind fun x3544 =>
 (idx v4_348 v17_348).bind fun x3545 =>
 (z41_l9 N d_ l_ n88) (setL' v4_348 v17_348 (x3544.Kind != (0:Int))) (w64 (v17_348+(1:Int))))
 else bif (decide (v17_348≥(w64 (d_.First+(d_.Fields.length:Int))))) then ((idx l_ v17_348).bind fun x3546 =>
 (idx v4_348 v17_348).bind fun x3547 =>
 (z41_l9 N d_ l_ n88) (setL' v4_348 v17_348 (x3546.Kind != (0:Int))) (w64 (v17_348+(1:Int))))
 else (idx v4_348 v17_348).bind fun x3548 =>
 (z41_l9 N d_ l_ n88) (setL' v4_348 v17_348 false) (w64 (v17_348+(1:Int))))
 else z41_k8 N d_ l_ v4_348
def z41 (N:Nat) (d_:T0) (l_:(List T5)):Option (List T5) :=
 (mkL false (l_.length:Int) (l_.length:Int)).bind fun x1 =>
 z41_l9 N d_ l_ N x1 (0:Int)
def z42_k1:Option Bool :=
 some true
def z42_l2 (g_:T3) (l_:(List T5)):Nat→Int→Option Bool
 | 0,_=>none
 | n9+1,v57_14 =>
 bif (decide (v57_14 < (g_.Equals.length:Int))) then ((idx g_.Equals v57_14).bind fun x773 =>
 (idx l_ x773.1).bind fun x777 =>
 bif (x777.Kind==(0:Int)) then (some false)
 else (idx l_ x773.2).bind fun x811 =>
 bif (x811.Kind==(0:Int)) then (some false)
 else (idx l_ x773.1).bind fun x837 =>
 (idx l_ x773.2).bind fun x844 =>
 bif (!(x837.S.toList==x844.S.toList)) then (some false)
 else (z42_l2 g_ l_ n9) (w64 (v57_14+(1:Int))))
 else z42_k1
def z42_k3 (N:Nat) (g_:T3) (l_:(List T5)):Option Bool :=
 z42_l2 g_ l_ N (0:Int)
def z42_k5 (v15_15:Int) (ag15:Int→Option Bool) (x1010:T1) (vb7_6_0_22:Int) (vb7_6_1_22:Int):Option Bool :=
 bif (decide ((w64 (vb7_6_0_22-vb7_6_1_22)) > x1010.C)) then (some false)
 else ag15 (w64 (v15_15+(1:Int)))
def z42_l6 (N:Nat) (l_:(List T5)) (v15_15:Int) (ag15:Int→Option Bool) (x1010:T1):Nat→Int→Int→Int→Option Bool
 | 0,_,_,_=>none
 | n16+1,vb7_6_0_24,vb7_6_1_24,v25_24 =>
 bif (decide (v25_24 < (2:Int))) then ((idx ([x1010.X,x1010.Y]:List Int) v25_24).bind fun x1049 =>
 bif (decide (x1049 < (0:Int))) then ((z42_l6 N l_ v15_15 ag15 x1010 n16) vb7_6_0_24 vb7_6_1_24 (w64 (v25_24+(1:Int))))
 else (idx l_ x1049).bind fun x1050 =>
 bif (x1050.Kind==(0:Int)) then (some false)
 else (idx l_ x1049).bind fun x1051 =>
 (z36 N x1051).bind fun x1052 =>
 bif (v25_24==(0:Int)) then ((z42_l6 N l_ v15_15 ag15 x1010 n16) x1052 vb7_6_1_24 (w64 (v25_24+(1:Int))))
 else bif (v25_24==(1:Int)) then ((z42_l6 N l_ v15_15 ag15 x1010 n16) vb7_6_0_24 x1052 (w64 (v25_24+(1:Int))))
 else none)
 else z42_k5 v15_15 ag15 x1010 vb7_6_0_24 vb7_6_1_24
def z42_l4 (N:Nat) (g_:T3) (l_:(List T5)):Nat→Int→Option Bool
 | 0,_=>none
 | n14+1,v15_15 =>
 bif (decide (v15_15 < (g_.Diffs.length:Int))) then ((idx g_.Diffs v15_15).bind fun x1010 =>
 z42_l6 N l_ v15_15 (z42_l4 N g_ l_ n14) x1010 N (0:Int) (0:Int) (0:Int))
 else z42_k3 N g_ l_
def z42 (N:Nat) (g_:T3) (l_:(List T5)):Option Bool :=
 z42_l4 N g_ l_ N (0:Int)
def z43_k1:Option Bool :=
 some true
def z43_l2 (N:Nat) (l_:(List T2)) (values_:(List T5)):Nat→Int→Option Bool
 | 0,_=>none
 | n2+1,v14_3 =>
 bif (decide (v14_3 < (l_.length:Int))) then ((idx l_ v14_3).bind fun x41 =>
 (idx values_ v14_3).bind fun x44 =>
 (z80 N x41.Sort' x44).bind fun x45 =>
 bif (!x45) then (some false)
 else (z43_l2 N l_ values_ n2) (w64 (v14_3+(1:Int))))
 else z43_k1
def z43 (N:Nat) (l_:(List T2)) (values_:(List T5)):Option Bool :=
 bif ((l_.length:Int) != (values_.length:Int)) then (some false)
 else z43_l2 N l_ values_ N (0:Int)
def z13_k1 (N:Nat) (known_:(List T5)) (x2:T0) (v20_36:(List T5)):Option ((List T5) × Bool) :=
 (z40 N x2 v20_36 known_).bind fun x319 =>
 (z41 N x2 x319).bind fun x320 =>
 (lsl x320 (some x2.First) (some (w64 (x2.First+(x2.Fields.length:Int))))).bind fun x321 =>
 (cpL v20_36 none none x321).bind fun x322 =>
 (z42 N x2.Guard x320).bind fun x323 =>
 bif (!x323) then (some (([]:List T5),false))
 else (z43 N x2.Fields x322.1).bind fun x324 =>
 bif (!x324) then (some (([]:List T5),false))
 else some (x322.1,true)
def z13_l2 (N:Nat) (known_:(List T5)) (x2:T0) (x245:(List Int) × Bool):Nat→(List T5)→Int→Option ((List T5) × Bool)
 | 0,_,_=>none
 | n9+1,v20_38,v131_38 =>
 bif (decide (v131_38 < (x2.Fields.length:Int))) then ((idx x2.Fields v131_38).bind fun x397 =>
 (idx x245.1 v131_38).bind fun x405 =>
 (idx v20_38 v131_38).bind fun x409 =>
 bif (x397.Sort'.Kind==(2:Int)) then ((idx x245.1 v131_38).bind fun x412 =>
 (z39 N (str [97]) x412).bind fun x413 =>
 (idx (setL' v20_38 v131_38 (⟨x397.Sort'.Kind,x405,(str [])⟩:T5)) v131_38).bind fun x414 =>
 (z13_l2 N known_ x2 x245 n9) (setL' (setL' v20_38 v131_38 (⟨x397.Sort'.Kind,x405,(str [])⟩:T5)) v131_38 (⟨(2:Int),(0:Int),x413⟩:T5)) (w64 (v131_38+(1:Int))))
 else (z13_l2 N known_ x2 x245 n9) (setL' v20_38 v131_38 (⟨x397.Sort'.Kind,x405,(str [])⟩:T5)) (w64 (v131_38+(1:Int))))
 else z13_k1 N known_ x2 v20_38
def z13_k3 (N:Nat) (known_:(List T5)) (x2:T0) (vb10_8_0_1:Int) (vb10_8_1_1:(List Int)):Option ((List T5) × Bool) :=
 (z38 N (⟨vb10_8_0_1,vb10_8_1_1⟩:T8)).bind fun x245 =>
 bif (!x245.2) then (some (([]:List T5),false))
 else (mkL (⟨(0:Int),(0:Int),(str [])⟩:T5) (x2.Fields.length:Int) (x2.Fields.length:Int)).bind fun x246 =>
 z13_l2 N known_ x2 x245 N x246 (0:Int)
def z13_k5 (N:Nat) (vb10_8_0_39:Int) (vb10_8_1_39:(List Int)) (v44_39:Int) (ag39:Int→(List Int)→Int→Option ((List T5) × Bool)) (v14_62:Int) (vb15_13_0_62:Int) (vb15_13_1_62:Int):Option ((List T5) × Bool) :=
 (z37 N (⟨vb10_8_0_39,vb10_8_1_39⟩:T8) (⟨vb15_13_0_62,vb15_13_1_62,v14_62⟩:T1)).bind fun x691 =>
 ag39 x691.1.N x691.1.B (w64 (v44_39+(1:Int)))
def z13_k7 (N:Nat) (known_:(List T5)) (x2:T0) (v14_68:Int) (vb15_13_0_68:Int) (vb15_13_1_68:Int) (v56_68:Int) (ag68:Int→Int→Int→Int→Option ((List T5) × Bool)) (x721:Int) (v70_72:Bool):Option ((List T5) × Bool) :=
 bif v70_72 then (bif (v56_68==(0:Int)) then (ag68 v14_68 (w64 (x721-x2.First)) vb15_13_1_68 (w64 (v56_68+(1:Int))))
 else bif (v56_68==(1:Int)) then (ag68 v14_68 vb15_13_0_68 (w64 (x721-x2.First)) (w64 (v56_68+(1:Int))))
 else none)
 else (idx known_ x721).bind fun x722 =>
 bif (x722.Kind==(0:Int)) then (some (([]:List T5),false))
 else bif (v56_68==(0:Int)) then ((idx known_ x721).bind fun x723 =>
 (z36 N x723).bind fun x724 =>
 ag68 (w64 (v14_68-x724)) vb15_13_0_68 vb15_13_1_68 (w64 (v56_68+(1:Int))))
 else (idx known_ x721).bind fun x725 =>
 (z36 N x725).bind fun x726 =>
 ag68 (w64 (v14_68+x726)) vb15_13_0_68 vb15_13_1_68 (w64 (v56_68+(1:Int)))
def z13_l6 (N:Nat) (known_:(List T5)) (x2:T0) (vb10_8_0_39:Int) (vb10_8_1_39:(List Int)) (v44_39:Int) (ag39:Int→(List Int)→Int→Option ((List T5) × Bool)) (x661:T1):Nat→Int→Int→Int→Int→Option ((List T5) × Bool)
 | 0,_,_,_,_=>none
 | n16+1,v14_68,vb15_13_0_68,vb15_13_1_68,v56_68 =>
 bif (decide (v56_68 < (2:Int))) then ((idx ([x661.X,x661.Y]:List Int) v56_68).bind fun x721 =>
 bif (decide (x721 < (0:Int))) then ((z13_l6 N known_ x2 vb10_8_0_39 vb10_8_1_39 v44_39 ag39 x661 n16) v14_68 vb15_13_0_68 vb15_13_1_68 (w64 (v56_68+(1:Int))))
 else bif (decide (x721≥x2.First)) then (z13_k7 N known_ x2 v14_68 vb15_13_0_68 vb15_13_1_68 v56_68 (z13_l6 N known_ x2 vb10_8_0_39 vb10_8_1_39 v44_39 ag39 x661 n16) x721 (decide (x721 < (w64 (x2.First+(x2.Fields.length:Int))))))
 else z13_k7 N known_ x2 v14_68 vb15_13_0_68 vb15_13_1_68 v56_68 (z13_l6 N known_ x2 vb10_8_0_39 vb10_8_1_39 v44_39 ag39 x661 n16) x721 false)
 else z13_k5 N vb10_8_0_39 vb10_8_1_39 v44_39 ag39 v14_68 vb15_13_0_68 vb15_13_1_68
def z13_l4 (N:Nat) (known_:(List T5)) (x2:T0) (x4:(List T1)):Nat→Int→(List Int)→Int→Option ((List T5) × Bool)
 | 0,_,_,_=>none
 | n14+1,vb10_8_0_39,vb10_8_1_39,v44_39 =>
 bif (decide (v44_39 < (x4.length:Int))) then ((idx x4 v44_39).bind fun x661 =>
 z13_l6 N known_ x2 vb10_8_0_39 vb10_8_1_39 v44_39 (z13_l4 N known_ x2 x4 n14) x661 N x661.C (-1:Int) (-1:Int) (0:Int))
 else z13_k3 N known_ x2 vb10_8_0_39 vb10_8_1_39
def z13 (N:Nat) (decls_:(List T0)) (label_:Int) (known_:(List T5)):Option ((List T5) × Bool) :=
 (z33 N decls_ label_ known_).bind fun x1 =>
 bif (!x1) then (some (([]:List T5),false))
 else (idx decls_ label_).bind fun x2 =>
 (z34 N (x2.Fields.length:Int)).bind fun x3 =>
 (z35 N x2).bind fun x4 =>
 z13_l4 N known_ x2 x4 N x3.1.N x3.1.B (0:Int)
def ref09_letter (N:Nat) (c_:Int):Option Bool :=
 bif (decide (c_≥(97:Int))) then (bif (decide (c_≤(122:Int))) then (some true)
 else bif (decide (c_≥(65:Int))) then (some (decide (c_≤(90:Int))))
 else some false)
 else bif (decide (c_≥(65:Int))) then (some (decide (c_≤(90:Int))))
 else some false
def ref09_digit (N:Nat) (c_:Int):Option Bool :=
 bif (decide (c_≥(48:Int))) then (some (decide (c_≤(57:Int))))
 else some false
def ref09_inner (N:Nat) (c_:Int):Option Bool :=
 (ref09_letter N c_).bind fun x1 =>
 bif x1 then (some true)
 else (ref09_digit N c_).bind fun x2 =>
 bif x2 then (some true)
 else some (c_==(95:Int))
def ref09_IsName_k1:Option Bool :=
 some true
def ref09_IsName_l2 (N:Nat) (s_:ByteArray):Nat→Int→Option Bool
 | 0,_=>none
 | n2+1,v3_3 =>
 bif (decide (v3_3 < (s_.size:Int))) then ((sidx s_ v3_3).bind fun x19 =>
 (ref09_inner N x19).bind fun x20 =>
 bif (!x20) then (some false)
 else (ref09_IsName_l2 N s_ n2) (w64 (v3_3+(1:Int))))
 else ref09_IsName_k1
def ref09_IsName (N:Nat) (s_:ByteArray):Option Bool :=
 bif (s_.toList==(str []).toList) then (some false)
 else (sidx s_ (0:Int)).bind fun x1 =>
 (ref09_letter N x1).bind fun x2 =>
 bif (!x2) then (some false)
 else bif (decide ((s_.size:Int) > (16:Int))) then (some false)
 else ref09_IsName_l2 N s_ N (0:Int)
def ref09_Keywords (N:Nat):Option (List ByteArray) :=
 some ([(str [97,103,97,105,110]),(str [97,110,100]),(str [97,115]),(str [97,116]),(str [99,97,108,108]),(str [99,104,111,105,99,101]),(str [101,108,115,101]),(str [102,114,111,109]),(str [105,102]),(str [105,110,116]),(str [108,101,110]),(str [108,111,111,112]),(str [109,101,115,115,97,103,101]),(str [111,102]),(str [111,102,102,101,114]),(str [111,110]),(str [111,114]),(str [112,97,114]),(str [112,108,97,121,115]),(str [112,114,111,116,111,99,111,108]),(str [115,101,114,118,105,99,101]),(str [116,101,120,116]),(str [116,105,109,101,115]),(str [116,111]),(str [118,97,114]),(str [119,104,101,114,101]),(str [119,104,105,108,101]),(str [119,105,116,104,105,110])]:List ByteArray)
def ref09_in_k1:Option Bool :=
 some false
def ref09_in_l2 (l_:(List ByteArray)) (s_:ByteArray):Nat→Int→Option Bool
 | 0,_=>none
 | n2+1,v5_3 =>
 bif (decide (v5_3 < (l_.length:Int))) then ((idx l_ v5_3).bind fun x9 =>
 bif (x9.toList==s_.toList) then (some true)
 else (ref09_in_l2 l_ s_ n2) (w64 (v5_3+(1:Int))))
 else ref09_in_k1
def ref09_in (N:Nat) (l_:(List ByteArray)) (s_:ByteArray):Option Bool :=
 ref09_in_l2 l_ s_ N (0:Int)
def ref09_IsWord (N:Nat) (s_:ByteArray):Option Bool :=
 (ref09_IsName N s_).bind fun x1 =>
 bif x1 then ((ref09_Keywords N).bind fun x2 =>
 (ref09_in N x2 s_).bind fun x3 =>
 some (!x3))
 else some false
def z49 (N:Nat) (v_:T5):Option Int :=
 bif (v_.Kind==(2:Int)) then (some (v_.S.size:Int))
 else some v_.N
def z16 (N:Nat) (decls_:(List T0)) (label_:Int) (values_:(List T5)) (known_:(List T5)):Option Bool :=
 (z33 N decls_ label_ known_).bind fun x1 =>
 bif (!x1) then (some false)
 else (idx decls_ label_).bind fun x2 =>
 (z43 N x2.Fields values_).bind fun x3 =>
 bif (!x3) then (some false)
 else (idx decls_ label_).bind fun x4 =>
 (z40 N x4 values_ known_).bind fun x10 =>
 (z42 N x4.Guard x10).bind fun x12 =>
 some x12
def z17_k1 (v3_1:(List Int)):Option (List Int) :=
 some v3_1
def z17_l2 (N:Nat) (l_:(List T5)):Nat→(List Int)→Int→Option (List Int)
 | 0,_,_=>none
 | n2+1,v3_3,v7_3 =>
 bif (decide (v7_3 < (l_.length:Int))) then ((idx l_ v7_3).bind fun x25 =>
 (z49 N x25).bind fun x26 =>
 (appL v3_3 ([x26]:List Int)).bind fun x27 =>
 (z17_l2 N l_ n2) x27 (w64 (v7_3+(1:Int))))
 else z17_k1 v3_3
def z17 (N:Nat) (l_:(List T5)):Option (List Int) :=
 z17_l2 N l_ N ([]:List Int) (0:Int)
def law14_GuardLeast_k1:Option Bool :=
 some true
def law14_GuardLeast_l2 (x9:(List Int)) (x13:(List Int)):Nat→Int→Option Bool
 | 0,_=>none
 | n2+1,v59_3 =>
 bif (decide (v59_3 < (x9.length:Int))) then ((idx x9 v59_3).bind fun x220 =>
 (idx x13 v59_3).bind fun x225 =>
 bif (x220 != x225) then ((idx x9 v59_3).bind fun x232 =>
 (idx x13 v59_3).bind fun x237 =>
 some (decide (x232 < x237)))
 else (law14_GuardLeast_l2 x9 x13 n2) (w64 (v59_3+(1:Int))))
 else law14_GuardLeast_k1
def law14_GuardLeast_k3:Option Bool :=
 some true
def law14_GuardLeast_l4 (x244:(List Int)) (x248:(List Int)):Nat→Int→Option Bool
 | 0,_=>none
 | n4+1,v59_6 =>
 bif (decide (v59_6 < (x244.length:Int))) then ((idx x244 v59_6).bind fun x455 =>
 (idx x248 v59_6).bind fun x460 =>
 bif (x455 != x460) then ((idx x244 v59_6).bind fun x467 =>
 (idx x248 v59_6).bind fun x472 =>
 some (decide (x467 < x472)))
 else (law14_GuardLeast_l4 x244 x248 n4) (w64 (v59_6+(1:Int))))
 else law14_GuardLeast_k3
def law14_GuardLeast (N:Nat) (d_:(List T0)) (label_:Int) (c_:T6):Option Bool :=
 (z11 N).bind fun x1 =>
 bif (!x1) then ((z11 N).bind fun x2 =>
 some x2)
 else (z12 N d_ c_.Values c_.Known).bind fun x3 =>
 bif (!x3) then ((z11 N).bind fun x4 =>
 some x4)
 else (z13 N d_ label_ c_.Known).bind fun x5 =>
 bif x5.2 then ((z16 N d_ label_ x5.1 c_.Known).bind fun x6 =>
 bif (!x6) then (some false)
 else (z16 N d_ label_ c_.Values c_.Known).bind fun x7 =>
 bif (!x7) then (some true)
 else bif (!x5.2) then (some false)
 else (z17 N x5.1).bind fun x9 =>
 (z17 N c_.Values).bind fun x13 =>
 law14_GuardLeast_l2 x9 x13 N (0:Int))
 else (z16 N d_ label_ c_.Values c_.Known).bind fun x242 =>
 bif (!x242) then (some true)
 else bif (!x5.2) then (some false)
 else (z17 N x5.1).bind fun x244 =>
 (z17 N c_.Values).bind fun x248 =>
 law14_GuardLeast_l4 x244 x248 N (0:Int)
end Gx
end
