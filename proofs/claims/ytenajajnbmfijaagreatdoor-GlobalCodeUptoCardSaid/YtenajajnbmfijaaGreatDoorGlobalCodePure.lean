/- What each function of the statement computes, as plain definitions. -/
import Derived.Test.YtenajajnbmfijaaGreatDoorGlobalCodeCore3
set_option linter.all false
section
open Go Go.Kx
namespace Gx
structure T7 where
  Kind:Int
  Lo:Int
  Hi:Int
structure T3 where
  Name:ByteArray
  Sort':T7
structure T1 where
  X:Int
  Y:Int
  C:Int
structure T5 where
  Diffs:(List T1)
  Equals:(List (Int × Int))
structure T0 where
  Name:ByteArray
  Fields:(List T3)
  First:Int
  Guard:T5
structure T6 where
  From:Int
  To:Int
  Label:Int
structure T2 where
  From:Int
  Act:T6
  To:Int
  Again:Bool
structure T8 where
  State:Int
  Ticks:Int
  Else:Int
structure T4 where
  Name:ByteArray
  Roles:(List ByteArray)
  Decls:(List T0)
  States:Int
  Start:Int
  End:Int
  Edges:(List T2)
  Timeouts:(List T8)
structure T10 where
  State:Int
  Act:T6
  Name:ByteArray
structure T12 where
  b':(List Int)
  at':Int
  failed':Bool
structure T11 where
  B:(List Int)
  At:Int
  Failed:Bool
structure T9 where
  At:Int
  To:Int
def z43 (N:Nat):Option T4 :=
 some (⟨(str [80]),([(str [65]),(str [66])]:List ByteArray),([(⟨(str [120]),([]:List T3),(0:Int),(⟨([]:List T1),([]:List (Int × Int))⟩:T5)⟩:T0)]:List T0),(2:Int),(0:Int),(1:Int),([(⟨(0:Int),(⟨(0:Int),(1:Int),(0:Int)⟩:T6),(1:Int),false⟩:T2)]:List T2),([]:List T8)⟩:T4)
def z173 (N:Nat) (c_:Int):Option Bool :=
 bif (decide ((97:Int)≤c_)) then (bif (decide (c_≤(122:Int))) then (some true)
 else bif (decide ((65:Int)≤c_)) then (some (decide (c_≤(90:Int))))
 else some false)
 else bif (decide ((65:Int)≤c_)) then (some (decide (c_≤(90:Int))))
 else some false
def z186 (N:Nat) (c_:Int):Option Bool :=
 bif (decide ((48:Int)≤c_)) then (some (decide (c_≤(57:Int))))
 else some false
def z174 (N:Nat) (c_:Int):Option Bool :=
 (z173 N c_).bind fun x1 =>
 bif x1 then (some true)
 else (z186 N c_).bind fun x2 =>
 bif x2 then (some true)
 else some (c_==(95:Int))
def z157_k1:Option Bool :=
 some true
def z157_l2 (N:Nat) (s_:ByteArray):Nat→Int→Option Bool
 | 0,_=>none
 | n2+1,v19_3 =>
 bif (decide (v19_3 < (s_.size:Int))) then ((sidx s_ v19_3).bind fun x19 =>
 (z174 N x19).bind fun x20 =>
 bif (!x20) then (some false)
 else (z157_l2 N s_ n2) (w64 (v19_3+(1:Int))))
 else z157_k1
def z157 (N:Nat) (s_:ByteArray):Option Bool :=
 bif (s_.toList==(str []).toList) then (some false)
 else bif (decide ((s_.size:Int) > (16:Int))) then (some false)
 else (sidx s_ (0:Int)).bind fun x1 =>
 (z173 N x1).bind fun x2 =>
 bif (!x2) then (some false)
 else z157_l2 N s_ N (0:Int)
def z75_k1:Option Int :=
 some (-1:Int)
def z75_l2 (s_:(List ByteArray)) (v_:ByteArray):Nat→Int→Option Int
 | 0,_=>none
 | n2+1,v8_3 =>
 bif (decide (v8_3 < (s_.length:Int))) then ((idx s_ v8_3).bind fun x9 =>
 bif (v_.toList==x9.toList) then (some v8_3)
 else (z75_l2 s_ v_ n2) (w64 (v8_3+(1:Int))))
 else z75_k1
def z75 (N:Nat) (s_:(List ByteArray)) (v_:ByteArray):Option Int :=
 z75_l2 s_ v_ N (0:Int)
def z121 (N:Nat) (s_:(List ByteArray)) (v_:ByteArray):Option Bool :=
 (z75 N s_ v_).bind fun x1 =>
 some (decide (x1≥(0:Int)))
def z120 (N:Nat) (s_:ByteArray):Option Bool :=
 (z157 N s_).bind fun x1 =>
 bif x1 then ((z121 N ([(str [97,103,97,105,110]),(str [97,110,100]),(str [97,115]),(str [97,116]),(str [99,97,108,108]),(str [99,104,111,105,99,101]),(str [101,108,115,101]),(str [102,114,111,109]),(str [105,102]),(str [105,110,116]),(str [108,101,110]),(str [108,111,111,112]),(str [109,101,115,115,97,103,101]),(str [111,102]),(str [111,102,102,101,114]),(str [111,110]),(str [111,114]),(str [112,97,114]),(str [112,108,97,121,115]),(str [112,114,111,116,111,99,111,108]),(str [115,101,114,118,105,99,101]),(str [116,101,120,116]),(str [116,105,109,101,115]),(str [116,111]),(str [118,97,114]),(str [119,104,101,114,101]),(str [119,104,105,108,101]),(str [119,105,116,104,105,110])]:List ByteArray) s_).bind fun x2 =>
 some (!x2))
 else some false
def z61_k1:Option Bool :=
 some true
def z61_l2 (N:Nat) (g_:T4):Nat→Int→Option Bool
 | 0,_=>none
 | n2+1,v24_3 =>
 bif (decide (v24_3 < (g_.Roles.length:Int))) then ((idx g_.Roles v24_3).bind fun x34 =>
 (z120 N x34).bind fun x35 =>
 bif (!x35) then (some false)
 else (lsl g_.Roles none (some v24_3)).bind fun x36 =>
 (z121 N x36 x34).bind fun x37 =>
 bif x37 then (some false)
 else (z61_l2 N g_ n2) (w64 (v24_3+(1:Int))))
 else z61_k1
def z61 (N:Nat) (g_:T4):Option Bool :=
 (z120 N g_.Name).bind fun x1 =>
 bif (!x1) then (some false)
 else bif (decide ((g_.Roles.length:Int) < (1:Int))) then (some false)
 else bif (decide ((g_.Roles.length:Int) > (6:Int))) then (some false)
 else z61_l2 N g_ N (0:Int)
def z62_k1:Option Bool :=
 some true
def z62_l2 (g_:T4):Nat→Int→Option Bool
 | 0,_=>none
 | n2+1,v41_3 =>
 bif (decide (v41_3 < (g_.Edges.length:Int))) then ((idx g_.Edges v41_3).bind fun x9 =>
 bif (decide ((minI (minI (minI (minI x9.From x9.To) x9.Act.From) x9.Act.To) x9.Act.Label) < (0:Int))) then (some false)
 else bif (decide ((maxI x9.From x9.To)≥g_.States)) then (some false)
 else bif (decide ((maxI x9.Act.From x9.Act.To)≥(g_.Roles.length:Int))) then (some false)
 else bif (x9.Act.From==x9.Act.To) then (some false)
 else bif (decide (x9.Act.Label≥(g_.Decls.length:Int))) then (some false)
 else (z62_l2 g_ n2) (w64 (v41_3+(1:Int))))
 else z62_k1
def z62 (N:Nat) (g_:T4):Option Bool :=
 bif (decide (g_.States < (1:Int))) then (some false)
 else bif (decide (g_.States > (200:Int))) then (some false)
 else bif (decide ((minI g_.Start g_.End) < (0:Int))) then (some false)
 else bif (decide ((maxI g_.Start g_.End)≥g_.States)) then (some false)
 else bif (decide ((g_.Edges.length:Int) > (400:Int))) then (some false)
 else z62_l2 g_ N (0:Int)
def z175_k1 (v3_1:(List T3)):Option (List T3) :=
 some v3_1
def z175_l2 (l_:(List T0)):Nat→(List T3)→Int→Option (List T3)
 | 0,_,_=>none
 | n2+1,v3_3,v8_3 =>
 bif (decide (v8_3 < (l_.length:Int))) then ((idx l_ v8_3).bind fun x17 =>
 (appL v3_3 x17.Fields).bind fun x18 =>
 (z175_l2 l_ n2) x18 (w64 (v8_3+(1:Int))))
 else z175_k1 v3_3
def z175 (N:Nat) (l_:(List T0)):Option (List T3) :=
 z175_l2 l_ N ([]:List T3) (0:Int)
def z196 (N:Nat) (s_:ByteArray):Option Int :=
 dead 0
def z200 (N:Nat) (s_:ByteArray):Option (Int × Int) :=
 bif (decide ((s_.size:Int) < (1:Int))) then (some ((65533:Int),(0:Int)))
 else (sidx s_ (0:Int)).bind fun x1 =>
 dead 0
def z197 (N:Nat) (s_:ByteArray):Option (Int × Int) :=
 bif (!(s_.toList==(str []).toList)) then ((sidx s_ (0:Int)).bind fun x1 =>
 bif (decide (x1 < (128:Int))) then ((sidx s_ (0:Int)).bind fun x2 =>
 some ((wk .i32 (x2)),(1:Int)))
 else (z200 N s_).bind fun x3 =>
 some (x3.1,x3.2))
 else (z200 N s_).bind fun x4 =>
 some (x4.1,x4.2)
def z193_k1 (v1_2:Int) (v0_3:ByteArray) (v6_3:(List ByteArray)):Option (List ByteArray) :=
 bif (decide (v1_2 > (0:Int))) then ((idx v6_3 (w64 (v1_2-(1:Int)))).bind fun x19 =>
 some (setL' v6_3 (w64 (v1_2-(1:Int))) v0_3))
 else some v6_3
def z193_l2 (N:Nat) (v1_2:Int):Nat→ByteArray→(List ByteArray)→Int→Option (List ByteArray)
 | 0,_,_,_=>none
 | n2+1,v0_5,v6_5,v7_5 =>
 bif (decide (v7_5 < (w64 (v1_2-(1:Int))))) then ((z197 N v0_5).bind fun x36 =>
 (ssl v0_5 none (some x36.2)).bind fun x37 =>
 (idx v6_5 v7_5).bind fun x38 =>
 (ssl v0_5 (some x36.2) none).bind fun x39 =>
 (z193_l2 N v1_2 n2) x39 (setL' v6_5 v7_5 x37) (w64 (v7_5+(1:Int))))
 else z193_k1 v1_2 v0_5 v6_5
def z193_k3 (N:Nat) (s_:ByteArray) (v1_2:Int):Option (List ByteArray) :=
 (mkL (str []) v1_2 v1_2).bind fun x2 =>
 z193_l2 N v1_2 N s_ x2 (0:Int)
def z193_k4 (N:Nat) (s_:ByteArray) (n_:Int) (x1:Int) (v18_1:Bool):Option (List ByteArray) :=
 bif v18_1 then (z193_k3 N s_ x1)
 else z193_k3 N s_ n_
def z193 (N:Nat) (s_:ByteArray) (n_:Int):Option (List ByteArray) :=
 (z196 N s_).bind fun x1 =>
 bif (decide (n_ < (0:Int))) then (z193_k4 N s_ n_ x1 true)
 else z193_k4 N s_ n_ x1 (decide (n_ > x1))
def z201 (N:Nat) (s_:ByteArray) (c_:Int):Option Int :=
 some (firstB s_ c_)
def z199 (N:Nat) (s_:ByteArray) (substr_:ByteArray):Option Int :=
 bif ((substr_.size:Int)==(0:Int)) then (some (0:Int))
 else bif (substr_.toList==s_.toList) then (some (0:Int))
 else bif ((substr_.size:Int)==(1:Int)) then ((sidx substr_ (0:Int)).bind fun x1 =>
 (z201 N s_ x1).bind fun x2 =>
 some x2)
 else bif (decide ((substr_.size:Int)≥(s_.size:Int))) then (some (-1:Int))
 else dead 0
def z195 (N:Nat) (s_:ByteArray) (substr_:ByteArray):Option Int :=
 (z199 N s_ substr_).bind fun x1 =>
 some x1
def z194_l1 (N:Nat) (substr_:ByteArray):Nat→ByteArray→Int→Option Int
 | 0,_,_=>none
 | n1+1,v0_1,v5_1 =>
 (z195 N v0_1 substr_).bind fun x11 =>
 bif (x11==(-1:Int)) then (some v5_1)
 else (ssl v0_1 (some (w64 (x11+(substr_.size:Int)))) none).bind fun x12 =>
 (z194_l1 N substr_ n1) x12 (w64 (v5_1+(1:Int)))
def z194 (N:Nat) (s_:ByteArray) (substr_:ByteArray):Option Int :=
 bif ((substr_.size:Int)==(0:Int)) then ((z196 N s_).bind fun x1 =>
 some (w64 (x1+(1:Int))))
 else bif ((substr_.size:Int)==(1:Int)) then ((sidx substr_ (0:Int)).bind fun x2 =>
 some (countB s_ x2))
 else z194_l1 N substr_ N s_ (0:Int)
def z192_k1 (v0_2:ByteArray) (v9_2:(List ByteArray)) (v10_2:Int):Option (List ByteArray) :=
 (idx v9_2 v10_2).bind fun x20 =>
 (lsl (setL' v9_2 v10_2 v0_2) none (some (w64 (v10_2+(1:Int))))).bind fun x21 =>
 some x21
def z192_l2 (N:Nat) (s_:ByteArray) (sep_:ByteArray) (sepSave_:Int) (v3_1:Int):Nat→ByteArray→(List ByteArray)→Int→Option (List ByteArray)
 | 0,_,_,_=>none
 | n2+1,v0_4,v9_4,v10_4 =>
 bif (decide (v10_4 < (w64 ((minI v3_1 (w64 ((s_.size:Int)+(1:Int))))-(1:Int))))) then ((z195 N v0_4 sep_).bind fun x38 =>
 bif (decide (x38 < (0:Int))) then (z192_k1 v0_4 v9_4 v10_4)
 else (ssl v0_4 none (some (w64 (x38+sepSave_)))).bind fun x39 =>
 (idx v9_4 v10_4).bind fun x40 =>
 (ssl v0_4 (some (w64 (x38+(sep_.size:Int)))) none).bind fun x41 =>
 (z192_l2 N s_ sep_ sepSave_ v3_1 n2) x41 (setL' v9_4 v10_4 x39) (w64 (v10_4+(1:Int))))
 else z192_k1 v0_4 v9_4 v10_4
def z192_k3 (N:Nat) (s_:ByteArray) (sep_:ByteArray) (sepSave_:Int) (v3_1:Int):Option (List ByteArray) :=
 (mkL (str []) (minI v3_1 (w64 ((s_.size:Int)+(1:Int)))) (minI v3_1 (w64 ((s_.size:Int)+(1:Int))))).bind fun x3 =>
 z192_l2 N s_ sep_ sepSave_ v3_1 N s_ x3 (0:Int)
def z192 (N:Nat) (s_:ByteArray) (sep_:ByteArray) (sepSave_:Int) (n_:Int):Option (List ByteArray) :=
 bif (n_==(0:Int)) then (some ([]:List ByteArray))
 else bif (sep_.toList==(str []).toList) then ((z193 N s_ n_).bind fun x1 =>
 some x1)
 else bif (decide (n_ < (0:Int))) then ((z194 N s_ sep_).bind fun x42 =>
 z192_k3 N s_ sep_ sepSave_ (w64 (x42+(1:Int))))
 else z192_k3 N s_ sep_ sepSave_ n_
def z188 (N:Nat) (s_:ByteArray) (sep_:ByteArray):Option (List ByteArray) :=
 (z192 N s_ sep_ (0:Int) (-1:Int)).bind fun x1 =>
 some x1
def z189 (N:Nat) (w_:ByteArray):Option Bool :=
 (z120 N w_).bind fun x1 =>
 some (!x1)
def z191_0_k1:Option Int :=
 some (-1:Int)
def z191_0_l2 (N:Nat) (s_:(List ByteArray)):Nat→Int→Option Int
 | 0,_=>none
 | n2+1,v8_3 =>
 bif (decide (v8_3 < (s_.length:Int))) then ((idx s_ v8_3).bind fun x17 =>
 (z189 N x17).bind fun x18 =>
 bif x18 then (some v8_3)
 else (z191_0_l2 N s_ n2) (w64 (v8_3+(1:Int))))
 else z191_0_k1
def z191_0 (N:Nat) (s_:(List ByteArray)):Option Int :=
 z191_0_l2 N s_ N (0:Int)
def z187_1 (N:Nat) (s_:(List ByteArray)):Option Bool :=
 (z191_0 N s_).bind fun x1 =>
 some (decide (x1≥(0:Int)))
def z176 (N:Nat) (s_:ByteArray):Option Bool :=
 bif (decide ((s_.size:Int)≤(50:Int))) then ((z188 N s_ (str [46])).bind fun x1 =>
 (z187_1 N x1).bind fun x2 =>
 some (!x2))
 else some false
def z178_2 (N:Nat) (x_:T0) (c0_:T0):Option Bool :=
 some (x_.Name.toList==c0_.Name.toList)
def z77_3_k1:Option Int :=
 some (-1:Int)
def z77_3_l2 (N:Nat) (s_:(List T0)) (c0_:T0):Nat→Int→Option Int
 | 0,_=>none
 | n2+1,v8_3 =>
 bif (decide (v8_3 < (s_.length:Int))) then ((idx s_ v8_3).bind fun x17 =>
 (z178_2 N x17 c0_).bind fun x18 =>
 bif x18 then (some v8_3)
 else (z77_3_l2 N s_ c0_ n2) (w64 (v8_3+(1:Int))))
 else z77_3_k1
def z77_3 (N:Nat) (s_:(List T0)) (c0_:T0):Option Int :=
 z77_3_l2 N s_ c0_ N (0:Int)
def z177_4 (N:Nat) (s_:(List T0)) (c0_:T0):Option Bool :=
 (z77_3 N s_ c0_).bind fun x1 =>
 some (decide (x1≥(0:Int)))
def z179 (N:Nat) (s_:T7):Option Bool :=
 bif (s_.Kind==(1:Int)) then (bif (decide (s_.Lo≥(-1000:Int))) then (bif (decide (s_.Lo≤s_.Hi)) then (some (decide (s_.Hi≤(1000:Int))))
 else some false)
 else some false)
 else bif (s_.Kind==(2:Int)) then (bif (decide (s_.Lo≥(0:Int))) then (bif (decide (s_.Lo≤s_.Hi)) then (some (decide (s_.Hi≤(40:Int))))
 else some false)
 else some false)
 else some false
def z181_5 (N:Nat) (x_:T3) (c0_:T3):Option Bool :=
 some (x_.Name.toList==c0_.Name.toList)
def z190_6_k1:Option Int :=
 some (-1:Int)
def z190_6_l2 (N:Nat) (s_:(List T3)) (c0_:T3):Nat→Int→Option Int
 | 0,_=>none
 | n2+1,v8_3 =>
 bif (decide (v8_3 < (s_.length:Int))) then ((idx s_ v8_3).bind fun x17 =>
 (z181_5 N x17 c0_).bind fun x18 =>
 bif x18 then (some v8_3)
 else (z190_6_l2 N s_ c0_ n2) (w64 (v8_3+(1:Int))))
 else z190_6_k1
def z190_6 (N:Nat) (s_:(List T3)) (c0_:T3):Option Int :=
 z190_6_l2 N s_ c0_ N (0:Int)
def z180_7 (N:Nat) (s_:(List T3)) (c0_:T3):Option Bool :=
 (z190_6 N s_ c0_).bind fun x1 =>
 some (decide (x1≥(0:Int)))
def z182_k1:Option Bool :=
 some true
def z182_k3 (v58_14:Int) (ag14:Int→Option Bool):Option Bool :=
 ag14 (w64 (v58_14+(1:Int)))
def z182_l4 (all_:(List T3)) (v58_14:Int) (ag14:Int→Option Bool) (x127:(Int × Int)):Nat→Int→Option Bool
 | 0,_=>none
 | n15+1,v63_23 =>
 bif (decide (v63_23 < (2:Int))) then ((idx ([x127.1,x127.2]:List Int) v63_23).bind fun x142 =>
 bif (decide (x142 < (0:Int))) then (some false)
 else bif (decide (x142≥(all_.length:Int))) then (some false)
 else (idx all_ x142).bind fun x143 =>
 bif (x143.Sort'.Kind != (2:Int)) then (some false)
 else (z182_l4 all_ v58_14 ag14 x127 n15) (w64 (v63_23+(1:Int))))
 else z182_k3 v58_14 ag14
def z182_l2 (N:Nat) (g_:T5) (all_:(List T3)):Nat→Int→Option Bool
 | 0,_=>none
 | n13+1,v58_14 =>
 bif (decide (v58_14 < (g_.Equals.length:Int))) then ((idx g_.Equals v58_14).bind fun x127 =>
 z182_l4 all_ v58_14 (z182_l2 N g_ all_ n13) x127 N (0:Int))
 else z182_k1
def z182_k5 (N:Nat) (g_:T5) (all_:(List T3)):Option Bool :=
 z182_l2 N g_ all_ N (0:Int)
def z182_l6 (N:Nat) (g_:T5) (all_:(List T3)):Nat→Int→Option Bool
 | 0,_=>none
 | n16+1,v24_24 =>
 bif (decide (v24_24 < (g_.Diffs.length:Int))) then ((idx g_.Diffs v24_24).bind fun x148 =>
 bif (decide ((minI x148.X x148.Y) < (-1:Int))) then (some false)
 else bif (decide ((maxI x148.X x148.Y)≥(all_.length:Int))) then (some false)
 else bif (decide (x148.C < (-20000:Int))) then (some false)
 else bif (decide (x148.C > (20000:Int))) then (some false)
 else (z182_l6 N g_ all_ n16) (w64 (v24_24+(1:Int))))
 else z182_k5 N g_ all_
def z182 (N:Nat) (g_:T5) (all_:(List T3)):Option Bool :=
 bif (decide ((g_.Diffs.length:Int) > (20:Int))) then (some false)
 else bif (decide ((g_.Equals.length:Int) > (20:Int))) then (some false)
 else z182_l6 N g_ all_ N (0:Int)
def z158_k1:Option Bool :=
 some true
def z158_k3 (N:Nat) (x1:(List T3)) (v4_12:Int) (v19_12:Int) (ag12:Int→Int→Option Bool) (x367:T0):Option Bool :=
 (z182 N x367.Guard x1).bind fun x391 =>
 bif (!x391) then (some false)
 else ag12 (w64 (v4_12+(x367.Fields.length:Int))) (w64 (v19_12+(1:Int)))
def z158_l4 (N:Nat) (x1:(List T3)) (v4_12:Int) (v19_12:Int) (ag12:Int→Int→Option Bool) (x367:T0):Nat→Int→Option Bool
 | 0,_=>none
 | n14+1,v55_21 =>
 bif (decide (v55_21 < (x367.Fields.length:Int))) then ((idx x367.Fields v55_21).bind fun x412 =>
 (z120 N x412.Name).bind fun x413 =>
 bif (!x413) then (some false)
 else (z179 N x412.Sort').bind fun x414 =>
 bif (!x414) then (some false)
 else (lsl x367.Fields none (some v55_21)).bind fun x415 =>
 (z180_7 N x415 x412).bind fun x416 =>
 bif x416 then (some false)
 else (z158_l4 N x1 v4_12 v19_12 ag12 x367 n14) (w64 (v55_21+(1:Int))))
 else z158_k3 N x1 v4_12 v19_12 ag12 x367
def z158_l2 (N:Nat) (l_:(List T0)) (x1:(List T3)):Nat→Int→Int→Option Bool
 | 0,_,_=>none
 | n12+1,v4_12,v19_12 =>
 bif (decide (v19_12 < (l_.length:Int))) then ((idx l_ v19_12).bind fun x367 =>
 (z176 N x367.Name).bind fun x368 =>
 bif (!x368) then (some false)
 else bif (decide ((x367.Fields.length:Int) > (4:Int))) then (some false)
 else bif (x367.First != v4_12) then (some false)
 else (lsl l_ none (some v19_12)).bind fun x369 =>
 (z177_4 N x369 x367).bind fun x370 =>
 bif x370 then (some false)
 else z158_l4 N x1 v4_12 v19_12 (z158_l2 N l_ x1 n12) x367 N (0:Int))
 else z158_k1
def z158 (N:Nat) (l_:(List T0)):Option Bool :=
 bif (decide ((l_.length:Int) > (40:Int))) then (some false)
 else (z175 N l_).bind fun x1 =>
 bif (decide ((x1.length:Int) > (24:Int))) then (some false)
 else z158_l2 N l_ x1 N (0:Int) (0:Int)
def z159_k1 (v3_3:(List T1)):Option (List T1) :=
 some v3_3
def z159_l2 (d_:T0):Nat→(List T1)→Int→Option (List T1)
 | 0,_,_=>none
 | n3+1,v3_5,v46_5 =>
 bif (decide (v46_5 < (d_.Guard.Equals.length:Int))) then ((idx d_.Guard.Equals v46_5).bind fun x26 =>
 (appL v3_5 ([(⟨x26.1,x26.2,(0:Int)⟩:T1),(⟨x26.2,x26.1,(0:Int)⟩:T1)]:List T1)).bind fun x27 =>
 (z159_l2 d_ n3) x27 (w64 (v46_5+(1:Int))))
 else z159_k1 v3_5
def z159_k3 (N:Nat) (d_:T0) (v3_1:(List T1)):Option (List T1) :=
 (appL v3_1 d_.Guard.Diffs).bind fun x9 =>
 z159_l2 d_ N x9 (0:Int)
def z159_l4 (N:Nat) (d_:T0):Nat→(List T1)→Int→Option (List T1)
 | 0,_,_=>none
 | n4+1,v3_6,v11_6 =>
 bif (decide (v11_6 < (d_.Fields.length:Int))) then ((idx d_.Fields v11_6).bind fun x36 =>
 (appL v3_6 ([(⟨(w64 (d_.First+v11_6)),(-1:Int),x36.Sort'.Hi⟩:T1),(⟨(-1:Int),(w64 (d_.First+v11_6)),(w64 (0-x36.Sort'.Lo))⟩:T1)]:List T1)).bind fun x37 =>
 (z159_l4 N d_ n4) x37 (w64 (v11_6+(1:Int))))
 else z159_k3 N d_ v3_6
def z159 (N:Nat) (d_:T0):Option (List T1) :=
 z159_l4 N d_ N ([]:List T1) (0:Int)
def z122 (N:Nat) (decls_:(List T0)) (label_:Int):Option ((List T1) × Int) :=
 bif (decide (label_ < (0:Int))) then (some (([]:List T1),(1:Int)))
 else bif (decide (label_≥(decls_.length:Int))) then (some (([]:List T1),(1:Int)))
 else (z158 N decls_).bind fun x1 =>
 bif (!x1) then (some (([]:List T1),(1:Int)))
 else (idx decls_ label_).bind fun x2 =>
 (z159 N x2).bind fun x3 =>
 some (x3,(0:Int))
def z63 (N:Nat) (l_:(List T0)):Option Bool :=
 bif ((l_.length:Int)==(0:Int)) then (some true)
 else (z122 N l_ (0:Int)).bind fun x1 =>
 some (x1.2==(0:Int))
def z64_k1:Option Bool :=
 some true
def z64_k3 (v10_33:Int) (ag33:Int→Option Bool):Option Bool :=
 ag33 (w64 (v10_33+(1:Int)))
def z64_k5 (x74:T2) (v34_60:Int) (ag60:Int→Option Bool) (x83:T2) (v68_63:Bool):Option Bool :=
 bif v68_63 then (some false)
 else bif x74.Again then (bif (x83.To==x74.From) then (bif (x74.Act.From != x83.Act.From) then (some false)
 else bif (x74.Act.Label != x83.Act.Label) then (some false)
 else ag60 (w64 (v34_60+(1:Int))))
 else ag60 (w64 (v34_60+(1:Int))))
 else ag60 (w64 (v34_60+(1:Int)))
def z64_l4 (g_:T4) (v10_33:Int) (ag33:Int→Option Bool) (x74:T2):Nat→Int→Option Bool
 | 0,_=>none
 | n14+1,v34_60 =>
 bif (decide (v34_60 < (g_.Edges.length:Int))) then ((idx g_.Edges v34_60).bind fun x83 =>
 bif (v10_33 != v34_60) then (bif (x74.From==x83.From) then (bif ((x74.Act.From==x83.Act.From) && ((x74.Act.To==x83.Act.To) && ((x74.Act.Label==x83.Act.Label) && true))) then (z64_k5 x74 v34_60 (z64_l4 g_ v10_33 ag33 x74 n14) x83 true)
 else bif (x74.Act.From != x83.Act.From) then (z64_k5 x74 v34_60 (z64_l4 g_ v10_33 ag33 x74 n14) x83 true)
 else z64_k5 x74 v34_60 (z64_l4 g_ v10_33 ag33 x74 n14) x83 x74.Again)
 else z64_k5 x74 v34_60 (z64_l4 g_ v10_33 ag33 x74 n14) x83 false)
 else z64_k5 x74 v34_60 (z64_l4 g_ v10_33 ag33 x74 n14) x83 false)
 else z64_k3 v10_33 ag33
def z64_k6 (N:Nat) (g_:T4) (v10_33:Int) (ag33:Int→Option Bool) (x74:T2) (v30_54:Bool):Option Bool :=
 bif v30_54 then (some false)
 else z64_l4 g_ v10_33 ag33 x74 N (0:Int)
def z64_l2 (N:Nat) (g_:T4):Nat→Int→Option Bool
 | 0,_=>none
 | n12+1,v10_33 =>
 bif (decide (v10_33 < (g_.Edges.length:Int))) then ((idx g_.Edges v10_33).bind fun x74 =>
 bif (x74.From==g_.End) then (z64_k6 N g_ v10_33 (z64_l2 N g_ n12) x74 true)
 else bif x74.Again then (z64_k6 N g_ v10_33 (z64_l2 N g_ n12) x74 (x74.From==g_.Start))
 else z64_k6 N g_ v10_33 (z64_l2 N g_ n12) x74 false)
 else z64_k1
def z64 (N:Nat) (g_:T4):Option Bool :=
 z64_l2 N g_ N (0:Int)
def z65_k1:Option Bool :=
 some true
def z65_l2 (g_:T4):Nat→Int→Int→Option Bool
 | 0,_,_=>none
 | n2+1,v3_3,v9_3 =>
 bif (decide (v9_3 < (g_.Timeouts.length:Int))) then ((idx g_.Timeouts v9_3).bind fun x41 =>
 bif (decide (x41.State≤v3_3)) then (some false)
 else bif (decide (x41.Ticks < (1:Int))) then (some false)
 else bif (decide (x41.Ticks > (1000:Int))) then (some false)
 else bif (decide (x41.Else < (0:Int))) then (some false)
 else bif (decide (x41.Else≥(g_.Edges.length:Int))) then (some false)
 else (idx g_.Edges x41.Else).bind fun x44 =>
 bif (x44.From != x41.State) then (some false)
 else (idx g_.Edges x41.Else).bind fun x45 =>
 bif x45.Again then (some false)
 else (z65_l2 g_ n2) x41.State (w64 (v9_3+(1:Int))))
 else z65_k1
def z65 (N:Nat) (g_:T4):Option Bool :=
 z65_l2 g_ N (-1:Int) (0:Int)
def z156 (N:Nat) (x_:Int) (y_:Int):Option (Int × Int) :=
 (binO .and .u64 x_ (4294967295:Int)).bind fun x1 =>
 (binO .shr .u64 x_ (32:Int)).bind fun x2 =>
 (binO .and .u64 y_ (4294967295:Int)).bind fun x3 =>
 (binO .shr .u64 y_ (32:Int)).bind fun x4 =>
 (binO .shr .u64 (wk .u64 (x1 * x3)) (32:Int)).bind fun x5 =>
 (binO .and .u64 (wk .u64 ((wk .u64 (x2 * x3))+x5)) (4294967295:Int)).bind fun x6 =>
 (binO .shr .u64 (wk .u64 ((wk .u64 (x2 * x3))+x5)) (32:Int)).bind fun x7 =>
 (binO .shr .u64 (wk .u64 (x6+(wk .u64 (x1 * x4)))) (32:Int)).bind fun x8 =>
 some ((wk .u64 ((wk .u64 ((wk .u64 (x2 * x4))+x7))+x8)),(wk .u64 (x_ * y_)))
def z119 (N:Nat) (x_:Int) (y_:Int):Option (Int × Int) :=
 (z156 N x_ y_).bind fun x1 =>
 some (x1.1,x1.2)
def z58_k1 (v7_4:(List Int)):Option (List Int) :=
 some v7_4
def z58_l2:Nat→(List Int)→Int→Option (List Int)
 | 0,_,_=>none
 | n2+1,v7_6,v8_6 =>
 bif (decide (v8_6 < (v7_6.length:Int))) then ((lsl v7_6 (some v8_6) none).bind fun x111 =>
 (lsl v7_6 none (some v8_6)).bind fun x115 =>
 (cpL v7_6 (some v8_6) none x115).bind fun x117 =>
 (z58_l2 n2) x117.1 (w64 (v8_6+x117.2)))
 else z58_k1 v7_6
def z58_k3 (N:Nat) (x_:(List Int)) (x1:Int × Int) (v26_2:Bool):Option (List Int) :=
 bif v26_2 then (dead 0)
 else (mkL (0:Int) (w64 (x1.2)) (w64 (x1.2))).bind fun x2 =>
 (cpL x2 none none x_).bind fun x3 =>
 z58_l2 N x3.1 x3.2
def z58 (N:Nat) (x_:(List Int)) (count_:Int):Option (List Int) :=
 bif (decide (count_ < (0:Int))) then (dead 0)
 else (z119 N (wk .u64 ((x_.length:Int))) (wk .u64 (count_))).bind fun x1 =>
 bif (decide (x1.1 > (0:Int))) then (z58_k3 N x_ x1 true)
 else z58_k3 N x_ x1 (decide (x1.2 > (9223372036854775807:Int)))
def z67_k1 (v7_1:(List Int)):Option (List Int) :=
 some v7_1
def z67_k3 (ag30:(List Int)→(List Int)→Option (List Int)) (v7_49:(List Int)) (v8_49:(List Int)):Option (List Int) :=
 (lsl v8_49 (some (1:Int)) none).bind fun x425 =>
 ag30 v7_49 x425
def z67_k5 (v7_54:(List Int)) (v8_54:(List Int)) (v30_54:Int) (ag54:(List Int)→(List Int)→Int→Option (List Int)) (v11_57:Int) (v12_57:Int):Option (List Int) :=
 (idx v8_54 (0:Int)).bind fun x451 =>
 bif (v11_57==x451) then ((idx v7_54 v12_57).bind fun x452 =>
 bif (decide (x452 < (0:Int))) then ((idx v7_54 v11_57).bind fun x453 =>
 (idx v7_54 v12_57).bind fun x454 =>
 (appL v8_54 ([v12_57]:List Int)).bind fun x455 =>
 ag54 (setL' v7_54 v12_57 (w64 (x453+(1:Int)))) x455 (w64 (v30_54+(1:Int))))
 else ag54 v7_54 v8_54 (w64 (v30_54+(1:Int))))
 else ag54 v7_54 v8_54 (w64 (v30_54+(1:Int)))
def z67_l4 (g_:T4) (back_:Bool) (ag30:(List Int)→(List Int)→Option (List Int)):Nat→(List Int)→(List Int)→Int→Option (List Int)
 | 0,_,_,_=>none
 | n14+1,v7_54,v8_54,v30_54 =>
 bif (decide (v30_54 < (g_.Edges.length:Int))) then ((idx g_.Edges v30_54).bind fun x450 =>
 bif back_ then (z67_k5 v7_54 v8_54 v30_54 (z67_l4 g_ back_ ag30 n14) x450.To x450.From)
 else z67_k5 v7_54 v8_54 v30_54 (z67_l4 g_ back_ ag30 n14) x450.From x450.To)
 else z67_k3 ag30 v7_54 v8_54
def z67_l2 (N:Nat) (g_:T4) (back_:Bool):Nat→(List Int)→(List Int)→Option (List Int)
 | 0,_,_=>none
 | n12+1,v7_30,v8_30 =>
 bif (decide ((v8_30.length:Int) > (0:Int))) then (z67_l4 g_ back_ (z67_l2 N g_ back_ n12) N v7_30 v8_30 (0:Int))
 else z67_k1 v7_30
def z67 (N:Nat) (g_:T4) (from_:Int) (back_:Bool):Option (List Int) :=
 (z58 N ([(-1:Int)]:List Int) g_.States).bind fun x1 =>
 (idx x1 from_).bind fun x2 =>
 z67_l2 N g_ back_ N (setL' x1 from_ (0:Int)) ([from_]:List Int)
def z123_k1:Option Int :=
 some (-1:Int)
def z123_l2 (s_:(List Int)) (v_:Int):Nat→Int→Option Int
 | 0,_=>none
 | n2+1,v8_3 =>
 bif (decide (v8_3 < (s_.length:Int))) then ((idx s_ v8_3).bind fun x9 =>
 bif (v_==x9) then (some v8_3)
 else (z123_l2 s_ v_ n2) (w64 (v8_3+(1:Int))))
 else z123_k1
def z123 (N:Nat) (s_:(List Int)) (v_:Int):Option Int :=
 z123_l2 s_ v_ N (0:Int)
def z66 (N:Nat) (s_:(List Int)) (v_:Int):Option Bool :=
 (z123 N s_ v_).bind fun x1 =>
 some (decide (x1≥(0:Int)))
def z22 (N:Nat) (g_:T4):Option Bool :=
 (z61 N g_).bind fun x1 =>
 bif x1 then ((z62 N g_).bind fun x2 =>
 bif x2 then ((z63 N g_.Decls).bind fun x3 =>
 bif x3 then ((z64 N g_).bind fun x4 =>
 bif x4 then ((z65 N g_).bind fun x5 =>
 bif x5 then ((z67 N g_ g_.Start false).bind fun x6 =>
 (z66 N x6 (-1:Int)).bind fun x7 =>
 bif (!x7) then ((z67 N g_ g_.End true).bind fun x8 =>
 (z66 N x8 (-1:Int)).bind fun x9 =>
 some (!x9))
 else some false)
 else some false)
 else some false)
 else some false)
 else some false)
 else some false
def z111 (N:Nat) (x_:Int):Option Bool :=
 some (x_ != x_)
def z50 (N:Nat) (x_:Int) (y_:Int):Option Int :=
 (z111 N x_).bind fun x1 =>
 (z111 N y_).bind fun x2 =>
 bif x1 then (bif x2 then (some (0:Int))
 else some (-1:Int))
 else bif x2 then (some (1:Int))
 else bif (decide (x_ < y_)) then (some (-1:Int))
 else bif (decide (x_ > y_)) then (some (1:Int))
 else some (0:Int)
def z49_k1:Option Int :=
 some (0:Int)
def z49_l2 (vals_:(List Int)):Nat→Int→Option Int
 | 0,_=>none
 | n2+1,v8_3 =>
 bif (decide (v8_3 < (vals_.length:Int))) then ((idx vals_ v8_3).bind fun x9 =>
 bif (x9 != (0:Int)) then (some x9)
 else (z49_l2 vals_ n2) (w64 (v8_3+(1:Int))))
 else z49_k1
def z49 (N:Nat) (vals_:(List Int)):Option Int :=
 z49_l2 vals_ N (0:Int)
def z48_8 (N:Nat) (i_:Int) (k_:Int) (c0_:T4):Option Int :=
 (idx c0_.Edges i_).bind fun x4 =>
 (idx c0_.Edges k_).bind fun x11 =>
 (z50 N x4.Act.To x11.Act.To).bind fun x23 =>
 (z50 N x4.Act.Label x11.Act.Label).bind fun x29 =>
 (z49 N ([x23,x29]:List Int)).bind fun x32 =>
 some x32
def z146_9_k1 (vk0_1:(List Int)):Option (List Int) :=
 some vk0_1
def z146_9_k3 (v8_12:Int) (ag12:(List Int)→Int→Option (List Int)) (vk0_19:(List Int)):Option (List Int) :=
 ag12 vk0_19 (w64 (v8_12+(1:Int)))
def z146_9_l4 (N:Nat) (a_:Int) (c0_:T4) (v8_12:Int) (ag12:(List Int)→Int→Option (List Int)):Nat→(List Int)→Int→Option (List Int)
 | 0,_,_=>none
 | n14+1,vk0_21,v9_21 =>
 bif (decide (v9_21 > a_)) then ((idx vk0_21 v9_21).bind fun x4170 =>
 (idx vk0_21 (w64 (v9_21-(1:Int)))).bind fun x4176 =>
 (z48_8 N x4170 x4176 c0_).bind fun x4179 =>
 bif (decide (x4179 < (0:Int))) then ((idx vk0_21 (w64 (v9_21-(1:Int)))).bind fun x4191 =>
 (idx vk0_21 v9_21).bind fun x4196 =>
 (idx vk0_21 v9_21).bind fun x4199 =>
 (idx (setL' vk0_21 v9_21 x4191) (w64 (v9_21-(1:Int)))).bind fun x4202 =>
 (z146_9_l4 N a_ c0_ v8_12 ag12 n14) (setL' (setL' vk0_21 v9_21 x4191) (w64 (v9_21-(1:Int))) x4196) (w64 (v9_21-(1:Int))))
 else z146_9_k3 v8_12 ag12 vk0_21)
 else z146_9_k3 v8_12 ag12 vk0_21
def z146_9_l2 (N:Nat) (a_:Int) (b_:Int) (c0_:T4):Nat→(List Int)→Int→Option (List Int)
 | 0,_,_=>none
 | n12+1,vk0_12,v8_12 =>
 bif (decide (v8_12 < b_)) then (z146_9_l4 N a_ c0_ v8_12 (z146_9_l2 N a_ b_ c0_ n12) N vk0_12 v8_12)
 else z146_9_k1 vk0_12
def z146_9 (N:Nat) (data_:(List Int)) (a_:Int) (b_:Int) (c0_:T4):Option (List Int) :=
 z146_9_l2 N a_ b_ c0_ N data_ (w64 (a_+(1:Int)))
def z183_10_k1 (vk0_1:(List Int)):Option (List Int) :=
 some vk0_1
def z183_10_l2 (a_:Int) (b_:Int) (n_:Int):Nat→(List Int)→Int→Option (List Int)
 | 0,_,_=>none
 | n2+1,vk0_3,v10_3 =>
 bif (decide (v10_3 < n_)) then ((idx vk0_3 (w64 (b_+v10_3))).bind fun x237 =>
 (idx vk0_3 (w64 (a_+v10_3))).bind fun x244 =>
 (idx vk0_3 (w64 (a_+v10_3))).bind fun x247 =>
 (idx (setL' vk0_3 (w64 (a_+v10_3)) x237) (w64 (b_+v10_3))).bind fun x250 =>
 (z183_10_l2 a_ b_ n_ n2) (setL' (setL' vk0_3 (w64 (a_+v10_3)) x237) (w64 (b_+v10_3)) x244) (w64 (v10_3+(1:Int))))
 else z183_10_k1 vk0_3
def z183_10 (N:Nat) (data_:(List Int)) (a_:Int) (b_:Int) (n_:Int) (c0_:T4):Option (List Int) :=
 z183_10_l2 a_ b_ n_ N data_ (0:Int)
def z168_11_k1 (N:Nat) (m_:Int) (c0_:T4) (vk0_1:(List Int)) (v10_1:Int):Option (List Int) :=
 (z183_10 N vk0_1 (w64 (m_-v10_1)) m_ v10_1 c0_).bind fun x9 =>
 some x9
def z168_11_l2 (N:Nat) (m_:Int) (c0_:T4):Nat→(List Int)→Int→Int→Option (List Int)
 | 0,_,_,_=>none
 | n2+1,vk0_3,v10_3,v11_3 =>
 bif (v10_3 != v11_3) then (bif (decide (v10_3 > v11_3)) then ((z183_10 N vk0_3 (w64 (m_-v10_3)) m_ v11_3 c0_).bind fun x18 =>
 (z168_11_l2 N m_ c0_ n2) x18 (w64 (v10_3-v11_3)) v11_3)
 else (z183_10 N vk0_3 (w64 (m_-v10_3)) (w64 ((w64 (m_+v11_3))-v10_3)) v10_3 c0_).bind fun x19 =>
 (z168_11_l2 N m_ c0_ n2) x19 v10_3 (w64 (v11_3-v10_3)))
 else z168_11_k1 N m_ c0_ vk0_3 v10_3
def z168_11 (N:Nat) (data_:(List Int)) (a_:Int) (m_:Int) (b_:Int) (c0_:T4):Option (List Int) :=
 z168_11_l2 N m_ c0_ N data_ (w64 (m_-a_)) (w64 (b_-m_))
def z147_12_k1 (vk0_3:(List Int)):Option (List Int) :=
 some vk0_3
def z147_12_l2 (v10_1:Int):Nat→(List Int)→Int→Option (List Int)
 | 0,_,_=>none
 | n3+1,vk0_5,v13_5 =>
 bif (decide (v13_5 < (w64 (v10_1-(1:Int))))) then ((idx vk0_5 (w64 (v13_5+(1:Int)))).bind fun x245 =>
 (idx vk0_5 v13_5).bind fun x250 =>
 (idx vk0_5 v13_5).bind fun x253 =>
 (idx (setL' vk0_5 v13_5 x245) (w64 (v13_5+(1:Int)))).bind fun x256 =>
 (z147_12_l2 v10_1 n3) (setL' (setL' vk0_5 v13_5 x245) (w64 (v13_5+(1:Int))) x250) (w64 (v13_5+(1:Int))))
 else z147_12_k1 vk0_5
def z147_12_k3 (N:Nat) (data_:(List Int)) (a_:Int) (v10_1:Int):Option (List Int) :=
 z147_12_l2 v10_1 N data_ a_
def z147_12_l4 (N:Nat) (data_:(List Int)) (a_:Int) (c0_:T4):Nat→Int→Int→Option (List Int)
 | 0,_,_=>none
 | n4+1,v10_6,v11_6 =>
 bif (decide (v10_6 < v11_6)) then ((binO .shr .u64 (wk .u64 ((w64 (v10_6+v11_6)))) (1:Int)).bind fun x319 =>
 (idx data_ (w64 (x319))).bind fun x323 =>
 (idx data_ a_).bind fun x328 =>
 (z48_8 N x323 x328 c0_).bind fun x331 =>
 bif (decide (x331 < (0:Int))) then ((z147_12_l4 N data_ a_ c0_ n4) (w64 ((w64 (x319))+(1:Int))) v11_6)
 else (z147_12_l4 N data_ a_ c0_ n4) v10_6 (w64 (x319)))
 else z147_12_k3 N data_ a_ v10_6
def z147_12_k5 (vk0_9:(List Int)):Option (List Int) :=
 some vk0_9
def z147_12_l6 (v14_7:Int):Nat→(List Int)→Int→Option (List Int)
 | 0,_,_=>none
 | n7+1,vk0_11,v17_11 =>
 bif (decide (v17_11 > v14_7)) then ((idx vk0_11 (w64 (v17_11-(1:Int)))).bind fun x582 =>
 (idx vk0_11 v17_11).bind fun x587 =>
 (idx vk0_11 v17_11).bind fun x590 =>
 (idx (setL' vk0_11 v17_11 x582) (w64 (v17_11-(1:Int)))).bind fun x593 =>
 (z147_12_l6 v14_7 n7) (setL' (setL' vk0_11 v17_11 x582) (w64 (v17_11-(1:Int))) x587) (w64 (v17_11-(1:Int))))
 else z147_12_k5 vk0_11
def z147_12_k7 (N:Nat) (data_:(List Int)) (m_:Int) (v14_7:Int):Option (List Int) :=
 z147_12_l6 v14_7 N data_ m_
def z147_12_l8 (N:Nat) (data_:(List Int)) (m_:Int) (c0_:T4):Nat→Int→Int→Option (List Int)
 | 0,_,_=>none
 | n8+1,v14_12,v15_12 =>
 bif (decide (v14_12 < v15_12)) then ((binO .shr .u64 (wk .u64 ((w64 (v14_12+v15_12)))) (1:Int)).bind fun x660 =>
 (idx data_ m_).bind fun x664 =>
 (idx data_ (w64 (x660))).bind fun x669 =>
 (z48_8 N x664 x669 c0_).bind fun x672 =>
 bif (!(decide (x672 < (0:Int)))) then ((z147_12_l8 N data_ m_ c0_ n8) (w64 ((w64 (x660))+(1:Int))) v15_12)
 else (z147_12_l8 N data_ m_ c0_ n8) v14_12 (w64 (x660)))
 else z147_12_k7 N data_ m_ v14_12
def z147_12_k9 (rc:(List Int)→Int→Int→Int→T4→Option (List Int)) (m_:Int) (b_:Int) (c0_:T4) (x676:Int) (v20_14:Int) (vk0_19:(List Int)):Option (List Int) :=
 bif (decide ((w64 (x676)) < (w64 ((w64 ((w64 (x676))+m_))-v20_14)))) then (bif (decide ((w64 ((w64 ((w64 (x676))+m_))-v20_14)) < b_)) then ((rc vk0_19 (w64 (x676)) (w64 ((w64 ((w64 (x676))+m_))-v20_14)) b_ c0_).bind fun x751 =>
 some x751)
 else some vk0_19)
 else some vk0_19
def z147_12_k10 (rc:(List Int)→Int→Int→Int→T4→Option (List Int)) (a_:Int) (m_:Int) (b_:Int) (c0_:T4) (x676:Int) (v20_14:Int) (vk0_17:(List Int)) (v199_18:Bool):Option (List Int) :=
 bif v199_18 then ((rc vk0_17 a_ v20_14 (w64 (x676)) c0_).bind fun x752 =>
 z147_12_k9 rc m_ b_ c0_ x676 v20_14 x752)
 else z147_12_k9 rc m_ b_ c0_ x676 v20_14 vk0_17
def z147_12_k11 (rc:(List Int)→Int→Int→Int→T4→Option (List Int)) (a_:Int) (m_:Int) (b_:Int) (c0_:T4) (x676:Int) (v20_14:Int) (vk0_17:(List Int)):Option (List Int) :=
 bif (decide (a_ < v20_14)) then (z147_12_k10 rc a_ m_ b_ c0_ x676 v20_14 vk0_17 (decide (v20_14 < (w64 (x676)))))
 else z147_12_k10 rc a_ m_ b_ c0_ x676 v20_14 vk0_17 false
def z147_12_k12 (N:Nat) (rc:(List Int)→Int→Int→Int→T4→Option (List Int)) (data_:(List Int)) (a_:Int) (m_:Int) (b_:Int) (c0_:T4) (x676:Int) (v20_14:Int) (v185_16:Bool):Option (List Int) :=
 bif v185_16 then ((z168_11 N data_ v20_14 m_ (w64 ((w64 ((w64 (x676))+m_))-v20_14)) c0_).bind fun x753 =>
 z147_12_k11 rc a_ m_ b_ c0_ x676 v20_14 x753)
 else z147_12_k11 rc a_ m_ b_ c0_ x676 v20_14 data_
def z147_12_k13 (N:Nat) (rc:(List Int)→Int→Int→Int→T4→Option (List Int)) (data_:(List Int)) (a_:Int) (m_:Int) (b_:Int) (c0_:T4) (x676:Int) (v20_14:Int):Option (List Int) :=
 bif (decide (v20_14 < m_)) then (z147_12_k12 N rc data_ a_ m_ b_ c0_ x676 v20_14 (decide (m_ < (w64 ((w64 ((w64 (x676))+m_))-v20_14)))))
 else z147_12_k12 N rc data_ a_ m_ b_ c0_ x676 v20_14 false
def z147_12_l14 (N:Nat) (rc:(List Int)→Int→Int→Int→T4→Option (List Int)) (data_:(List Int)) (a_:Int) (m_:Int) (b_:Int) (c0_:T4) (x676:Int):Nat→Int→Int→Option (List Int)
 | 0,_,_=>none
 | n10+1,v20_20,v21_20 =>
 bif (decide (v20_20 < v21_20)) then ((binO .shr .u64 (wk .u64 ((w64 (v20_20+v21_20)))) (1:Int)).bind fun x826 =>
 (idx data_ (w64 ((w64 ((w64 ((w64 (x676))+m_))-(1:Int)))-(w64 (x826))))).bind fun x832 =>
 (idx data_ (w64 (x826))).bind fun x837 =>
 (z48_8 N x832 x837 c0_).bind fun x840 =>
 bif (!(decide (x840 < (0:Int)))) then ((z147_12_l14 N rc data_ a_ m_ b_ c0_ x676 n10) (w64 ((w64 (x826))+(1:Int))) v21_20)
 else (z147_12_l14 N rc data_ a_ m_ b_ c0_ x676 n10) v20_20 (w64 (x826)))
 else z147_12_k13 N rc data_ a_ m_ b_ c0_ x676 v20_20
def z147_12_k15 (N:Nat) (rc:(List Int)→Int→Int→Int→T4→Option (List Int)) (data_:(List Int)) (a_:Int) (m_:Int) (b_:Int) (c0_:T4) (x676:Int) (v20_13:Int) (v21_13:Int):Option (List Int) :=
 z147_12_l14 N rc data_ a_ m_ b_ c0_ x676 N v20_13 v21_13
def z147_12_b (N:Nat) (rc:(List Int)→Int→Int→Int→T4→Option (List Int)) (data_:(List Int)) (a_:Int) (m_:Int) (b_:Int) (c0_:T4):Option (List Int) :=
 bif ((w64 (m_-a_))==(1:Int)) then (z147_12_l4 N data_ a_ c0_ N m_ b_)
 else bif ((w64 (b_-m_))==(1:Int)) then (z147_12_l8 N data_ m_ c0_ N a_ m_)
 else (binO .shr .u64 (wk .u64 ((w64 (a_+b_)))) (1:Int)).bind fun x676 =>
 bif (decide (m_ > (w64 (x676)))) then (z147_12_k15 N rc data_ a_ m_ b_ c0_ x676 (w64 ((w64 ((w64 (x676))+m_))-b_)) (w64 (x676)))
 else z147_12_k15 N rc data_ a_ m_ b_ c0_ x676 a_ m_
def z147_12_r:Nat→(List Int)→Int→Int→Int→T4→Option (List Int)
 | 0,_,_,_,_,_=>none
 | N+1,a0,a1,a2,a3,a4=>z147_12_b N (z147_12_r N) a0 a1 a2 a3 a4
def z147_12 (N:Nat) (data_:(List Int)) (a_:Int) (m_:Int) (b_:Int) (c0_:T4):Option (List Int):=z147_12_r N data_ a_ m_ b_ c0_
def z110_13_k1 (vk0_3:(List Int)):Option (List Int) :=
 some vk0_3
def z110_13_k3 (N:Nat) (n_:Int) (c0_:T4) (v6_14:Int) (ag14:(List Int)→Int→Option (List Int)) (vk0_21:(List Int)) (v7_21:Int):Option (List Int) :=
 bif (decide ((w64 (v7_21+v6_14)) < n_)) then ((z147_12 N vk0_21 v7_21 (w64 (v7_21+v6_14)) n_ c0_).bind fun x83 =>
 ag14 x83 (w64 (v6_14 * (2:Int))))
 else ag14 vk0_21 (w64 (v6_14 * (2:Int)))
def z110_13_l4 (N:Nat) (n_:Int) (c0_:T4) (v6_14:Int) (ag14:(List Int)→Int→Option (List Int)):Nat→(List Int)→Int→Int→Option (List Int)
 | 0,_,_,_=>none
 | n15+1,vk0_23,v7_23,v8_23 =>
 bif (decide (v8_23≤n_)) then ((z147_12 N vk0_23 v7_23 (w64 (v7_23+v6_14)) v8_23 c0_).bind fun x88 =>
 (z110_13_l4 N n_ c0_ v6_14 ag14 n15) x88 v8_23 (w64 (v8_23+(w64 ((2:Int) * v6_14)))))
 else z110_13_k3 N n_ c0_ v6_14 ag14 vk0_23 v7_23
def z110_13_l2 (N:Nat) (n_:Int) (c0_:T4):Nat→(List Int)→Int→Option (List Int)
 | 0,_,_=>none
 | n13+1,vk0_14,v6_14 =>
 bif (decide (v6_14 < n_)) then (z110_13_l4 N n_ c0_ v6_14 (z110_13_l2 N n_ c0_ n13) N vk0_14 (0:Int) (w64 ((2:Int) * v6_14)))
 else z110_13_k1 vk0_14
def z110_13_k5 (N:Nat) (n_:Int) (c0_:T4) (vk0_1:(List Int)) (v7_1:Int):Option (List Int) :=
 (z146_9 N vk0_1 v7_1 n_ c0_).bind fun x5 =>
 z110_13_l2 N n_ c0_ N x5 (20:Int)
def z110_13_l6 (N:Nat) (n_:Int) (c0_:T4):Nat→(List Int)→Int→Int→Option (List Int)
 | 0,_,_,_=>none
 | n16+1,vk0_24,v7_24,v8_24 =>
 bif (decide (v8_24≤n_)) then ((z146_9 N vk0_24 v7_24 v8_24 c0_).bind fun x93 =>
 (z110_13_l6 N n_ c0_ n16) x93 v8_24 (w64 (v8_24+(20:Int))))
 else z110_13_k5 N n_ c0_ vk0_24 v7_24
def z110_13 (N:Nat) (data_:(List Int)) (n_:Int) (c0_:T4):Option (List Int) :=
 z110_13_l6 N n_ c0_ N data_ (0:Int) (20:Int)
def z47_14 (N:Nat) (x_:(List Int)) (c0_:T4):Option (List Int) :=
 (z110_13 N x_ (x_.length:Int) c0_).bind fun x1 =>
 some x1
def z18_k1 (N:Nat) (g_:T4) (v5_1:(List Int)):Option (List Int) :=
 (z47_14 N v5_1 g_).bind fun x9 =>
 some x9
def z18_l2 (N:Nat) (g_:T4) (state_:Int):Nat→(List Int)→Int→Option (List Int)
 | 0,_,_=>none
 | n2+1,v5_3,v11_3 =>
 bif (decide (v11_3 < (g_.Edges.length:Int))) then ((idx g_.Edges v11_3).bind fun x18 =>
 bif (x18.From==state_) then ((appL v5_3 ([v11_3]:List Int)).bind fun x19 =>
 (z18_l2 N g_ state_ n2) x19 (w64 (v11_3+(1:Int))))
 else (z18_l2 N g_ state_ n2) v5_3 (w64 (v11_3+(1:Int))))
 else z18_k1 N g_ v5_3
def z18 (N:Nat) (g_:T4) (state_:Int):Option (List Int) :=
 z18_l2 N g_ state_ N ([]:List Int) (0:Int)
def z45 (N:Nat) (s_:(List T6)):Option (List T6) :=
 (appL ([]:List T6) s_).bind fun x1 =>
 some x1
def z14_k1 (v6_1:(List (List T6))):Option ((List (List T6)) × Int) :=
 some (v6_1,(0:Int))
def z14_k3 (v8_12:Int) (ag12:(List (List T6))→(List Int)→Int→Option ((List (List T6)) × Int)) (v6_19:(List (List T6))) (v7_19:(List Int)):Option ((List (List T6)) × Int) :=
 bif (decide ((v6_19.length:Int) > (3000:Int))) then (some (([]:List (List T6)),(6:Int)))
 else ag12 v6_19 v7_19 (w64 (v8_12+(1:Int)))
def z14_l4 (N:Nat) (g_:T4) (v8_12:Int) (ag12:(List (List T6))→(List Int)→Int→Option ((List (List T6)) × Int)) (x1722:(List Int)):Nat→(List (List T6))→(List Int)→Int→Option ((List (List T6)) × Int)
 | 0,_,_,_=>none
 | n14+1,v6_21,v7_21,v44_21 =>
 bif (decide (v44_21 < (x1722.length:Int))) then ((idx x1722 v44_21).bind fun x1926 =>
 (idx v6_21 v8_12).bind fun x1930 =>
 (z45 N x1930).bind fun x1933 =>
 (idx g_.Edges x1926).bind fun x1938 =>
 (appL x1933 ([x1938.Act]:List T6)).bind fun x1943 =>
 (appL v6_21 ([x1943]:List (List T6))).bind fun x1946 =>
 (idx g_.Edges x1926).bind fun x1949 =>
 (appL v7_21 ([x1949.To]:List Int)).bind fun x1950 =>
 (z14_l4 N g_ v8_12 ag12 x1722 n14) x1946 x1950 (w64 (v44_21+(1:Int))))
 else z14_k3 v8_12 ag12 v6_21 v7_21
def z14_l2 (N:Nat) (g_:T4) (n_:Int):Nat→(List (List T6))→(List Int)→Int→Option ((List (List T6)) × Int)
 | 0,_,_,_=>none
 | n12+1,v6_12,v7_12,v8_12 =>
 bif (decide (v8_12 < (v6_12.length:Int))) then ((idx v6_12 v8_12).bind fun x1715 =>
 bif ((x1715.length:Int)==n_) then ((z14_l2 N g_ n_ n12) v6_12 v7_12 (w64 (v8_12+(1:Int))))
 else (idx v7_12 v8_12).bind fun x1719 =>
 (z18 N g_ x1719).bind fun x1722 =>
 z14_l4 N g_ v8_12 (z14_l2 N g_ n_ n12) x1722 N v6_12 v7_12 (0:Int))
 else z14_k1 v6_12
def z14 (N:Nat) (g_:T4) (n_:Int):Option ((List (List T6)) × Int) :=
 (z22 N g_).bind fun x1 =>
 bif (!x1) then (some (([]:List (List T6)),(1:Int)))
 else bif (decide (n_ < (0:Int))) then (some (([]:List (List T6)),(2:Int)))
 else bif (decide (n_ > (12:Int))) then (some (([]:List (List T6)),(2:Int)))
 else z14_l2 N g_ n_ N ([([]:List T6)]:List (List T6)) ([g_.Start]:List Int) (0:Int)
def z17_k1:Option (Int × Bool) :=
 some ((0:Int),false)
def z17_l2 (g_:T4) (state_:Int) (act_:T6):Nat→Int→Option (Int × Bool)
 | 0,_=>none
 | n2+1,v13_3 =>
 bif (decide (v13_3 < (g_.Edges.length:Int))) then ((idx g_.Edges v13_3).bind fun x9 =>
 bif (x9.From==state_) then (bif ((x9.Act.From==act_.From) && ((x9.Act.To==act_.To) && ((x9.Act.Label==act_.Label) && true))) then (some (x9.To,true))
 else (z17_l2 g_ state_ act_ n2) (w64 (v13_3+(1:Int))))
 else (z17_l2 g_ state_ act_ n2) (w64 (v13_3+(1:Int))))
 else z17_k1
def z17 (N:Nat) (g_:T4) (state_:Int) (act_:T6):Option (Int × Bool) :=
 z17_l2 g_ state_ act_ N (0:Int)
def z68_k1:Option Bool :=
 some true
def z68_l2 (s1_:(List ByteArray)) (s2_:(List ByteArray)):Nat→Int→Option Bool
 | 0,_=>none
 | n2+1,v13_3 =>
 bif (decide (v13_3 < (s1_.length:Int))) then ((idx s1_ v13_3).bind fun x35 =>
 (idx s2_ v13_3).bind fun x36 =>
 bif (!(x35.toList==x36.toList)) then (some false)
 else (z68_l2 s1_ s2_ n2) (w64 (v13_3+(1:Int))))
 else z68_k1
def z68 (N:Nat) (s1_:(List ByteArray)) (s2_:(List ByteArray)):Option Bool :=
 bif ((s1_.length:Int) != (s2_.length:Int)) then (some false)
 else z68_l2 s1_ s2_ N (0:Int)
def z124_k1:Option Bool :=
 some true
def z124_l2 (s1_:(List T3)) (s2_:(List T3)):Nat→Int→Option Bool
 | 0,_=>none
 | n2+1,v13_3 =>
 bif (decide (v13_3 < (s1_.length:Int))) then ((idx s1_ v13_3).bind fun x35 =>
 (idx s2_ v13_3).bind fun x36 =>
 bif (!((x35.Name.toList==x36.Name.toList) && (((x35.Sort'.Kind==x36.Sort'.Kind) && ((x35.Sort'.Lo==x36.Sort'.Lo) && ((x35.Sort'.Hi==x36.Sort'.Hi) && true))) && true))) then (some false)
 else (z124_l2 s1_ s2_ n2) (w64 (v13_3+(1:Int))))
 else z124_k1
def z124 (N:Nat) (s1_:(List T3)) (s2_:(List T3)):Option Bool :=
 bif ((s1_.length:Int) != (s2_.length:Int)) then (some false)
 else z124_l2 s1_ s2_ N (0:Int)
def z125_k1:Option Bool :=
 some true
def z125_l2 (s1_:(List T1)) (s2_:(List T1)):Nat→Int→Option Bool
 | 0,_=>none
 | n2+1,v13_3 =>
 bif (decide (v13_3 < (s1_.length:Int))) then ((idx s1_ v13_3).bind fun x35 =>
 (idx s2_ v13_3).bind fun x36 =>
 bif (!((x35.X==x36.X) && ((x35.Y==x36.Y) && ((x35.C==x36.C) && true)))) then (some false)
 else (z125_l2 s1_ s2_ n2) (w64 (v13_3+(1:Int))))
 else z125_k1
def z125 (N:Nat) (s1_:(List T1)) (s2_:(List T1)):Option Bool :=
 bif ((s1_.length:Int) != (s2_.length:Int)) then (some false)
 else z125_l2 s1_ s2_ N (0:Int)
def z126_k1:Option Bool :=
 some true
def z126_l2 (s1_:(List (Int × Int))) (s2_:(List (Int × Int))):Nat→Int→Option Bool
 | 0,_=>none
 | n2+1,v13_3 =>
 bif (decide (v13_3 < (s1_.length:Int))) then ((idx s1_ v13_3).bind fun x35 =>
 (idx s2_ v13_3).bind fun x36 =>
 bif (!((x35.1==x36.1) && ((x35.2==x36.2) && true))) then (some false)
 else (z126_l2 s1_ s2_ n2) (w64 (v13_3+(1:Int))))
 else z126_k1
def z126 (N:Nat) (s1_:(List (Int × Int))) (s2_:(List (Int × Int))):Option Bool :=
 bif ((s1_.length:Int) != (s2_.length:Int)) then (some false)
 else z126_l2 s1_ s2_ N (0:Int)
def z70 (N:Nat) (a_:T0) (b_:T0):Option Bool :=
 bif (a_.Name.toList==b_.Name.toList) then (bif (a_.First==b_.First) then ((z124 N a_.Fields b_.Fields).bind fun x1 =>
 bif x1 then ((z125 N a_.Guard.Diffs b_.Guard.Diffs).bind fun x2 =>
 bif x2 then ((z126 N a_.Guard.Equals b_.Guard.Equals).bind fun x3 =>
 some x3)
 else some false)
 else some false)
 else some false)
 else some false
def z69_15_k1:Option Bool :=
 some true
def z69_15_l2 (N:Nat) (s1_:(List T0)) (s2_:(List T0)):Nat→Int→Option Bool
 | 0,_=>none
 | n2+1,v17_3 =>
 bif (decide (v17_3 < (s1_.length:Int))) then ((idx s1_ v17_3).bind fun x25 =>
 (idx s2_ v17_3).bind fun x26 =>
 (z70 N x25 x26).bind fun x27 =>
 bif (!x27) then (some false)
 else (z69_15_l2 N s1_ s2_ n2) (w64 (v17_3+(1:Int))))
 else z69_15_k1
def z69_15 (N:Nat) (s1_:(List T0)) (s2_:(List T0)):Option Bool :=
 bif ((s1_.length:Int) != (s2_.length:Int)) then (some false)
 else z69_15_l2 N s1_ s2_ N (0:Int)
def z71_k1:Option Bool :=
 some true
def z71_l2 (s1_:(List T2)) (s2_:(List T2)):Nat→Int→Option Bool
 | 0,_=>none
 | n2+1,v13_3 =>
 bif (decide (v13_3 < (s1_.length:Int))) then ((idx s1_ v13_3).bind fun x35 =>
 (idx s2_ v13_3).bind fun x36 =>
 bif (!((x35.From==x36.From) && (((x35.Act.From==x36.Act.From) && ((x35.Act.To==x36.Act.To) && ((x35.Act.Label==x36.Act.Label) && true))) && ((x35.To==x36.To) && ((x35.Again==x36.Again) && true))))) then (some false)
 else (z71_l2 s1_ s2_ n2) (w64 (v13_3+(1:Int))))
 else z71_k1
def z71 (N:Nat) (s1_:(List T2)) (s2_:(List T2)):Option Bool :=
 bif ((s1_.length:Int) != (s2_.length:Int)) then (some false)
 else z71_l2 s1_ s2_ N (0:Int)
def z72_k1:Option Bool :=
 some true
def z72_l2 (s1_:(List T8)) (s2_:(List T8)):Nat→Int→Option Bool
 | 0,_=>none
 | n2+1,v13_3 =>
 bif (decide (v13_3 < (s1_.length:Int))) then ((idx s1_ v13_3).bind fun x35 =>
 (idx s2_ v13_3).bind fun x36 =>
 bif (!((x35.State==x36.State) && ((x35.Ticks==x36.Ticks) && ((x35.Else==x36.Else) && true)))) then (some false)
 else (z72_l2 s1_ s2_ n2) (w64 (v13_3+(1:Int))))
 else z72_k1
def z72 (N:Nat) (s1_:(List T8)) (s2_:(List T8)):Option Bool :=
 bif ((s1_.length:Int) != (s2_.length:Int)) then (some false)
 else z72_l2 s1_ s2_ N (0:Int)
def z23 (N:Nat) (a_:T4) (b_:T4):Option Bool :=
 bif (a_.Name.toList==b_.Name.toList) then ((z68 N a_.Roles b_.Roles).bind fun x1 =>
 bif x1 then ((z69_15 N a_.Decls b_.Decls).bind fun x2 =>
 bif x2 then (bif (a_.States==b_.States) then (bif (a_.Start==b_.Start) then (bif (a_.End==b_.End) then ((z71 N a_.Edges b_.Edges).bind fun x3 =>
 bif x3 then ((z72 N a_.Timeouts b_.Timeouts).bind fun x4 =>
 some x4)
 else some false)
 else some false)
 else some false)
 else some false)
 else some false)
 else some false)
 else some false
def z78_16 (N:Nat) (d_:T0) (c0_:ByteArray):Option Bool :=
 some (d_.Name.toList==c0_.toList)
def z77_17_k1:Option Int :=
 some (-1:Int)
def z77_17_l2 (N:Nat) (s_:(List T0)) (c0_:ByteArray):Nat→Int→Option Int
 | 0,_=>none
 | n2+1,v8_3 =>
 bif (decide (v8_3 < (s_.length:Int))) then ((idx s_ v8_3).bind fun x17 =>
 (z78_16 N x17 c0_).bind fun x18 =>
 bif x18 then (some v8_3)
 else (z77_17_l2 N s_ c0_ n2) (w64 (v8_3+(1:Int))))
 else z77_17_k1
def z77_17 (N:Nat) (s_:(List T0)) (c0_:ByteArray):Option Int :=
 z77_17_l2 N s_ c0_ N (0:Int)
def z31 (N:Nat) (g_:T4) (name_:ByteArray):Option Int :=
 (z77_17 N g_.Decls name_).bind fun x1 =>
 some x1
def z115 (N:Nat) (s_:(List ByteArray)):Option (List ByteArray) :=
 (appL ([]:List ByteArray) s_).bind fun x1 =>
 some x1
def z116 (N:Nat) (s_:(List T3)):Option (List T3) :=
 (appL ([]:List T3) s_).bind fun x1 =>
 some x1
def z117 (N:Nat) (s_:(List T1)):Option (List T1) :=
 (appL ([]:List T1) s_).bind fun x1 =>
 some x1
def z118 (N:Nat) (s_:(List (Int × Int))):Option (List (Int × Int)) :=
 (appL ([]:List (Int × Int)) s_).bind fun x1 =>
 some x1
def z60_18 (N:Nat) (t_:T8) (c0_:Int):Option Bool :=
 some (t_.State==c0_)
def z59_19_k1:Option Int :=
 some (-1:Int)
def z59_19_l2 (N:Nat) (s_:(List T8)) (c0_:Int):Nat→Int→Option Int
 | 0,_=>none
 | n2+1,v8_3 =>
 bif (decide (v8_3 < (s_.length:Int))) then ((idx s_ v8_3).bind fun x17 =>
 (z60_18 N x17 c0_).bind fun x18 =>
 bif x18 then (some v8_3)
 else (z59_19_l2 N s_ c0_ n2) (w64 (v8_3+(1:Int))))
 else z59_19_k1
def z59_19 (N:Nat) (s_:(List T8)) (c0_:Int):Option Int :=
 z59_19_l2 N s_ c0_ N (0:Int)
def z57_k1 (g_:T4) (x5:(List ByteArray)) (vb3_7_2_1:(List T0)):Option T4 :=
 some (⟨g_.Name,x5,vb3_7_2_1,(0:Int),(0:Int),(0:Int),([]:List T2),([]:List T8)⟩:T4)
def z57_l2 (N:Nat) (g_:T4) (x5:(List ByteArray)):Nat→(List T0)→Int→Option T4
 | 0,_,_=>none
 | n2+1,vb3_7_2_3,v15_3 =>
 bif (decide (v15_3 < (g_.Decls.length:Int))) then ((idx g_.Decls v15_3).bind fun x138 =>
 (z116 N x138.Fields).bind fun x139 =>
 (z117 N x138.Guard.Diffs).bind fun x143 =>
 (z118 N x138.Guard.Equals).bind fun x148 =>
 (appL vb3_7_2_3 ([(⟨x138.Name,x139,x138.First,(⟨x143,x148⟩:T5)⟩:T0)]:List T0)).bind fun x153 =>
 (z57_l2 N g_ x5 n2) x153 (w64 (v15_3+(1:Int))))
 else z57_k1 g_ x5 vb3_7_2_3
def z57 (N:Nat) (g_:T4):Option T4 :=
 (z115 N g_.Roles).bind fun x5 =>
 z57_l2 N g_ x5 N ([]:List T0) (0:Int)
def z21_k1 (g_:T4) (x2:T4) (vb4_10_3_1:Int) (vb4_10_6_1:(List T2)) (vb4_10_7_1:(List T8)) (v5_1:(List Int)):Option (T4 × Int) :=
 (idx v5_1 g_.End).bind fun x2225 =>
 some ((⟨x2.Name,x2.Roles,x2.Decls,vb4_10_3_1,x2.Start,x2225,vb4_10_6_1,vb4_10_7_1⟩:T4),(0:Int))
def z21_k3 (vb4_10_3_66:Int) (ag66:Int→(List T2)→(List T8)→(List Int)→(List Int)→Option (T4 × Int)) (vb4_10_6_109:(List T2)) (vb4_10_7_109:(List T8)) (v5_109:(List Int)) (v6_109:(List Int)):Option (T4 × Int) :=
 ag66 (w64 (vb4_10_3_66+(1:Int))) vb4_10_6_109 vb4_10_7_109 v5_109 v6_109
def z21_k5 (vb4_10_3_66:Int) (vb4_10_6_120:(List T2)) (v51_120:Int) (ag120:(List T2)→(List T8)→(List Int)→(List Int)→Int→Option (T4 × Int)) (x5071:T2) (v5_127:(List Int)) (v6_127:(List Int)) (vb4_10_7_129:(List T8)):Option (T4 × Int) :=
 (idx v5_127 x5071.To).bind fun x5105 =>
 (appL vb4_10_6_120 ([(⟨vb4_10_3_66,x5071.Act,x5105,x5071.Again⟩:T2)]:List T2)).bind fun x5112 =>
 ag120 x5112 vb4_10_7_129 v5_127 v6_127 (w64 (v51_120+(1:Int)))
def z21_k6 (g_:T4) (vb4_10_3_66:Int) (x4516:Int) (vb4_10_6_120:(List T2)) (vb4_10_7_120:(List T8)) (v51_120:Int) (ag120:(List T2)→(List T8)→(List Int)→(List Int)→Int→Option (T4 × Int)) (x5071:T2) (v5_127:(List Int)) (v6_127:(List Int)) (v88_128:Bool):Option (T4 × Int) :=
 bif v88_128 then ((idx g_.Timeouts x4516).bind fun x5123 =>
 (appL vb4_10_7_120 ([(⟨vb4_10_3_66,x5123.Ticks,(vb4_10_6_120.length:Int)⟩:T8)]:List T8)).bind fun x5132 =>
 z21_k5 vb4_10_3_66 vb4_10_6_120 v51_120 ag120 x5071 v5_127 v6_127 x5132)
 else z21_k5 vb4_10_3_66 vb4_10_6_120 v51_120 ag120 x5071 v5_127 v6_127 vb4_10_7_120
def z21_k7 (g_:T4) (vb4_10_3_66:Int) (x4516:Int) (vb4_10_6_120:(List T2)) (vb4_10_7_120:(List T8)) (v51_120:Int) (ag120:(List T2)→(List T8)→(List Int)→(List Int)→Int→Option (T4 × Int)) (x5070:Int) (x5071:T2) (v5_127:(List Int)) (v6_127:(List Int)):Option (T4 × Int) :=
 bif (decide (x4516≥(0:Int))) then ((idx g_.Timeouts x4516).bind fun x5136 =>
 z21_k6 g_ vb4_10_3_66 x4516 vb4_10_6_120 vb4_10_7_120 v51_120 ag120 x5071 v5_127 v6_127 (x5136.Else==x5070))
 else z21_k6 g_ vb4_10_3_66 x4516 vb4_10_6_120 vb4_10_7_120 v51_120 ag120 x5071 v5_127 v6_127 false
def z21_l4 (g_:T4) (vb4_10_3_66:Int) (ag66:Int→(List T2)→(List T8)→(List Int)→(List Int)→Option (T4 × Int)) (x4516:Int) (x4517:(List Int)):Nat→(List T2)→(List T8)→(List Int)→(List Int)→Int→Option (T4 × Int)
 | 0,_,_,_,_,_=>none
 | n14+1,vb4_10_6_120,vb4_10_7_120,v5_120,v6_120,v51_120 =>
 bif (decide (v51_120 < (x4517.length:Int))) then ((idx x4517 v51_120).bind fun x5070 =>
 (idx g_.Edges x5070).bind fun x5071 =>
 (idx v5_120 x5071.To).bind fun x5072 =>
 bif (decide (x5072 < (0:Int))) then ((idx v5_120 x5071.To).bind fun x5137 =>
 (appL v6_120 ([x5071.To]:List Int)).bind fun x5138 =>
 z21_k7 g_ vb4_10_3_66 x4516 vb4_10_6_120 vb4_10_7_120 v51_120 (z21_l4 g_ vb4_10_3_66 ag66 x4516 x4517 n14) x5070 x5071 (setL' v5_120 x5071.To (v6_120.length:Int)) x5138)
 else z21_k7 g_ vb4_10_3_66 x4516 vb4_10_6_120 vb4_10_7_120 v51_120 (z21_l4 g_ vb4_10_3_66 ag66 x4516 x4517 n14) x5070 x5071 v5_120 v6_120)
 else z21_k3 vb4_10_3_66 ag66 vb4_10_6_120 vb4_10_7_120 v5_120 v6_120
def z21_l2 (N:Nat) (g_:T4) (x2:T4):Nat→Int→(List T2)→(List T8)→(List Int)→(List Int)→Option (T4 × Int)
 | 0,_,_,_,_,_=>none
 | n12+1,vb4_10_3_66,vb4_10_6_66,vb4_10_7_66,v5_66,v6_66 =>
 bif (decide (vb4_10_3_66 < (v6_66.length:Int))) then ((idx v6_66 vb4_10_3_66).bind fun x4515 =>
 (z59_19 N g_.Timeouts x4515).bind fun x4516 =>
 (z18 N g_ x4515).bind fun x4517 =>
 z21_l4 g_ vb4_10_3_66 (z21_l2 N g_ x2 n12) x4516 x4517 N vb4_10_6_66 vb4_10_7_66 v5_66 v6_66 (0:Int))
 else z21_k1 g_ x2 vb4_10_3_66 vb4_10_6_66 vb4_10_7_66 v5_66
def z21 (N:Nat) (g_:T4):Option (T4 × Int) :=
 (z22 N g_).bind fun x1 =>
 bif (!x1) then (some ((⟨(str []),([]:List ByteArray),([]:List T0),(0:Int),(0:Int),(0:Int),([]:List T2),([]:List T8)⟩:T4),(1:Int)))
 else (z57 N g_).bind fun x2 =>
 (z58 N ([(-1:Int)]:List Int) g_.States).bind fun x3 =>
 (idx x3 g_.Start).bind fun x4 =>
 z21_l2 N g_ x2 N x2.States x2.Edges x2.Timeouts (setL' x3 g_.Start (0:Int)) ([g_.Start]:List Int)
def z82_k1 (v0_1:(List Int)) (v5_1:Int):Option (List Int) :=
 (appL v0_1 ([(wk .u8 (v5_1))]:List Int)).bind fun x16 =>
 some x16
def z82_l2:Nat→(List Int)→Int→Option (List Int)
 | 0,_,_=>none
 | n2+1,v0_3,v5_3 =>
 bif (decide (v5_3≥(128:Int))) then ((binO .or .u8 (wk .u8 (v5_3)) (128:Int)).bind fun x29 =>
 (appL v0_3 ([x29]:List Int)).bind fun x30 =>
 (binO .shr .u64 v5_3 (7:Int)).bind fun x31 =>
 (z82_l2 n2) x30 x31)
 else z82_k1 v0_3 v5_3
def z82 (N:Nat) (b_:(List Int)) (n_:Int):Option (List Int) :=
 (binO .shl .u64 (wk .u64 (n_)) (1:Int)).bind fun x1 =>
 (binO .shr .i64 n_ (63:Int)).bind fun x2 =>
 (binO .xor .u64 x1 (wk .u64 (x2))).bind fun x3 =>
 z82_l2 N b_ x3
def z83 (N:Nat) (b_:(List Int)) (s_:ByteArray):Option (List Int) :=
 (z82 N b_ (s_.size:Int)).bind fun x1 =>
 (appL x1 (bytesL s_)).bind fun x2 =>
 some x2
def z85_k1 (v0_1:(List Int)):Option (List Int) :=
 some v0_1
def z85_l2 (N:Nat) (l_:(List Int)):Nat→(List Int)→Int→Option (List Int)
 | 0,_,_=>none
 | n2+1,v0_3,v9_3 =>
 bif (decide (v9_3 < (l_.length:Int))) then ((idx l_ v9_3).bind fun x17 =>
 (z82 N v0_3 x17).bind fun x18 =>
 (z85_l2 N l_ n2) x18 (w64 (v9_3+(1:Int))))
 else z85_k1 v0_3
def z85 (N:Nat) (b_:(List Int)) (l_:(List Int)):Option (List Int) :=
 z85_l2 N l_ N b_ (0:Int)
def z84_k1 (v0_5:(List Int)):Option (List Int) :=
 some v0_5
def z84_l2 (N:Nat) (d_:T0):Nat→(List Int)→Int→Option (List Int)
 | 0,_,_=>none
 | n4+1,v0_7,v79_7 =>
 bif (decide (v79_7 < (d_.Guard.Equals.length:Int))) then ((idx d_.Guard.Equals v79_7).bind fun x114 =>
 (z85 N v0_7 ([x114.1,x114.2]:List Int)).bind fun x115 =>
 (z84_l2 N d_ n4) x115 (w64 (v79_7+(1:Int))))
 else z84_k1 v0_7
def z84_k3 (N:Nat) (d_:T0) (v0_3:(List Int)):Option (List Int) :=
 (z82 N v0_3 (d_.Guard.Equals.length:Int)).bind fun x97 =>
 z84_l2 N d_ N x97 (0:Int)
def z84_l4 (N:Nat) (d_:T0):Nat→(List Int)→Int→Option (List Int)
 | 0,_,_=>none
 | n5+1,v0_8,v55_8 =>
 bif (decide (v55_8 < (d_.Guard.Diffs.length:Int))) then ((idx d_.Guard.Diffs v55_8).bind fun x124 =>
 (z85 N v0_8 ([x124.X,x124.Y,x124.C]:List Int)).bind fun x125 =>
 (z84_l4 N d_ n5) x125 (w64 (v55_8+(1:Int))))
 else z84_k3 N d_ v0_8
def z84_k5 (N:Nat) (d_:T0) (v0_1:(List Int)):Option (List Int) :=
 (z85 N v0_1 ([d_.First,(d_.Guard.Diffs.length:Int)]:List Int)).bind fun x88 =>
 z84_l4 N d_ N x88 (0:Int)
def z84_l6 (N:Nat) (d_:T0):Nat→(List Int)→Int→Option (List Int)
 | 0,_,_=>none
 | n6+1,v0_9,v22_9 =>
 bif (decide (v22_9 < (d_.Fields.length:Int))) then ((idx d_.Fields v22_9).bind fun x202 =>
 (z83 N v0_9 x202.Name).bind fun x206 =>
 (z85 N x206 ([x202.Sort'.Kind,x202.Sort'.Lo,x202.Sort'.Hi]:List Int)).bind fun x218 =>
 (z84_l6 N d_ n6) x218 (w64 (v22_9+(1:Int))))
 else z84_k5 N d_ v0_9
def z84 (N:Nat) (b_:(List Int)) (d_:T0):Option (List Int) :=
 (z83 N b_ d_.Name).bind fun x4 =>
 (z82 N x4 (d_.Fields.length:Int)).bind fun x9 =>
 z84_l6 N d_ N x9 (0:Int)
def z86 (N:Nat) (b_:(List Int)) (v_:Bool):Option (List Int) :=
 bif v_ then ((appL b_ ([(1:Int)]:List Int)).bind fun x1 =>
 some x1)
 else (appL b_ ([(0:Int)]:List Int)).bind fun x2 =>
 some x2
def z37_k1 (v3_7:(List Int)):Option (List Int) :=
 some v3_7
def z37_l2 (N:Nat) (g_:T4):Nat→(List Int)→Int→Option (List Int)
 | 0,_,_=>none
 | n5+1,v3_9,v96_9 =>
 bif (decide (v96_9 < (g_.Timeouts.length:Int))) then ((idx g_.Timeouts v96_9).bind fun x139 =>
 (z85 N v3_9 ([x139.State,x139.Ticks,x139.Else]:List Int)).bind fun x140 =>
 (z37_l2 N g_ n5) x140 (w64 (v96_9+(1:Int))))
 else z37_k1 v3_9
def z37_k3 (N:Nat) (g_:T4) (v3_5:(List Int)):Option (List Int) :=
 (z82 N v3_5 (g_.Timeouts.length:Int)).bind fun x122 =>
 z37_l2 N g_ N x122 (0:Int)
def z37_l4 (N:Nat) (g_:T4):Nat→(List Int)→Int→Option (List Int)
 | 0,_,_=>none
 | n6+1,v3_10,v64_10 =>
 bif (decide (v64_10 < (g_.Edges.length:Int))) then ((idx g_.Edges v64_10).bind fun x233 =>
 (z85 N v3_10 ([x233.From,x233.Act.From,x233.Act.To,x233.Act.Label,x233.To]:List Int)).bind fun x249 =>
 (z86 N x249 x233.Again).bind fun x253 =>
 (z37_l4 N g_ n6) x253 (w64 (v64_10+(1:Int))))
 else z37_k3 N g_ v3_10
def z37_k5 (N:Nat) (g_:T4) (v3_3:(List Int)):Option (List Int) :=
 (z85 N v3_3 ([g_.States,g_.Start,g_.End,(g_.Edges.length:Int)]:List Int)).bind fun x29 =>
 z37_l4 N g_ N x29 (0:Int)
def z37_l6 (N:Nat) (g_:T4):Nat→(List Int)→Int→Option (List Int)
 | 0,_,_=>none
 | n7+1,v3_11,v41_11 =>
 bif (decide (v41_11 < (g_.Decls.length:Int))) then ((idx g_.Decls v41_11).bind fun x264 =>
 (z84 N v3_11 x264).bind fun x265 =>
 (z37_l6 N g_ n7) x265 (w64 (v41_11+(1:Int))))
 else z37_k5 N g_ v3_11
def z37_k7 (N:Nat) (g_:T4) (v3_1:(List Int)):Option (List Int) :=
 (z82 N v3_1 (g_.Decls.length:Int)).bind fun x20 =>
 z37_l6 N g_ N x20 (0:Int)
def z37_l8 (N:Nat) (g_:T4):Nat→(List Int)→Int→Option (List Int)
 | 0,_,_=>none
 | n8+1,v3_12,v25_12 =>
 bif (decide (v25_12 < (g_.Roles.length:Int))) then ((idx g_.Roles v25_12).bind fun x274 =>
 (z83 N v3_12 x274).bind fun x275 =>
 (z37_l8 N g_ n8) x275 (w64 (v25_12+(1:Int))))
 else z37_k7 N g_ v3_12
def z37 (N:Nat) (g_:T4):Option (List Int) :=
 (z22 N g_).bind fun x1 =>
 bif (!x1) then (some ([]:List Int))
 else (z83 N ([]:List Int) g_.Name).bind fun x4 =>
 (z82 N x4 (g_.Roles.length:Int)).bind fun x9 =>
 z37_l8 N g_ N x9 (0:Int)
def z127_k1 (v0_1:Int):Option Int :=
 some v0_1
def z127_l2 (b_:(List Int)):Nat→Int→Int→Option Int
 | 0,_,_=>none
 | n2+1,v0_3,v9_3 =>
 bif (decide (v9_3 < (b_.length:Int))) then ((idx b_ v9_3).bind fun x17 =>
 (binO .xor .u64 v0_3 (wk .u64 (x17))).bind fun x18 =>
 (z127_l2 b_ n2) (wk .u64 (x18 * (1099511628211:Int))) (w64 (v9_3+(1:Int))))
 else z127_k1 v0_3
def z127 (N:Nat) (seed_:Int) (b_:(List Int)):Option Int :=
 z127_l2 b_ N seed_ (0:Int)
def z73 (N:Nat) (b_:(List Int)):Option Int :=
 (z127 N (14695981039346656037:Int) b_).bind fun x1 =>
 some x1
def z24 (N:Nat) (g_:T4):Option Int :=
 (z21 N g_).bind fun x1 =>
 bif (x1.2 != (0:Int)) then (some (0:Int))
 else (z37 N x1.1).bind fun x2 =>
 (z73 N x2).bind fun x3 =>
 some x3
def z12 (N:Nat):Option Bool :=
 (z43 N).bind fun x1 =>
 (z14 N x1 (3:Int)).bind fun x2 =>
 (z17 N x1 (0:Int) (⟨(0:Int),(1:Int),(0:Int)⟩:T6)).bind fun x3 =>
 (z22 N x1).bind fun x4 =>
 bif x4 then (bif (x2.2==(0:Int)) then (bif ((x2.1.length:Int)==(2:Int)) then ((idx x2.1 (1:Int)).bind fun x5 =>
 bif ((x5.length:Int)==(1:Int)) then (bif x3.2 then (bif (x3.1==(1:Int)) then ((z23 N x1 x1).bind fun x6 =>
 bif x6 then ((z31 N x1 (str [120])).bind fun x7 =>
 bif (x7==(0:Int)) then ((z24 N x1).bind fun x8 =>
 some (x8 != (0:Int)))
 else some false)
 else some false)
 else some false)
 else some false)
 else some false)
 else some false)
 else some false)
 else some false
def z44_k1 (l_:(List T0)) (v3_1:Int):Option Bool :=
 bif (decide ((l_.length:Int)≤(60:Int))) then (some (decide (v3_1≤(100:Int))))
 else some false
def z44_l2 (l_:(List T0)):Nat→Int→Int→Option Bool
 | 0,_,_=>none
 | n2+1,v3_3,v4_3 =>
 bif (decide (v4_3 < (l_.length:Int))) then ((idx l_ v4_3).bind fun x52 =>
 (idx l_ v4_3).bind fun x53 =>
 (idx l_ v4_3).bind fun x54 =>
 (z44_l2 l_ n2) (w64 (v3_3+(w64 ((w64 ((x52.Fields.length:Int)+(x53.Guard.Diffs.length:Int)))+(x54.Guard.Equals.length:Int))))) (w64 (v4_3+(1:Int))))
 else z44_k1 l_ v3_3
def z44 (N:Nat) (l_:(List T0)):Option Bool :=
 z44_l2 l_ N (0:Int) (0:Int)
def z13 (N:Nat) (g_:T4):Option Bool :=
 bif (decide (g_.States≤(40:Int))) then (bif (decide ((g_.Edges.length:Int)≤(80:Int))) then (bif (decide ((g_.Timeouts.length:Int)≤(40:Int))) then (bif (decide ((g_.Roles.length:Int)≤(10:Int))) then ((z44 N g_.Decls).bind fun x1 =>
 some x1)
 else some false)
 else some false)
 else some false)
 else some false
def z169 (N:Nat) (c_:Int):Option Bool :=
 bif (decide (c_≥(97:Int))) then (bif (decide (c_≤(122:Int))) then (some true)
 else bif (decide (c_≥(65:Int))) then (some (decide (c_≤(90:Int))))
 else some false)
 else bif (decide (c_≥(65:Int))) then (some (decide (c_≤(90:Int))))
 else some false
def z184 (N:Nat) (c_:Int):Option Bool :=
 bif (decide (c_≥(48:Int))) then (some (decide (c_≤(57:Int))))
 else some false
def z170 (N:Nat) (c_:Int):Option Bool :=
 (z169 N c_).bind fun x1 =>
 bif x1 then (some true)
 else (z184 N c_).bind fun x2 =>
 bif x2 then (some true)
 else some (c_==(95:Int))
def z148_k1:Option Bool :=
 some true
def z148_l2 (N:Nat) (s_:ByteArray):Nat→Int→Option Bool
 | 0,_=>none
 | n2+1,v3_3 =>
 bif (decide (v3_3 < (s_.size:Int))) then ((sidx s_ v3_3).bind fun x19 =>
 (z170 N x19).bind fun x20 =>
 bif (!x20) then (some false)
 else (z148_l2 N s_ n2) (w64 (v3_3+(1:Int))))
 else z148_k1
def z148 (N:Nat) (s_:ByteArray):Option Bool :=
 bif (s_.toList==(str []).toList) then (some false)
 else (sidx s_ (0:Int)).bind fun x1 =>
 (z169 N x1).bind fun x2 =>
 bif (!x2) then (some false)
 else bif (decide ((s_.size:Int) > (16:Int))) then (some false)
 else z148_l2 N s_ N (0:Int)
def z150 (N:Nat):Option (List ByteArray) :=
 some ([(str [97,103,97,105,110]),(str [97,110,100]),(str [97,115]),(str [97,116]),(str [99,97,108,108]),(str [99,104,111,105,99,101]),(str [101,108,115,101]),(str [102,114,111,109]),(str [105,102]),(str [105,110,116]),(str [108,101,110]),(str [108,111,111,112]),(str [109,101,115,115,97,103,101]),(str [111,102]),(str [111,102,102,101,114]),(str [111,110]),(str [111,114]),(str [112,97,114]),(str [112,108,97,121,115]),(str [112,114,111,116,111,99,111,108]),(str [115,101,114,118,105,99,101]),(str [116,101,120,116]),(str [116,105,109,101,115]),(str [116,111]),(str [118,97,114]),(str [119,104,101,114,101]),(str [119,104,105,108,101]),(str [119,105,116,104,105,110])]:List ByteArray)
def z149_k1:Option Bool :=
 some false
def z149_l2 (l_:(List ByteArray)) (s_:ByteArray):Nat→Int→Option Bool
 | 0,_=>none
 | n2+1,v5_3 =>
 bif (decide (v5_3 < (l_.length:Int))) then ((idx l_ v5_3).bind fun x9 =>
 bif (x9.toList==s_.toList) then (some true)
 else (z149_l2 l_ s_ n2) (w64 (v5_3+(1:Int))))
 else z149_k1
def z149 (N:Nat) (l_:(List ByteArray)) (s_:ByteArray):Option Bool :=
 z149_l2 l_ s_ N (0:Int)
def z112 (N:Nat) (s_:ByteArray):Option Bool :=
 (z148 N s_).bind fun x1 =>
 bif x1 then ((z150 N).bind fun x2 =>
 (z149 N x2 s_).bind fun x3 =>
 some (!x3))
 else some false
def z76_k1:Option Int :=
 some (-1:Int)
def z76_l2 (l_:(List ByteArray)) (s_:ByteArray):Nat→Int→Option Int
 | 0,_=>none
 | n2+1,v5_3 =>
 bif (decide (v5_3 < (l_.length:Int))) then ((idx l_ v5_3).bind fun x9 =>
 bif (x9.toList==s_.toList) then (some v5_3)
 else (z76_l2 l_ s_ n2) (w64 (v5_3+(1:Int))))
 else z76_k1
def z76 (N:Nat) (l_:(List ByteArray)) (s_:ByteArray):Option Int :=
 z76_l2 l_ s_ N (0:Int)
def z151_k1 (v3_1:Int):Option Int :=
 some v3_1
def z151_l2 (decls_:(List T0)):Nat→Int→Int→Option Int
 | 0,_,_=>none
 | n2+1,v3_3,v4_3 =>
 bif (decide (v4_3 < (decls_.length:Int))) then ((idx decls_ v4_3).bind fun x9 =>
 (z151_l2 decls_ n2) (w64 (v3_3+(x9.Fields.length:Int))) (w64 (v4_3+(1:Int))))
 else z151_k1 v3_3
def z151 (N:Nat) (decls_:(List T0)):Option Int :=
 z151_l2 decls_ N (0:Int) (0:Int)
def z152_k1 (s_:T7) (v3_1:Int) (v4_1:Int):Option Bool :=
 bif (s_.Kind==(1:Int)) then (bif (decide (s_.Lo≥v3_1)) then (bif (decide (s_.Hi≤v4_1)) then (some (decide (s_.Lo≤s_.Hi)))
 else some false)
 else some false)
 else bif (s_.Kind==(2:Int)) then (bif (decide (s_.Lo≥v3_1)) then (bif (decide (s_.Hi≤v4_1)) then (some (decide (s_.Lo≤s_.Hi)))
 else some false)
 else some false)
 else some false
def z152 (N:Nat) (s_:T7):Option Bool :=
 bif (s_.Kind==(2:Int)) then (z152_k1 s_ (0:Int) (40:Int))
 else z152_k1 s_ (-1000:Int) (1000:Int)
def z171 (N:Nat) (s_:ByteArray):Option Bool :=
 (z112 N s_).bind fun x1 =>
 some x1
def z153_k1 (s_:ByteArray):Option Bool :=
 some (decide ((s_.size:Int)≤(50:Int)))
def z153_k3 (N:Nat) (s_:ByteArray) (v3_6:Int) (v4_6:Int) (ag6:Int→Int→Option Bool) (v20_9:Bool):Option Bool :=
 bif v20_9 then ((ssl s_ (some v3_6) (some v4_6)).bind fun x34 =>
 (z171 N x34).bind fun x35 =>
 bif (!x35) then (some false)
 else ag6 (w64 (v4_6+(1:Int))) (w64 (v4_6+(1:Int))))
 else ag6 v3_6 (w64 (v4_6+(1:Int)))
def z153_l2 (N:Nat) (s_:ByteArray):Nat→Int→Int→Option Bool
 | 0,_,_=>none
 | n2+1,v3_6,v4_6 =>
 bif (decide (v4_6≤(s_.size:Int))) then (bif (v4_6==(s_.size:Int)) then (z153_k3 N s_ v3_6 v4_6 (z153_l2 N s_ n2) true)
 else (sidx s_ v4_6).bind fun x36 =>
 z153_k3 N s_ v3_6 v4_6 (z153_l2 N s_ n2) (x36==(46:Int)))
 else z153_k1 s_
def z153 (N:Nat) (s_:ByteArray):Option Bool :=
 z153_l2 N s_ N (0:Int) (0:Int)
def z185_k1:Option T3 :=
 some (⟨(str []),(⟨(0:Int),(0:Int),(0:Int)⟩:T7)⟩:T3)
def z185_l2 (decls_:(List T0)):Nat→Int→Int→Option T3
 | 0,_,_=>none
 | n2+1,v1_3,v5_3 =>
 bif (decide (v5_3 < (decls_.length:Int))) then ((idx decls_ v5_3).bind fun x33 =>
 bif (decide (v1_3 < (x33.Fields.length:Int))) then ((idx decls_ v5_3).bind fun x34 =>
 (idx x34.Fields v1_3).bind fun x35 =>
 some x35)
 else (idx decls_ v5_3).bind fun x36 =>
 (z185_l2 decls_ n2) (w64 (v1_3-(x36.Fields.length:Int))) (w64 (v5_3+(1:Int))))
 else z185_k1
def z185 (N:Nat) (decls_:(List T0)) (x_:Int):Option T3 :=
 z185_l2 decls_ N x_ (0:Int)
def z172 (N:Nat) (decls_:(List T0)) (x_:Int):Option Bool :=
 bif (decide (x_≥(0:Int))) then ((z151 N decls_).bind fun x1 =>
 bif (decide (x_ < x1)) then ((z185 N decls_ x_).bind fun x2 =>
 some (x2.Sort'.Kind==(2:Int)))
 else some false)
 else some false
def z154_k1 (g_:T5):Option Bool :=
 bif (decide ((g_.Diffs.length:Int)≤(20:Int))) then (some (decide ((g_.Equals.length:Int)≤(20:Int))))
 else some false
def z154_l2 (N:Nat) (decls_:(List T0)) (g_:T5):Nat→Int→Option Bool
 | 0,_=>none
 | n3+1,v8_5 =>
 bif (decide (v8_5 < (g_.Equals.length:Int))) then ((idx g_.Equals v8_5).bind fun x38 =>
 (z172 N decls_ x38.1).bind fun x39 =>
 bif (!x39) then (some false)
 else (idx g_.Equals v8_5).bind fun x40 =>
 (z172 N decls_ x40.2).bind fun x41 =>
 bif (!x41) then (some false)
 else (z154_l2 N decls_ g_ n3) (w64 (v8_5+(1:Int))))
 else z154_k1 g_
def z154_k3 (N:Nat) (decls_:(List T0)) (g_:T5):Option Bool :=
 z154_l2 N decls_ g_ N (0:Int)
def z154_l4 (N:Nat) (decls_:(List T0)) (g_:T5) (x1:Int):Nat→Int→Option Bool
 | 0,_=>none
 | n4+1,v6_6 =>
 bif (decide (v6_6 < (g_.Diffs.length:Int))) then ((idx g_.Diffs v6_6).bind fun x46 =>
 bif (decide (x46.X < (-1:Int))) then (some false)
 else bif (decide (x46.X≥x1)) then (some false)
 else bif (decide (x46.Y < (-1:Int))) then (some false)
 else bif (decide (x46.Y≥x1)) then (some false)
 else bif (decide (x46.C < (-20000:Int))) then (some false)
 else bif (decide (x46.C > (20000:Int))) then (some false)
 else (z154_l4 N decls_ g_ x1 n4) (w64 (v6_6+(1:Int))))
 else z154_k3 N decls_ g_
def z154 (N:Nat) (decls_:(List T0)) (g_:T5):Option Bool :=
 (z151 N decls_).bind fun x1 =>
 z154_l4 N decls_ g_ x1 N (0:Int)
def z113_k1:Option Bool :=
 some true
def z113_k3 (N:Nat) (decls_:(List T0)) (v3_75:Int) (v4_75:Int) (ag75:Int→Int→Option Bool) (x2504:T0):Option Bool :=
 (z153 N x2504.Name).bind fun x2657 =>
 bif (!x2657) then (some false)
 else bif (decide ((x2504.Fields.length:Int) > (4:Int))) then (some false)
 else bif (x2504.First != v3_75) then (some false)
 else (z154 N decls_ x2504.Guard).bind fun x2658 =>
 bif (!x2658) then (some false)
 else ag75 (w64 (v3_75+(x2504.Fields.length:Int))) (w64 (v4_75+(1:Int)))
def z113_k5 (v7_137:Int) (ag137:Int→Option Bool):Option Bool :=
 ag137 (w64 (v7_137+(1:Int)))
def z113_l6 (x2504:T0) (v7_137:Int) (ag137:Int→Option Bool):Nat→Int→Option Bool
 | 0,_=>none
 | n97+1,v8_146 =>
 bif (decide (v8_146 < v7_137)) then ((idx x2504.Fields v8_146).bind fun x2845 =>
 (idx x2504.Fields v7_137).bind fun x2846 =>
 bif (x2845.Name.toList==x2846.Name.toList) then (some false)
 else (z113_l6 x2504 v7_137 ag137 n97) (w64 (v8_146+(1:Int))))
 else z113_k5 v7_137 ag137
def z113_l4 (N:Nat) (decls_:(List T0)) (v3_75:Int) (v4_75:Int) (ag75:Int→Int→Option Bool) (x2504:T0):Nat→Int→Option Bool
 | 0,_=>none
 | n95+1,v7_137 =>
 bif (decide (v7_137 < (x2504.Fields.length:Int))) then ((idx x2504.Fields v7_137).bind fun x2807 =>
 (z152 N x2807.Sort').bind fun x2808 =>
 bif (!x2808) then (some false)
 else (idx x2504.Fields v7_137).bind fun x2809 =>
 (z112 N x2809.Name).bind fun x2810 =>
 bif (!x2810) then (some false)
 else z113_l6 x2504 v7_137 (z113_l4 N decls_ v3_75 v4_75 ag75 x2504 n95) N (0:Int))
 else z113_k3 N decls_ v3_75 v4_75 ag75 x2504
def z113_k7 (N:Nat) (decls_:(List T0)) (v3_75:Int) (v4_75:Int) (ag75:Int→Int→Option Bool) (x2504:T0):Option Bool :=
 z113_l4 N decls_ v3_75 v4_75 ag75 x2504 N (0:Int)
def z113_l8 (N:Nat) (decls_:(List T0)) (v3_75:Int) (v4_75:Int) (ag75:Int→Int→Option Bool) (x2504:T0):Nat→Int→Option Bool
 | 0,_=>none
 | n98+1,v6_147 =>
 bif (decide (v6_147 < v4_75)) then ((idx decls_ v6_147).bind fun x2856 =>
 bif (x2856.Name.toList==x2504.Name.toList) then (some false)
 else (z113_l8 N decls_ v3_75 v4_75 ag75 x2504 n98) (w64 (v6_147+(1:Int))))
 else z113_k7 N decls_ v3_75 v4_75 ag75 x2504
def z113_l2 (N:Nat) (decls_:(List T0)):Nat→Int→Int→Option Bool
 | 0,_,_=>none
 | n82+1,v3_75,v4_75 =>
 bif (decide (v4_75 < (decls_.length:Int))) then ((idx decls_ v4_75).bind fun x2504 =>
 z113_l8 N decls_ v3_75 v4_75 (z113_l2 N decls_ n82) x2504 N (0:Int))
 else z113_k1
def z113 (N:Nat) (decls_:(List T0)):Option Bool :=
 bif (decide ((decls_.length:Int) > (40:Int))) then (some false)
 else (z151 N decls_).bind fun x1 =>
 bif (decide (x1 > (24:Int))) then (some false)
 else z113_l2 N decls_ N (0:Int) (0:Int)
def z51_k1 (N:Nat) (g_:T4):Option Bool :=
 (z112 N g_.Name).bind fun x33 =>
 bif x33 then (bif (decide ((g_.Roles.length:Int)≥(1:Int))) then (bif (decide ((g_.Roles.length:Int)≤(6:Int))) then ((z113 N g_.Decls).bind fun x34 =>
 some x34)
 else some false)
 else some false)
 else some false
def z51_l2 (N:Nat) (g_:T4):Nat→Int→Option Bool
 | 0,_=>none
 | n2+1,v3_3 =>
 bif (decide (v3_3 < (g_.Roles.length:Int))) then ((idx g_.Roles v3_3).bind fun x71 =>
 (z112 N x71).bind fun x72 =>
 bif (!x72) then (some false)
 else (idx g_.Roles v3_3).bind fun x73 =>
 (z76 N g_.Roles x73).bind fun x74 =>
 bif (decide (x74 < v3_3)) then (some false)
 else (z51_l2 N g_ n2) (w64 (v3_3+(1:Int))))
 else z51_k1 N g_
def z51 (N:Nat) (g_:T4):Option Bool :=
 z51_l2 N g_ N (0:Int)
def z114 (N:Nat) (g_:T4) (s_:Int):Option Bool :=
 bif (decide (s_≥(0:Int))) then (some (decide (s_ < g_.States)))
 else some false
def z52_k1 (N:Nat) (g_:T4):Option Bool :=
 bif (decide (g_.States≥(1:Int))) then (bif (decide (g_.States≤(200:Int))) then ((z114 N g_ g_.Start).bind fun x13 =>
 bif x13 then ((z114 N g_ g_.End).bind fun x14 =>
 bif x14 then (some (decide ((g_.Edges.length:Int)≤(400:Int))))
 else some false)
 else some false)
 else some false)
 else some false
def z52_l2 (N:Nat) (g_:T4):Nat→Int→Option Bool
 | 0,_=>none
 | n2+1,v3_3 =>
 bif (decide (v3_3 < (g_.Edges.length:Int))) then ((idx g_.Edges v3_3).bind fun x27 =>
 (z114 N g_ x27.From).bind fun x28 =>
 bif (!x28) then (some false)
 else (z114 N g_ x27.To).bind fun x29 =>
 bif (!x29) then (some false)
 else bif (decide (x27.Act.From < (0:Int))) then (some false)
 else bif (decide (x27.Act.From≥(g_.Roles.length:Int))) then (some false)
 else bif (decide (x27.Act.To < (0:Int))) then (some false)
 else bif (decide (x27.Act.To≥(g_.Roles.length:Int))) then (some false)
 else bif (x27.Act.From==x27.Act.To) then (some false)
 else bif (decide (x27.Act.Label < (0:Int))) then (some false)
 else bif (decide (x27.Act.Label≥(g_.Decls.length:Int))) then (some false)
 else (z52_l2 N g_ n2) (w64 (v3_3+(1:Int))))
 else z52_k1 N g_
def z52 (N:Nat) (g_:T4):Option Bool :=
 z52_l2 N g_ N (0:Int)
def z53_k1:Option Bool :=
 some true
def z53_k3 (v3_33:Int) (ag33:Int→Option Bool):Option Bool :=
 ag33 (w64 (v3_33+(1:Int)))
def z53_k5 (x74:T2) (v5_60:Int) (ag60:Int→Option Bool) (x83:T2) (v69_63:Bool):Option Bool :=
 bif v69_63 then (some false)
 else bif x74.Again then (bif (x83.To==x74.From) then (bif (x83.Act.From != x74.Act.From) then (some false)
 else bif (x83.Act.Label != x74.Act.Label) then (some false)
 else ag60 (w64 (v5_60+(1:Int))))
 else ag60 (w64 (v5_60+(1:Int))))
 else ag60 (w64 (v5_60+(1:Int)))
def z53_l4 (g_:T4) (v3_33:Int) (ag33:Int→Option Bool) (x74:T2):Nat→Int→Option Bool
 | 0,_=>none
 | n14+1,v5_60 =>
 bif (decide (v5_60 < (g_.Edges.length:Int))) then ((idx g_.Edges v5_60).bind fun x83 =>
 bif (v5_60 != v3_33) then (bif (x74.From==x83.From) then (bif ((x74.Act.From==x83.Act.From) && ((x74.Act.To==x83.Act.To) && ((x74.Act.Label==x83.Act.Label) && true))) then (z53_k5 x74 v5_60 (z53_l4 g_ v3_33 ag33 x74 n14) x83 true)
 else bif (x74.Act.From != x83.Act.From) then (z53_k5 x74 v5_60 (z53_l4 g_ v3_33 ag33 x74 n14) x83 true)
 else z53_k5 x74 v5_60 (z53_l4 g_ v3_33 ag33 x74 n14) x83 x74.Again)
 else z53_k5 x74 v5_60 (z53_l4 g_ v3_33 ag33 x74 n14) x83 false)
 else z53_k5 x74 v5_60 (z53_l4 g_ v3_33 ag33 x74 n14) x83 false)
 else z53_k3 v3_33 ag33
def z53_k6 (N:Nat) (g_:T4) (v3_33:Int) (ag33:Int→Option Bool) (x74:T2) (v27_54:Bool):Option Bool :=
 bif v27_54 then (some false)
 else z53_l4 g_ v3_33 ag33 x74 N (0:Int)
def z53_l2 (N:Nat) (g_:T4):Nat→Int→Option Bool
 | 0,_=>none
 | n12+1,v3_33 =>
 bif (decide (v3_33 < (g_.Edges.length:Int))) then ((idx g_.Edges v3_33).bind fun x74 =>
 bif x74.Again then (z53_k6 N g_ v3_33 (z53_l2 N g_ n12) x74 (x74.From==g_.Start))
 else z53_k6 N g_ v3_33 (z53_l2 N g_ n12) x74 false)
 else z53_k1
def z53 (N:Nat) (g_:T4):Option Bool :=
 z53_l2 N g_ N (0:Int)
def z81_k1 (v3_3:(List Int)):Option (List Int) :=
 some v3_3
def z81_k3 (v5_14:Int) (ag14:(List Int)→Int→Option (List Int)) (v3_21:(List Int)):Option (List Int) :=
 ag14 v3_21 (w64 (v5_14+(1:Int)))
def z81_l4 (g_:T4) (v5_14:Int) (ag14:(List Int)→Int→Option (List Int)):Nat→(List Int)→Int→Option (List Int)
 | 0,_,_=>none
 | n15+1,v3_23,v6_23 =>
 bif (decide (v6_23 < (g_.Edges.length:Int))) then ((idx g_.Edges v6_23).bind fun x299 =>
 (idx v3_23 x299.To).bind fun x300 =>
 bif (x300==v5_14) then ((idx v3_23 x299.From).bind fun x301 =>
 bif (decide (x301 < (0:Int))) then ((idx v3_23 x299.From).bind fun x302 =>
 (z81_l4 g_ v5_14 ag14 n15) (setL' v3_23 x299.From (w64 (v5_14+(1:Int)))) (w64 (v6_23+(1:Int))))
 else (z81_l4 g_ v5_14 ag14 n15) v3_23 (w64 (v6_23+(1:Int))))
 else (z81_l4 g_ v5_14 ag14 n15) v3_23 (w64 (v6_23+(1:Int))))
 else z81_k3 v5_14 ag14 v3_23
def z81_l2 (N:Nat) (g_:T4):Nat→(List Int)→Int→Option (List Int)
 | 0,_,_=>none
 | n13+1,v3_14,v5_14 =>
 bif (decide (v5_14 < g_.States)) then (z81_l4 g_ v5_14 (z81_l2 N g_ n13) N v3_14 (0:Int))
 else z81_k1 v3_14
def z81_k5 (N:Nat) (g_:T4) (v3_1:(List Int)):Option (List Int) :=
 (idx v3_1 g_.End).bind fun x6 =>
 z81_l2 N g_ N (setL' v3_1 g_.End (0:Int)) (0:Int)
def z81_l6 (N:Nat) (g_:T4):Nat→(List Int)→Int→Option (List Int)
 | 0,_,_=>none
 | n16+1,v3_24,v4_24 =>
 bif (decide (v4_24 < g_.States)) then ((idx v3_24 v4_24).bind fun x307 =>
 (z81_l6 N g_ n16) (setL' v3_24 v4_24 (-1:Int)) (w64 (v4_24+(1:Int))))
 else z81_k5 N g_ v3_24
def z81 (N:Nat) (g_:T4):Option (List Int) :=
 (mkL (0:Int) g_.States g_.States).bind fun x1 =>
 z81_l6 N g_ N x1 (0:Int)
def z74 (N:Nat) (g_:T4) (i_:Int) (k_:Int):Option Bool :=
 (idx g_.Edges i_).bind fun x4 =>
 (idx g_.Edges k_).bind fun x11 =>
 bif (x4.Act.To != x11.Act.To) then (some (decide (x4.Act.To < x11.Act.To)))
 else bif (x4.Act.Label != x11.Act.Label) then (some (decide (x4.Act.Label < x11.Act.Label)))
 else some (decide (i_ < k_))
def z28_k1 (v5_1:(List Int)):Option (List Int) :=
 some v5_1
def z28_k3 (v5_12:(List Int)) (v6_12:Int) (ag12:(List Int)→Int→Option (List Int)) (v7_19:Int):Option (List Int) :=
 (lsl v5_12 none (some v7_19)).bind fun x1726 =>
 (lsl v5_12 (some v7_19) none).bind fun x1732 =>
 (appL ([v6_12]:List Int) x1732).bind fun x1734 =>
 (appL x1726 x1734).bind fun x1736 =>
 ag12 x1736 (w64 (v6_12+(1:Int)))
def z28_l4 (N:Nat) (g_:T4) (v5_12:(List Int)) (v6_12:Int) (ag12:(List Int)→Int→Option (List Int)):Nat→Int→Option (List Int)
 | 0,_=>none
 | n14+1,v7_21 =>
 bif (decide (v7_21 < (v5_12.length:Int))) then ((idx v5_12 v7_21).bind fun x1853 =>
 (z74 N g_ x1853 v6_12).bind fun x1857 =>
 bif x1857 then ((z28_l4 N g_ v5_12 v6_12 ag12 n14) (w64 (v7_21+(1:Int))))
 else z28_k3 v5_12 v6_12 ag12 v7_21)
 else z28_k3 v5_12 v6_12 ag12 v7_21
def z28_l2 (N:Nat) (g_:T4) (s_:Int):Nat→(List Int)→Int→Option (List Int)
 | 0,_,_=>none
 | n12+1,v5_12,v6_12 =>
 bif (decide (v6_12 < (g_.Edges.length:Int))) then ((idx g_.Edges v6_12).bind fun x1619 =>
 bif (x1619.From != s_) then ((z28_l2 N g_ s_ n12) v5_12 (w64 (v6_12+(1:Int))))
 else z28_l4 N g_ v5_12 v6_12 (z28_l2 N g_ s_ n12) N (0:Int))
 else z28_k1 v5_12
def z28 (N:Nat) (g_:T4) (s_:Int):Option (List Int) :=
 z28_l2 N g_ s_ N ([]:List Int) (0:Int)
def z54_k1 (N:Nat) (g_:T4):Option Bool :=
 (z28 N g_ g_.End).bind fun x1612 =>
 some ((x1612.length:Int)==(0:Int))
def z54_l2 (N:Nat) (g_:T4) (v3_1:(List Bool)) (x1603:(List Int)):Nat→Int→Option Bool
 | 0,_=>none
 | n9+1,v7_14 =>
 bif (decide (v7_14 < g_.States)) then ((idx v3_1 v7_14).bind fun x1621 =>
 bif (!x1621) then (some false)
 else (idx x1603 v7_14).bind fun x1622 =>
 bif (decide (x1622 < (0:Int))) then (some false)
 else (z54_l2 N g_ v3_1 x1603 n9) (w64 (v7_14+(1:Int))))
 else z54_k1 N g_
def z54_k3 (N:Nat) (g_:T4) (v3_1:(List Bool)):Option Bool :=
 (z81 N g_).bind fun x1603 =>
 z54_l2 N g_ v3_1 x1603 N (0:Int)
def z54_k5 (v4_15:Int) (ag15:(List Bool)→Int→Option Bool) (v3_22:(List Bool)):Option Bool :=
 ag15 v3_22 (w64 (v4_15+(1:Int)))
def z54_l6 (g_:T4) (v4_15:Int) (ag15:(List Bool)→Int→Option Bool):Nat→(List Bool)→Int→Option Bool
 | 0,_,_=>none
 | n16+1,v3_24,v5_24 =>
 bif (decide (v5_24 < (g_.Edges.length:Int))) then ((idx g_.Edges v5_24).bind fun x3677 =>
 (idx g_.Edges v5_24).bind fun x3685 =>
 (idx v3_24 x3685.To).bind fun x3689 =>
 bif x3689 then ((idx v3_24 x3677.To).bind fun x3704 =>
 (z54_l6 g_ v4_15 ag15 n16) (setL' v3_24 x3677.To true) (w64 (v5_24+(1:Int))))
 else (idx g_.Edges v5_24).bind fun x3712 =>
 (idx v3_24 x3712.From).bind fun x3716 =>
 (idx v3_24 x3677.To).bind fun x3720 =>
 (z54_l6 g_ v4_15 ag15 n16) (setL' v3_24 x3677.To x3716) (w64 (v5_24+(1:Int))))
 else z54_k5 v4_15 ag15 v3_24
def z54_l4 (N:Nat) (g_:T4):Nat→(List Bool)→Int→Option Bool
 | 0,_,_=>none
 | n14+1,v3_15,v4_15 =>
 bif (decide (v4_15 < g_.States)) then (z54_l6 g_ v4_15 (z54_l4 N g_ n14) N v3_15 (0:Int))
 else z54_k3 N g_ v3_15
def z54 (N:Nat) (g_:T4):Option Bool :=
 (mkL false g_.States g_.States).bind fun x1 =>
 (idx x1 g_.Start).bind fun x2 =>
 z54_l4 N g_ N (setL' x1 g_.Start true) (0:Int)
def z55_k1:Option Bool :=
 some true
def z55_l2 (N:Nat) (g_:T4):Nat→Int→Option Bool
 | 0,_=>none
 | n2+1,v3_3 =>
 bif (decide (v3_3 < (g_.Timeouts.length:Int))) then ((idx g_.Timeouts v3_3).bind fun x105 =>
 (z114 N g_ x105.State).bind fun x112 =>
 bif (!x112) then (some false)
 else bif (decide (v3_3 > (0:Int))) then ((idx g_.Timeouts (w64 (v3_3-(1:Int)))).bind fun x113 =>
 bif (decide (x105.State≤x113.State)) then (some false)
 else bif (decide (x105.Ticks < (1:Int))) then (some false)
 else bif (decide (x105.Ticks > (1000:Int))) then (some false)
 else bif (decide (x105.Else < (0:Int))) then (some false)
 else bif (decide (x105.Else≥(g_.Edges.length:Int))) then (some false)
 else (idx g_.Edges x105.Else).bind fun x114 =>
 bif (x114.From != x105.State) then (some false)
 else (idx g_.Edges x105.Else).bind fun x115 =>
 bif x115.Again then (some false)
 else (z55_l2 N g_ n2) (w64 (v3_3+(1:Int))))
 else bif (decide (x105.Ticks < (1:Int))) then (some false)
 else bif (decide (x105.Ticks > (1000:Int))) then (some false)
 else bif (decide (x105.Else < (0:Int))) then (some false)
 else bif (decide (x105.Else≥(g_.Edges.length:Int))) then (some false)
 else (idx g_.Edges x105.Else).bind fun x116 =>
 bif (x116.From != x105.State) then (some false)
 else (idx g_.Edges x105.Else).bind fun x117 =>
 bif x117.Again then (some false)
 else (z55_l2 N g_ n2) (w64 (v3_3+(1:Int))))
 else z55_k1
def z55 (N:Nat) (g_:T4):Option Bool :=
 z55_l2 N g_ N (0:Int)
def z19 (N:Nat) (g_:T4):Option Bool :=
 (z51 N g_).bind fun x1 =>
 bif x1 then ((z52 N g_).bind fun x2 =>
 bif x2 then ((z53 N g_).bind fun x3 =>
 bif x3 then ((z54 N g_).bind fun x4 =>
 bif x4 then ((z55 N g_).bind fun x5 =>
 some x5)
 else some false)
 else some false)
 else some false)
 else some false
def z128_k1:Option Bool :=
 some true
def z128_l2 (a_:(List T1)) (b_:(List T1)):Nat→Int→Option Bool
 | 0,_=>none
 | n2+1,v5_3 =>
 bif (decide (v5_3 < (a_.length:Int))) then ((idx a_ v5_3).bind fun x35 =>
 (idx b_ v5_3).bind fun x36 =>
 bif (!((x35.X==x36.X) && ((x35.Y==x36.Y) && ((x35.C==x36.C) && true)))) then (some false)
 else (z128_l2 a_ b_ n2) (w64 (v5_3+(1:Int))))
 else z128_k1
def z128 (N:Nat) (a_:(List T1)) (b_:(List T1)):Option Bool :=
 bif ((a_.length:Int) != (b_.length:Int)) then (some false)
 else z128_l2 a_ b_ N (0:Int)
def z79_k1:Option Bool :=
 some true
def z79_k3 (v5_21:Int) (ag21:Int→Option Bool):Option Bool :=
 ag21 (w64 (v5_21+(1:Int)))
def z79_l4 (v5_21:Int) (ag21:Int→Option Bool) (x643:T0) (x648:T0):Nat→Int→Option Bool
 | 0,_=>none
 | n25+1,v9_38 =>
 bif (decide (v9_38 < (x643.Guard.Equals.length:Int))) then ((idx x643.Guard.Equals v9_38).bind fun x706 =>
 (idx x648.Guard.Equals v9_38).bind fun x707 =>
 bif (!((x706.1==x707.1) && ((x706.2==x707.2) && true))) then (some false)
 else (z79_l4 v5_21 ag21 x643 x648 n25) (w64 (v9_38+(1:Int))))
 else z79_k3 v5_21 ag21
def z79_k5 (N:Nat) (v5_21:Int) (ag21:Int→Option Bool) (x643:T0) (x648:T0):Option Bool :=
 z79_l4 v5_21 ag21 x643 x648 N (0:Int)
def z79_l6 (N:Nat) (v5_21:Int) (ag21:Int→Option Bool) (x643:T0) (x648:T0):Nat→Int→Option Bool
 | 0,_=>none
 | n26+1,v8_39 =>
 bif (decide (v8_39 < (x643.Fields.length:Int))) then ((idx x643.Fields v8_39).bind fun x726 =>
 (idx x648.Fields v8_39).bind fun x727 =>
 bif (!((x726.Name.toList==x727.Name.toList) && (((x726.Sort'.Kind==x727.Sort'.Kind) && ((x726.Sort'.Lo==x727.Sort'.Lo) && ((x726.Sort'.Hi==x727.Sort'.Hi) && true))) && true))) then (some false)
 else (z79_l6 N v5_21 ag21 x643 x648 n26) (w64 (v8_39+(1:Int))))
 else z79_k5 N v5_21 ag21 x643 x648
def z79_l2 (N:Nat) (a_:(List T0)) (b_:(List T0)):Nat→Int→Option Bool
 | 0,_=>none
 | n22+1,v5_21 =>
 bif (decide (v5_21 < (a_.length:Int))) then ((idx a_ v5_21).bind fun x643 =>
 (idx b_ v5_21).bind fun x648 =>
 bif (!(x643.Name.toList==x648.Name.toList)) then (some false)
 else bif (x643.First != x648.First) then (some false)
 else bif ((x643.Fields.length:Int) != (x648.Fields.length:Int)) then (some false)
 else (z128 N x643.Guard.Diffs x648.Guard.Diffs).bind fun x655 =>
 bif (!x655) then (some false)
 else bif ((x643.Guard.Equals.length:Int) != (x648.Guard.Equals.length:Int)) then (some false)
 else z79_l6 N v5_21 (z79_l2 N a_ b_ n22) x643 x648 N (0:Int))
 else z79_k1
def z79 (N:Nat) (a_:(List T0)) (b_:(List T0)):Option Bool :=
 bif ((a_.length:Int) != (b_.length:Int)) then (some false)
 else z79_l2 N a_ b_ N (0:Int)
def z33_k1:Option Bool :=
 some true
def z33_l2 (a_:T4) (b_:T4):Nat→Int→Option Bool
 | 0,_=>none
 | n4+1,v7_7 =>
 bif (decide (v7_7 < (a_.Timeouts.length:Int))) then ((idx a_.Timeouts v7_7).bind fun x68 =>
 (idx b_.Timeouts v7_7).bind fun x69 =>
 bif (!((x68.State==x69.State) && ((x68.Ticks==x69.Ticks) && ((x68.Else==x69.Else) && true)))) then (some false)
 else (z33_l2 a_ b_ n4) (w64 (v7_7+(1:Int))))
 else z33_k1
def z33_k3 (N:Nat) (a_:T4) (b_:T4):Option Bool :=
 z33_l2 a_ b_ N (0:Int)
def z33_l4 (N:Nat) (a_:T4) (b_:T4):Nat→Int→Option Bool
 | 0,_=>none
 | n5+1,v6_8 =>
 bif (decide (v6_8 < (a_.Edges.length:Int))) then ((idx a_.Edges v6_8).bind fun x88 =>
 (idx b_.Edges v6_8).bind fun x89 =>
 bif (!((x88.From==x89.From) && (((x88.Act.From==x89.Act.From) && ((x88.Act.To==x89.Act.To) && ((x88.Act.Label==x89.Act.Label) && true))) && ((x88.To==x89.To) && ((x88.Again==x89.Again) && true))))) then (some false)
 else (z33_l4 N a_ b_ n5) (w64 (v6_8+(1:Int))))
 else z33_k3 N a_ b_
def z33_k5 (N:Nat) (a_:T4) (b_:T4):Option Bool :=
 z33_l4 N a_ b_ N (0:Int)
def z33_l6 (N:Nat) (a_:T4) (b_:T4):Nat→Int→Option Bool
 | 0,_=>none
 | n6+1,v5_9 =>
 bif (decide (v5_9 < (a_.Roles.length:Int))) then ((idx a_.Roles v5_9).bind fun x108 =>
 (idx b_.Roles v5_9).bind fun x109 =>
 bif (!(x108.toList==x109.toList)) then (some false)
 else (z33_l6 N a_ b_ n6) (w64 (v5_9+(1:Int))))
 else z33_k5 N a_ b_
def z33 (N:Nat) (a_:T4) (b_:T4):Option Bool :=
 bif (!(a_.Name.toList==b_.Name.toList)) then (some false)
 else bif ((a_.Roles.length:Int) != (b_.Roles.length:Int)) then (some false)
 else (z79 N a_.Decls b_.Decls).bind fun x1 =>
 bif (!x1) then (some false)
 else bif (a_.States != b_.States) then (some false)
 else bif (a_.Start != b_.Start) then (some false)
 else bif (a_.End != b_.End) then (some false)
 else bif ((a_.Edges.length:Int) != (b_.Edges.length:Int)) then (some false)
 else bif ((a_.Timeouts.length:Int) != (b_.Timeouts.length:Int)) then (some false)
 else z33_l6 N a_ b_ N (0:Int)
def z80_k1:Option Int :=
 some (-1:Int)
def z80_l2 (l_:(List Int)) (n_:Int):Nat→Int→Option Int
 | 0,_=>none
 | n2+1,v5_3 =>
 bif (decide (v5_3 < (l_.length:Int))) then ((idx l_ v5_3).bind fun x9 =>
 bif (x9==n_) then (some v5_3)
 else (z80_l2 l_ n_ n2) (w64 (v5_3+(1:Int))))
 else z80_k1
def z80 (N:Nat) (l_:(List Int)) (n_:Int):Option Int :=
 z80_l2 l_ n_ N (0:Int)
def z34_k1 (N:Nat) (g_:T4) (vb4_6_6_1:(List T2)) (vb4_6_7_1:(List T8)) (v5_1:(List Int)):Option (T4 × Int) :=
 (z80 N v5_1 g_.End).bind fun x9798 =>
 some ((⟨g_.Name,g_.Roles,g_.Decls,g_.States,(0:Int),x9798,vb4_6_6_1,vb4_6_7_1⟩:T4),(0:Int))
def z34_k3 (v6_84:Int) (ag84:(List T2)→(List T8)→(List Int)→Int→Option (T4 × Int)) (vb4_6_6_139:(List T2)) (vb4_6_7_139:(List T8)) (v5_139:(List Int)):Option (T4 × Int) :=
 ag84 vb4_6_6_139 vb4_6_7_139 v5_139 (w64 (v6_84+(1:Int)))
def z34_k5 (N:Nat) (v6_84:Int) (vb4_6_6_153:(List T2)) (v8_153:Int) (ag153:(List T2)→(List T8)→(List Int)→Int→Option (T4 × Int)) (x22458:T2) (v5_162:(List Int)) (vb4_6_7_163:(List T8)):Option (T4 × Int) :=
 (z80 N v5_162 x22458.To).bind fun x22609 =>
 (appL vb4_6_6_153 ([(⟨v6_84,x22458.Act,x22609,x22458.Again⟩:T2)]:List T2)).bind fun x22615 =>
 ag153 x22615 vb4_6_7_163 v5_162 (w64 (v8_153+(1:Int)))
def z34_l6 (N:Nat) (g_:T4) (v6_84:Int) (x19974:(List Int)) (vb4_6_6_153:(List T2)) (v8_153:Int) (ag153:(List T2)→(List T8)→(List Int)→Int→Option (T4 × Int)) (x22458:T2) (v5_162:(List Int)):Nat→(List T8)→Int→Option (T4 × Int)
 | 0,_,_=>none
 | n86+1,vb4_6_7_165,v10_165 =>
 bif (decide (v10_165 < (g_.Timeouts.length:Int))) then ((idx g_.Timeouts v10_165).bind fun x22760 =>
 (idx x19974 v8_153).bind fun x22766 =>
 bif (x22760.Else==x22766) then ((idx g_.Timeouts v10_165).bind fun x22776 =>
 (appL vb4_6_7_165 ([(⟨v6_84,x22776.Ticks,(vb4_6_6_153.length:Int)⟩:T8)]:List T8)).bind fun x22785 =>
 (z34_l6 N g_ v6_84 x19974 vb4_6_6_153 v8_153 ag153 x22458 v5_162 n86) x22785 (w64 (v10_165+(1:Int))))
 else (z34_l6 N g_ v6_84 x19974 vb4_6_6_153 v8_153 ag153 x22458 v5_162 n86) vb4_6_7_165 (w64 (v10_165+(1:Int))))
 else z34_k5 N v6_84 vb4_6_6_153 v8_153 ag153 x22458 v5_162 vb4_6_7_165
def z34_k7 (N:Nat) (g_:T4) (v6_84:Int) (x19974:(List Int)) (vb4_6_6_153:(List T2)) (vb4_6_7_153:(List T8)) (v8_153:Int) (ag153:(List T2)→(List T8)→(List Int)→Int→Option (T4 × Int)) (x22458:T2) (v5_162:(List Int)):Option (T4 × Int) :=
 z34_l6 N g_ v6_84 x19974 vb4_6_6_153 v8_153 ag153 x22458 v5_162 N vb4_6_7_153 (0:Int)
def z34_l4 (N:Nat) (g_:T4) (v6_84:Int) (ag84:(List T2)→(List T8)→(List Int)→Int→Option (T4 × Int)) (x19974:(List Int)):Nat→(List T2)→(List T8)→(List Int)→Int→Option (T4 × Int)
 | 0,_,_,_,_=>none
 | n84+1,vb4_6_6_153,vb4_6_7_153,v5_153,v8_153 =>
 bif (decide (v8_153 < (x19974.length:Int))) then ((idx x19974 v8_153).bind fun x22455 =>
 (idx g_.Edges x22455).bind fun x22458 =>
 (z80 N v5_153 x22458.To).bind fun x22463 =>
 bif (decide (x22463 < (0:Int))) then ((appL v5_153 ([x22458.To]:List Int)).bind fun x22789 =>
 z34_k7 N g_ v6_84 x19974 vb4_6_6_153 vb4_6_7_153 v8_153 (z34_l4 N g_ v6_84 ag84 x19974 n84) x22458 x22789)
 else z34_k7 N g_ v6_84 x19974 vb4_6_6_153 vb4_6_7_153 v8_153 (z34_l4 N g_ v6_84 ag84 x19974 n84) x22458 v5_153)
 else z34_k3 v6_84 ag84 vb4_6_6_153 vb4_6_7_153 v5_153
def z34_l2 (N:Nat) (g_:T4):Nat→(List T2)→(List T8)→(List Int)→Int→Option (T4 × Int)
 | 0,_,_,_,_=>none
 | n72+1,vb4_6_6_84,vb4_6_7_84,v5_84,v6_84 =>
 bif (decide (v6_84 < (v5_84.length:Int))) then ((idx v5_84 v6_84).bind fun x19971 =>
 (z28 N g_ x19971).bind fun x19974 =>
 z34_l4 N g_ v6_84 (z34_l2 N g_ n72) x19974 N vb4_6_6_84 vb4_6_7_84 v5_84 (0:Int))
 else z34_k1 N g_ vb4_6_6_84 vb4_6_7_84 v5_84
def z34 (N:Nat) (g_:T4):Option (T4 × Int) :=
 (z19 N g_).bind fun x1 =>
 bif (!x1) then (some ((⟨(str []),([]:List ByteArray),([]:List T0),(0:Int),(0:Int),(0:Int),([]:List T2),([]:List T8)⟩:T4),(1:Int)))
 else z34_l2 N g_ N ([]:List T2) ([]:List T8) ([g_.Start]:List Int) (0:Int)
def z130_k1 (v3_2:Int) (v4_2:(List Int)):Option (List Int) :=
 (appL v4_2 ([(wk .u8 (v3_2))]:List Int)).bind fun x5 =>
 some x5
def z130_l2:Nat→Int→(List Int)→Option (List Int)
 | 0,_,_=>none
 | n2+1,v3_4,v4_4 =>
 bif (decide (v3_4≥(128:Int))) then ((appL v4_4 ([(wk .u8 ((wk .u8 ((v3_4.tmod (128:Int))))+(128:Int)))]:List Int)).bind fun x10 =>
 (z130_l2 n2) (wk .u64 (v3_4.tdiv (128:Int))) x10)
 else z130_k1 v3_4 v4_4
def z130_k3 (N:Nat) (v3_1:Int):Option (List Int) :=
 z130_l2 N v3_1 ([]:List Int)
def z130 (N:Nat) (n_:Int):Option (List Int) :=
 bif (decide (n_ < (0:Int))) then (z130_k3 N (wk .u64 ((wk .u64 ((wk .u64 ((w64 (0-(w64 (n_+(1:Int))))))) * (2:Int)))+(1:Int))))
 else z130_k3 N (wk .u64 ((wk .u64 (n_)) * (2:Int)))
def z129 (N:Nat) (x_:(List Int)):Option (List Int) :=
 (z130 N (x_.length:Int)).bind fun x1 =>
 (appL x1 x_).bind fun x2 =>
 some x2
def z87 (N:Nat) (s_:ByteArray):Option (List Int) :=
 (z129 N (bytesL s_)).bind fun x1 =>
 some x1
def z88_k1 (v3_1:(List Int)):Option (List Int) :=
 some v3_1
def z88_l2 (N:Nat) (l_:(List Int)):Nat→(List Int)→Int→Option (List Int)
 | 0,_,_=>none
 | n2+1,v3_3,v4_3 =>
 bif (decide (v4_3 < (l_.length:Int))) then ((idx l_ v4_3).bind fun x25 =>
 (z130 N x25).bind fun x26 =>
 (appL v3_3 x26).bind fun x27 =>
 (z88_l2 N l_ n2) x27 (w64 (v4_3+(1:Int))))
 else z88_k1 v3_3
def z88 (N:Nat) (l_:(List Int)):Option (List Int) :=
 z88_l2 N l_ N ([]:List Int) (0:Int)
def z89_k1 (v3_5:(List Int)):Option (List Int) :=
 some v3_5
def z89_l2 (N:Nat) (d_:T0):Nat→(List Int)→Int→Option (List Int)
 | 0,_,_=>none
 | n4+1,v3_7,v8_7 =>
 bif (decide (v8_7 < (d_.Guard.Equals.length:Int))) then ((idx d_.Guard.Equals v8_7).bind fun x311 =>
 (idx d_.Guard.Equals v8_7).bind fun x319 =>
 (z88 N ([x311.1,x319.2]:List Int)).bind fun x324 =>
 (appL v3_7 x324).bind fun x326 =>
 (z89_l2 N d_ n4) x326 (w64 (v8_7+(1:Int))))
 else z89_k1 v3_7
def z89_k3 (N:Nat) (d_:T0) (v3_3:(List Int)):Option (List Int) :=
 (z88 N ([(d_.Guard.Equals.length:Int)]:List Int)).bind fun x120 =>
 (appL v3_3 x120).bind fun x121 =>
 z89_l2 N d_ N x121 (0:Int)
def z89_l4 (N:Nat) (d_:T0):Nat→(List Int)→Int→Option (List Int)
 | 0,_,_=>none
 | n5+1,v3_8,v6_8 =>
 bif (decide (v6_8 < (d_.Guard.Diffs.length:Int))) then ((idx d_.Guard.Diffs v6_8).bind fun x341 =>
 (z88 N ([x341.X,x341.Y,x341.C]:List Int)).bind fun x342 =>
 (appL v3_8 x342).bind fun x343 =>
 (z89_l4 N d_ n5) x343 (w64 (v6_8+(1:Int))))
 else z89_k3 N d_ v3_8
def z89_k5 (N:Nat) (d_:T0) (v3_1:(List Int)):Option (List Int) :=
 (z88 N ([d_.First,(d_.Guard.Diffs.length:Int)]:List Int)).bind fun x106 =>
 (appL v3_1 x106).bind fun x107 =>
 z89_l4 N d_ N x107 (0:Int)
def z89_l6 (N:Nat) (d_:T0):Nat→(List Int)→Int→Option (List Int)
 | 0,_,_=>none
 | n6+1,v3_9,v4_9 =>
 bif (decide (v4_9 < (d_.Fields.length:Int))) then ((idx d_.Fields v4_9).bind fun x436 =>
 (z87 N x436.Name).bind fun x440 =>
 (appL v3_9 x440).bind fun x442 =>
 (z88 N ([x436.Sort'.Kind,x436.Sort'.Lo,x436.Sort'.Hi]:List Int)).bind fun x454 =>
 (appL x442 x454).bind fun x456 =>
 (z89_l6 N d_ n6) x456 (w64 (v4_9+(1:Int))))
 else z89_k5 N d_ v3_9
def z89 (N:Nat) (d_:T0):Option (List Int) :=
 (z87 N d_.Name).bind fun x3 =>
 (z88 N ([(d_.Fields.length:Int)]:List Int)).bind fun x9 =>
 (appL x3 x9).bind fun x11 =>
 z89_l6 N d_ N x11 (0:Int)
def z90 (N:Nat) (v_:Bool):Option (List Int) :=
 bif v_ then (some ([(1:Int)]:List Int))
 else some ([(0:Int)]:List Int)
def z39_k1 (v3_7:(List Int)):Option (List Int) :=
 some v3_7
def z39_l2 (N:Nat) (g_:T4):Nat→(List Int)→Int→Option (List Int)
 | 0,_,_=>none
 | n5+1,v3_9,v8_9 =>
 bif (decide (v8_9 < (g_.Timeouts.length:Int))) then ((idx g_.Timeouts v8_9).bind fun x381 =>
 (idx g_.Timeouts v8_9).bind fun x388 =>
 (idx g_.Timeouts v8_9).bind fun x395 =>
 (z88 N ([x381.State,x388.Ticks,x395.Else]:List Int)).bind fun x400 =>
 (appL v3_9 x400).bind fun x402 =>
 (z39_l2 N g_ n5) x402 (w64 (v8_9+(1:Int))))
 else z39_k1 v3_9
def z39_k3 (N:Nat) (g_:T4) (v3_5:(List Int)):Option (List Int) :=
 (z88 N ([(g_.Timeouts.length:Int)]:List Int)).bind fun x151 =>
 (appL v3_5 x151).bind fun x152 =>
 z39_l2 N g_ N x152 (0:Int)
def z39_l4 (N:Nat) (g_:T4):Nat→(List Int)→Int→Option (List Int)
 | 0,_,_=>none
 | n6+1,v3_10,v6_10 =>
 bif (decide (v6_10 < (g_.Edges.length:Int))) then ((idx g_.Edges v6_10).bind fun x513 =>
 (z88 N ([x513.From,x513.Act.From,x513.Act.To,x513.Act.Label,x513.To]:List Int)).bind fun x529 =>
 (appL v3_10 x529).bind fun x531 =>
 (z90 N x513.Again).bind fun x535 =>
 (appL x531 x535).bind fun x537 =>
 (z39_l4 N g_ n6) x537 (w64 (v6_10+(1:Int))))
 else z39_k3 N g_ v3_10
def z39_k5 (N:Nat) (g_:T4) (v3_3:(List Int)):Option (List Int) :=
 (z88 N ([g_.States,g_.Start,g_.End,(g_.Edges.length:Int)]:List Int)).bind fun x41 =>
 (appL v3_3 x41).bind fun x42 =>
 z39_l4 N g_ N x42 (0:Int)
def z39_l6 (N:Nat) (g_:T4):Nat→(List Int)→Int→Option (List Int)
 | 0,_,_=>none
 | n7+1,v3_11,v5_11 =>
 bif (decide (v5_11 < (g_.Decls.length:Int))) then ((idx g_.Decls v5_11).bind fun x552 =>
 (z89 N x552).bind fun x553 =>
 (appL v3_11 x553).bind fun x554 =>
 (z39_l6 N g_ n7) x554 (w64 (v5_11+(1:Int))))
 else z39_k5 N g_ v3_11
def z39_k7 (N:Nat) (g_:T4) (v3_1:(List Int)):Option (List Int) :=
 (z88 N ([(g_.Decls.length:Int)]:List Int)).bind fun x27 =>
 (appL v3_1 x27).bind fun x28 =>
 z39_l6 N g_ N x28 (0:Int)
def z39_l8 (N:Nat) (g_:T4):Nat→(List Int)→Int→Option (List Int)
 | 0,_,_=>none
 | n8+1,v3_12,v4_12 =>
 bif (decide (v4_12 < (g_.Roles.length:Int))) then ((idx g_.Roles v4_12).bind fun x567 =>
 (z87 N x567).bind fun x568 =>
 (appL v3_12 x568).bind fun x569 =>
 (z39_l8 N g_ n8) x569 (w64 (v4_12+(1:Int))))
 else z39_k7 N g_ v3_12
def z39 (N:Nat) (g_:T4):Option (List Int) :=
 (z19 N g_).bind fun x1 =>
 bif (!x1) then (some ([]:List Int))
 else (z87 N g_.Name).bind fun x4 =>
 (z88 N ([(g_.Roles.length:Int)]:List Int)).bind fun x10 =>
 (appL x4 x10).bind fun x12 =>
 z39_l8 N g_ N x12 (0:Int)
def z38 (N:Nat) (a_:(List Int)) (b_:(List Int)):Option Bool :=
 some ((strOf a_).toList==(strOf b_).toList)
def z131_k1 (v5_1:Int):Option Int :=
 some v5_1
def z131_l2 (b_:(List Int)):Nat→Int→Int→Option Int
 | 0,_,_=>none
 | n2+1,v5_3,v6_3 =>
 bif (decide (v6_3 < (b_.length:Int))) then ((idx b_ v6_3).bind fun x17 =>
 (binO .xor .u64 v5_3 (wk .u64 (x17))).bind fun x18 =>
 (z131_l2 b_ n2) (wk .u64 (x18 * (1099511628211:Int))) (w64 (v6_3+(1:Int))))
 else z131_k1 v5_3
def z131 (N:Nat) (seed_:Int) (b_:(List Int)):Option Int :=
 z131_l2 b_ N seed_ (0:Int)
def z91 (N:Nat) (b_:(List Int)):Option Int :=
 (z131 N (14695981039346656037:Int) b_).bind fun x1 =>
 some x1
def z40 (N:Nat) (g_:T4):Option Int :=
 (z34 N g_).bind fun x1 =>
 bif (x1.2 != (0:Int)) then (some (0:Int))
 else (z39 N x1.1).bind fun x2 =>
 (z91 N x2).bind fun x3 =>
 some x3
def z92 (N:Nat) (b_:(List Int)):Option T12 :=
 (appL ([]:List Int) b_).bind fun x1 =>
 some (⟨x1,(0:Int),false⟩:T12)
def z165 (N:Nat) (r_:T12) (n_:Int):Option ((List Int) × T12) :=
 bif r_.failed' then (some (([]:List Int),(⟨r_.b',r_.at',true⟩:T12)))
 else bif (decide (n_ > (w64 ((r_.b'.length:Int)-r_.at')))) then (some (([]:List Int),(⟨r_.b',r_.at',true⟩:T12)))
 else (lsl r_.b' (some (w64 ((w64 (r_.at'+n_))-n_))) (some (w64 (r_.at'+n_)))).bind fun x2 =>
 some (x2,(⟨r_.b',(w64 (r_.at'+n_)),r_.failed'⟩:T12))
def z141_k1 (vbk0_0_0_1:(List Int)) (vbk0_0_1_1:Int) (vbk0_0_2_1:Bool):Option (Int × T12) :=
 some ((0:Int),(⟨vbk0_0_0_1,vbk0_0_1_1,true⟩:T12))
def z141_l2 (N:Nat):Nat→(List Int)→Int→Bool→Int→Int→Option (Int × T12)
 | 0,_,_,_,_,_=>none
 | n2+1,vbk0_0_0_3,vbk0_0_1_3,vbk0_0_2_3,v3_3,v6_3 =>
 bif (decide (v6_3 < (10:Int))) then ((z165 N (⟨vbk0_0_0_3,vbk0_0_1_3,vbk0_0_2_3⟩:T12) (1:Int)).bind fun x193 =>
 bif x193.2.failed' then (some ((0:Int),x193.2))
 else (idx x193.1 (0:Int)).bind fun x194 =>
 (binO .and .u8 x194 (127:Int)).bind fun x195 =>
 (binO .shl .u64 (wk .u64 (x195)) (w64 ((7:Int) * v6_3))).bind fun x196 =>
 (binO .or .u64 v3_3 x196).bind fun x197 =>
 (idx x193.1 (0:Int)).bind fun x198 =>
 bif (decide (x198 < (128:Int))) then ((idx x193.1 (0:Int)).bind fun x199 =>
 bif (x199==(0:Int)) then (bif (decide (v6_3 > (0:Int))) then ((binO .shr .u64 x197 (1:Int)).bind fun x200 =>
 (binO .and .u64 x197 (1:Int)).bind fun x201 =>
 (binO .xor .i64 (w64 (x200)) (w64 (0-(w64 (x201))))).bind fun x202 =>
 some (x202,(⟨x193.2.b',x193.2.at',true⟩:T12)))
 else bif (v6_3==(9:Int)) then ((idx x193.1 (0:Int)).bind fun x203 =>
 (binO .shr .u64 x197 (1:Int)).bind fun x204 =>
 (binO .and .u64 x197 (1:Int)).bind fun x205 =>
 (binO .xor .i64 (w64 (x204)) (w64 (0-(w64 (x205))))).bind fun x206 =>
 some (x206,(⟨x193.2.b',x193.2.at',(decide (x203 > (1:Int)))⟩:T12)))
 else (binO .shr .u64 x197 (1:Int)).bind fun x207 =>
 (binO .and .u64 x197 (1:Int)).bind fun x208 =>
 (binO .xor .i64 (w64 (x207)) (w64 (0-(w64 (x208))))).bind fun x209 =>
 some (x209,(⟨x193.2.b',x193.2.at',false⟩:T12)))
 else bif (v6_3==(9:Int)) then ((idx x193.1 (0:Int)).bind fun x210 =>
 (binO .shr .u64 x197 (1:Int)).bind fun x211 =>
 (binO .and .u64 x197 (1:Int)).bind fun x212 =>
 (binO .xor .i64 (w64 (x211)) (w64 (0-(w64 (x212))))).bind fun x213 =>
 some (x213,(⟨x193.2.b',x193.2.at',(decide (x210 > (1:Int)))⟩:T12)))
 else (binO .shr .u64 x197 (1:Int)).bind fun x214 =>
 (binO .and .u64 x197 (1:Int)).bind fun x215 =>
 (binO .xor .i64 (w64 (x214)) (w64 (0-(w64 (x215))))).bind fun x216 =>
 some (x216,(⟨x193.2.b',x193.2.at',false⟩:T12)))
 else (z141_l2 N n2) x193.2.b' x193.2.at' x193.2.failed' x197 (w64 (v6_3+(1:Int))))
 else z141_k1 vbk0_0_0_3 vbk0_0_1_3 vbk0_0_2_3
def z141 (N:Nat) (r_:T12):Option (Int × T12) :=
 z141_l2 N N r_.b' r_.at' r_.failed' (0:Int) (0:Int)
def z164 (N:Nat) (r_:T12) (lo_:Int) (hi_:Int):Option (Int × T12) :=
 (z141 N r_).bind fun x1 =>
 bif x1.2.failed' then (some (x1.1,(⟨x1.2.b',x1.2.at',true⟩:T12)))
 else bif (decide (x1.1 < lo_)) then (some (x1.1,(⟨x1.2.b',x1.2.at',true⟩:T12)))
 else some (x1.1,(⟨x1.2.b',x1.2.at',(decide (x1.1 > hi_))⟩:T12))
def z162 (N:Nat) (r_:T12) (most_:Int):Option ((List Int) × T12) :=
 (z164 N r_ (0:Int) most_).bind fun x1 =>
 bif x1.2.failed' then (some (([]:List Int),x1.2))
 else (z165 N x1.2 x1.1).bind fun x2 =>
 some (x2.1,x2.2)
def z161_21 (N:Nat) (c0_:T12) (c2_:Int):Option ((List Int) × T12) :=
 (z162 N c0_ c2_).bind fun x1 =>
 (appL ([]:List Int) x1.1).bind fun x2 =>
 some (x2,x1.2)
def z160_22 (N:Nat) (c0_:T12) (c2_:Int):Option ((List Int) × T12) :=
 bif c0_.failed' then (some (([]:List Int),c0_))
 else (z161_21 N c0_ c2_).bind fun x1 =>
 bif x1.2.failed' then (some (([]:List Int),(⟨x1.2.b',c0_.at',x1.2.failed'⟩:T12)))
 else some (x1.1,x1.2)
def z132 (N:Nat) (r_:T12) (most_:Int):Option ((List Int) × T12) :=
 (z160_22 N r_ most_).bind fun x1 =>
 some (x1.1,x1.2)
def z93 (N:Nat) (r_:T12) (most_:Int):Option (ByteArray × T12) :=
 (z132 N r_ most_).bind fun x1 =>
 some ((strOf x1.1),x1.2)
def z163_23 (N:Nat) (c0_:T12) (c2_:Int) (c3_:Int):Option (Int × T12) :=
 (z164 N c0_ c2_ c3_).bind fun x1 =>
 some (x1.1,x1.2)
def z140_24 (N:Nat) (c0_:T12) (c2_:Int) (c3_:Int):Option (Int × T12) :=
 bif c0_.failed' then (some ((0:Int),c0_))
 else (z163_23 N c0_ c2_ c3_).bind fun x1 =>
 bif x1.2.failed' then (some ((0:Int),(⟨x1.2.b',c0_.at',x1.2.failed'⟩:T12)))
 else some (x1.1,x1.2)
def z133 (N:Nat) (r_:T12) (lo_:Int) (hi_:Int):Option (Int × T12) :=
 (z140_24 N r_ lo_ hi_).bind fun x1 =>
 some (x1.1,x1.2)
def z95 (N:Nat) (r_:T12):Option (ByteArray × T12) :=
 (z93 N r_ (16:Int)).bind fun x1 =>
 some (x1.1,x1.2)
def z94_25_k1 (vbk0_0_0_1:(List Int)) (vbk0_0_1_1:Int) (vbk0_0_2_1:Bool) (v7_1:(List ByteArray)):Option ((List ByteArray) × T12) :=
 some (v7_1,(⟨vbk0_0_0_1,vbk0_0_1_1,vbk0_0_2_1⟩:T12))
def z94_25_l2 (N:Nat) (x1:Int × T12):Nat→(List Int)→Int→Bool→(List ByteArray)→Int→Option ((List ByteArray) × T12)
 | 0,_,_,_,_,_=>none
 | n2+1,vbk0_0_0_3,vbk0_0_1_3,vbk0_0_2_3,v7_3,v11_3 =>
 bif (decide (v11_3 < x1.1)) then ((z95 N (⟨vbk0_0_0_3,vbk0_0_1_3,vbk0_0_2_3⟩:T12)).bind fun x18 =>
 (appL v7_3 ([x18.1]:List ByteArray)).bind fun x19 =>
 (z94_25_l2 N x1 n2) x18.2.b' x18.2.at' x18.2.failed' x19 (w64 (v11_3+(1:Int))))
 else z94_25_k1 vbk0_0_0_3 vbk0_0_1_3 vbk0_0_2_3 v7_3
def z94_25 (N:Nat) (r_:T12) (most_:Int):Option ((List ByteArray) × T12) :=
 (z133 N r_ (0:Int) most_).bind fun x1 =>
 z94_25_l2 N x1 N x1.2.b' x1.2.at' x1.2.failed' ([]:List ByteArray) (0:Int)
def z140_26 (N:Nat) (c0_:T12):Option (Int × T12) :=
 bif c0_.failed' then (some ((0:Int),c0_))
 else (z141 N c0_).bind fun x1 =>
 bif x1.2.failed' then (some ((0:Int),(⟨x1.2.b',c0_.at',x1.2.failed'⟩:T12)))
 else some (x1.1,x1.2)
def z98 (N:Nat) (r_:T12):Option (Int × T12) :=
 (z140_26 N r_).bind fun x1 =>
 some (x1.1,x1.2)
def z135 (N:Nat) (r_:T12):Option (T3 × T12) :=
 (z93 N r_ (16:Int)).bind fun x1 =>
 (z98 N x1.2).bind fun x2 =>
 (z98 N x2.2).bind fun x3 =>
 (z98 N x3.2).bind fun x4 =>
 some ((⟨x1.1,(⟨x2.1,x3.1,x4.1⟩:T7)⟩:T3),x4.2)
def z134_27_k1 (vbk0_0_0_1:(List Int)) (vbk0_0_1_1:Int) (vbk0_0_2_1:Bool) (v7_1:(List T3)):Option ((List T3) × T12) :=
 some (v7_1,(⟨vbk0_0_0_1,vbk0_0_1_1,vbk0_0_2_1⟩:T12))
def z134_27_l2 (N:Nat) (x1:Int × T12):Nat→(List Int)→Int→Bool→(List T3)→Int→Option ((List T3) × T12)
 | 0,_,_,_,_,_=>none
 | n2+1,vbk0_0_0_3,vbk0_0_1_3,vbk0_0_2_3,v7_3,v11_3 =>
 bif (decide (v11_3 < x1.1)) then ((z135 N (⟨vbk0_0_0_3,vbk0_0_1_3,vbk0_0_2_3⟩:T12)).bind fun x18 =>
 (appL v7_3 ([x18.1]:List T3)).bind fun x19 =>
 (z134_27_l2 N x1 n2) x18.2.b' x18.2.at' x18.2.failed' x19 (w64 (v11_3+(1:Int))))
 else z134_27_k1 vbk0_0_0_3 vbk0_0_1_3 vbk0_0_2_3 v7_3
def z134_27 (N:Nat) (r_:T12) (most_:Int):Option ((List T3) × T12) :=
 (z133 N r_ (0:Int) most_).bind fun x1 =>
 z134_27_l2 N x1 N x1.2.b' x1.2.at' x1.2.failed' ([]:List T3) (0:Int)
def z137 (N:Nat) (r_:T12):Option (T1 × T12) :=
 (z98 N r_).bind fun x1 =>
 (z98 N x1.2).bind fun x2 =>
 (z98 N x2.2).bind fun x3 =>
 some ((⟨x1.1,x2.1,x3.1⟩:T1),x3.2)
def z136_28_k1 (vbk0_0_0_1:(List Int)) (vbk0_0_1_1:Int) (vbk0_0_2_1:Bool) (v7_1:(List T1)):Option ((List T1) × T12) :=
 some (v7_1,(⟨vbk0_0_0_1,vbk0_0_1_1,vbk0_0_2_1⟩:T12))
def z136_28_l2 (N:Nat) (x1:Int × T12):Nat→(List Int)→Int→Bool→(List T1)→Int→Option ((List T1) × T12)
 | 0,_,_,_,_,_=>none
 | n2+1,vbk0_0_0_3,vbk0_0_1_3,vbk0_0_2_3,v7_3,v11_3 =>
 bif (decide (v11_3 < x1.1)) then ((z137 N (⟨vbk0_0_0_3,vbk0_0_1_3,vbk0_0_2_3⟩:T12)).bind fun x18 =>
 (appL v7_3 ([x18.1]:List T1)).bind fun x19 =>
 (z136_28_l2 N x1 n2) x18.2.b' x18.2.at' x18.2.failed' x19 (w64 (v11_3+(1:Int))))
 else z136_28_k1 vbk0_0_0_3 vbk0_0_1_3 vbk0_0_2_3 v7_3
def z136_28 (N:Nat) (r_:T12) (most_:Int):Option ((List T1) × T12) :=
 (z133 N r_ (0:Int) most_).bind fun x1 =>
 z136_28_l2 N x1 N x1.2.b' x1.2.at' x1.2.failed' ([]:List T1) (0:Int)
def z139 (N:Nat) (r_:T12):Option ((Int × Int) × T12) :=
 (z98 N r_).bind fun x1 =>
 (z98 N x1.2).bind fun x2 =>
 some ((x1.1,x2.1),x2.2)
def z138_29_k1 (vbk0_0_0_1:(List Int)) (vbk0_0_1_1:Int) (vbk0_0_2_1:Bool) (v7_1:(List (Int × Int))):Option ((List (Int × Int)) × T12) :=
 some (v7_1,(⟨vbk0_0_0_1,vbk0_0_1_1,vbk0_0_2_1⟩:T12))
def z138_29_l2 (N:Nat) (x1:Int × T12):Nat→(List Int)→Int→Bool→(List (Int × Int))→Int→Option ((List (Int × Int)) × T12)
 | 0,_,_,_,_,_=>none
 | n2+1,vbk0_0_0_3,vbk0_0_1_3,vbk0_0_2_3,v7_3,v11_3 =>
 bif (decide (v11_3 < x1.1)) then ((z139 N (⟨vbk0_0_0_3,vbk0_0_1_3,vbk0_0_2_3⟩:T12)).bind fun x18 =>
 (appL v7_3 ([(x18.1.1,x18.1.2)]:List (Int × Int))).bind fun x19 =>
 (z138_29_l2 N x1 n2) x18.2.b' x18.2.at' x18.2.failed' x19 (w64 (v11_3+(1:Int))))
 else z138_29_k1 vbk0_0_0_3 vbk0_0_1_3 vbk0_0_2_3 v7_3
def z138_29 (N:Nat) (r_:T12) (most_:Int):Option ((List (Int × Int)) × T12) :=
 (z133 N r_ (0:Int) most_).bind fun x1 =>
 z138_29_l2 N x1 N x1.2.b' x1.2.at' x1.2.failed' ([]:List (Int × Int)) (0:Int)
def z97 (N:Nat) (r_:T12):Option (T0 × T12) :=
 (z93 N r_ (50:Int)).bind fun x1 =>
 (z134_27 N x1.2 (4:Int)).bind fun x2 =>
 (z98 N x2.2).bind fun x3 =>
 (z136_28 N x3.2 (20:Int)).bind fun x4 =>
 (z138_29 N x4.2 (20:Int)).bind fun x5 =>
 some ((⟨x1.1,x2.1,x3.1,(⟨x4.1,x5.1⟩:T5)⟩:T0),x5.2)
def z96_30_k1 (vbk0_0_0_1:(List Int)) (vbk0_0_1_1:Int) (vbk0_0_2_1:Bool) (v7_1:(List T0)):Option ((List T0) × T12) :=
 some (v7_1,(⟨vbk0_0_0_1,vbk0_0_1_1,vbk0_0_2_1⟩:T12))
def z96_30_l2 (N:Nat) (x1:Int × T12):Nat→(List Int)→Int→Bool→(List T0)→Int→Option ((List T0) × T12)
 | 0,_,_,_,_,_=>none
 | n2+1,vbk0_0_0_3,vbk0_0_1_3,vbk0_0_2_3,v7_3,v11_3 =>
 bif (decide (v11_3 < x1.1)) then ((z97 N (⟨vbk0_0_0_3,vbk0_0_1_3,vbk0_0_2_3⟩:T12)).bind fun x18 =>
 (appL v7_3 ([x18.1]:List T0)).bind fun x19 =>
 (z96_30_l2 N x1 n2) x18.2.b' x18.2.at' x18.2.failed' x19 (w64 (v11_3+(1:Int))))
 else z96_30_k1 vbk0_0_0_3 vbk0_0_1_3 vbk0_0_2_3 v7_3
def z96_30 (N:Nat) (r_:T12) (most_:Int):Option ((List T0) × T12) :=
 (z133 N r_ (0:Int) most_).bind fun x1 =>
 z96_30_l2 N x1 N x1.2.b' x1.2.at' x1.2.failed' ([]:List T0) (0:Int)
def z167 (N:Nat) (r_:T12):Option (Bool × T12) :=
 (z165 N r_ (1:Int)).bind fun x1 =>
 bif x1.2.failed' then (some (false,(⟨x1.2.b',x1.2.at',true⟩:T12)))
 else (idx x1.1 (0:Int)).bind fun x2 =>
 bif (!(decide (x2 > (1:Int)))) then ((idx x1.1 (0:Int)).bind fun x3 =>
 some ((x3==(1:Int)),(⟨x1.2.b',x1.2.at',(decide (x2 > (1:Int)))⟩:T12)))
 else some (false,(⟨x1.2.b',x1.2.at',(decide (x2 > (1:Int)))⟩:T12))
def z166_31 (N:Nat) (c0_:T12):Option (Bool × T12) :=
 bif c0_.failed' then (some (false,c0_))
 else (z167 N c0_).bind fun x1 =>
 bif x1.2.failed' then (some (false,(⟨x1.2.b',c0_.at',x1.2.failed'⟩:T12)))
 else some (x1.1,x1.2)
def z142 (N:Nat) (r_:T12):Option (Bool × T12) :=
 (z166_31 N r_).bind fun x1 =>
 some (x1.1,x1.2)
def z100 (N:Nat) (r_:T12):Option (T2 × T12) :=
 (z98 N r_).bind fun x1 =>
 (z98 N x1.2).bind fun x2 =>
 (z98 N x2.2).bind fun x3 =>
 (z98 N x3.2).bind fun x4 =>
 (z98 N x4.2).bind fun x5 =>
 (z142 N x5.2).bind fun x6 =>
 some ((⟨x1.1,(⟨x2.1,x3.1,x4.1⟩:T6),x5.1,x6.1⟩:T2),x6.2)
def z99_32_k1 (vbk0_0_0_1:(List Int)) (vbk0_0_1_1:Int) (vbk0_0_2_1:Bool) (v7_1:(List T2)):Option ((List T2) × T12) :=
 some (v7_1,(⟨vbk0_0_0_1,vbk0_0_1_1,vbk0_0_2_1⟩:T12))
def z99_32_l2 (N:Nat) (x1:Int × T12):Nat→(List Int)→Int→Bool→(List T2)→Int→Option ((List T2) × T12)
 | 0,_,_,_,_,_=>none
 | n2+1,vbk0_0_0_3,vbk0_0_1_3,vbk0_0_2_3,v7_3,v11_3 =>
 bif (decide (v11_3 < x1.1)) then ((z100 N (⟨vbk0_0_0_3,vbk0_0_1_3,vbk0_0_2_3⟩:T12)).bind fun x18 =>
 (appL v7_3 ([x18.1]:List T2)).bind fun x19 =>
 (z99_32_l2 N x1 n2) x18.2.b' x18.2.at' x18.2.failed' x19 (w64 (v11_3+(1:Int))))
 else z99_32_k1 vbk0_0_0_3 vbk0_0_1_3 vbk0_0_2_3 v7_3
def z99_32 (N:Nat) (r_:T12) (most_:Int):Option ((List T2) × T12) :=
 (z133 N r_ (0:Int) most_).bind fun x1 =>
 z99_32_l2 N x1 N x1.2.b' x1.2.at' x1.2.failed' ([]:List T2) (0:Int)
def z102 (N:Nat) (r_:T12):Option (T8 × T12) :=
 (z98 N r_).bind fun x1 =>
 (z98 N x1.2).bind fun x2 =>
 (z98 N x2.2).bind fun x3 =>
 some ((⟨x1.1,x2.1,x3.1⟩:T8),x3.2)
def z101_33_k1 (vbk0_0_0_1:(List Int)) (vbk0_0_1_1:Int) (vbk0_0_2_1:Bool) (v7_1:(List T8)):Option ((List T8) × T12) :=
 some (v7_1,(⟨vbk0_0_0_1,vbk0_0_1_1,vbk0_0_2_1⟩:T12))
def z101_33_l2 (N:Nat) (x1:Int × T12):Nat→(List Int)→Int→Bool→(List T8)→Int→Option ((List T8) × T12)
 | 0,_,_,_,_,_=>none
 | n2+1,vbk0_0_0_3,vbk0_0_1_3,vbk0_0_2_3,v7_3,v11_3 =>
 bif (decide (v11_3 < x1.1)) then ((z102 N (⟨vbk0_0_0_3,vbk0_0_1_3,vbk0_0_2_3⟩:T12)).bind fun x18 =>
 (appL v7_3 ([x18.1]:List T8)).bind fun x19 =>
 (z101_33_l2 N x1 n2) x18.2.b' x18.2.at' x18.2.failed' x19 (w64 (v11_3+(1:Int))))
 else z101_33_k1 vbk0_0_0_3 vbk0_0_1_3 vbk0_0_2_3 v7_3
def z101_33 (N:Nat) (r_:T12) (most_:Int):Option ((List T8) × T12) :=
 (z133 N r_ (0:Int) most_).bind fun x1 =>
 z101_33_l2 N x1 N x1.2.b' x1.2.at' x1.2.failed' ([]:List T8) (0:Int)
def z143 (N:Nat) (r_:T12):Option Int :=
 some (w64 ((r_.b'.length:Int)-r_.at'))
def z103 (N:Nat) (r_:T12):Option Int :=
 bif r_.failed' then (some (4:Int))
 else (z143 N r_).bind fun x1 =>
 bif (decide (x1 > (0:Int))) then (some (4:Int))
 else some (0:Int)
def z41 (N:Nat) (b_:(List Int)):Option (T4 × Int) :=
 (z92 N b_).bind fun x1 =>
 (z93 N x1 (16:Int)).bind fun x2 =>
 (z94_25 N x2.2 (6:Int)).bind fun x3 =>
 (z96_30 N x3.2 (40:Int)).bind fun x4 =>
 (z98 N x4.2).bind fun x5 =>
 (z98 N x5.2).bind fun x6 =>
 (z98 N x6.2).bind fun x7 =>
 (z99_32 N x7.2 (400:Int)).bind fun x8 =>
 (z101_33 N x8.2 (200:Int)).bind fun x9 =>
 (z103 N x9.2).bind fun x10 =>
 bif (x10 != (0:Int)) then (some ((⟨(str []),([]:List ByteArray),([]:List T0),(0:Int),(0:Int),(0:Int),([]:List T2),([]:List T8)⟩:T4),(4:Int)))
 else (z22 N (⟨x2.1,x3.1,x4.1,x5.1,x6.1,x7.1,x8.1,x9.1⟩:T4)).bind fun x11 =>
 bif (!x11) then (some ((⟨(str []),([]:List ByteArray),([]:List T0),(0:Int),(0:Int),(0:Int),([]:List T2),([]:List T8)⟩:T4),(4:Int)))
 else some ((⟨x2.1,x3.1,x4.1,x5.1,x6.1,x7.1,x8.1,x9.1⟩:T4),(0:Int))
def law18_GlobalCode (N:Nat) (g_:T4):Option Bool :=
 (z12 N).bind fun x1 =>
 bif (!x1) then ((z12 N).bind fun x2 =>
 some x2)
 else (z13 N g_).bind fun x3 =>
 bif (!x3) then ((z12 N).bind fun x4 =>
 some x4)
 else (z37 N g_).bind fun x5 =>
 (z39 N g_).bind fun x8 =>
 (z38 N x5 x8).bind fun x10 =>
 bif (!x10) then (some false)
 else (z24 N g_).bind fun x23 =>
 (z40 N g_).bind fun x26 =>
 bif (x23 != x26) then (some false)
 else (z41 N x5).bind fun x30 =>
 (z19 N g_).bind fun x31 =>
 bif (!x31) then (some true)
 else bif (x30.2==(0:Int)) then ((z33 N x30.1 g_).bind fun x32 =>
 some x32)
 else some false
end Gx
end
