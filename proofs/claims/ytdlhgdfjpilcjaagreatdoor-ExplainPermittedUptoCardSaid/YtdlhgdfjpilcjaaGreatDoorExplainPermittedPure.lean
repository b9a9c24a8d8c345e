/- What each function of the statement computes, as plain definitions. -/
import Derived.Test.YtdlhgdfjpilcjaaGreatDoorExplainPermittedCore4
set_option linter.all false
section
open Go Go.Kx
namespace Gx
def digN:Nat→Nat→List UInt8
 | 0,_=>[]
 | f+1,u=>bif Nat.blt u 10 then [UInt8.ofNat (48+u)] else digN f (u / 10)++[UInt8.ofNat (48+u % 10)]
def itoaS (n:Int):ByteArray:=⟨(bif decide (n < 0) then 45::digN 25 n.natAbs else digN 25 n.toNat).toArray⟩
def joinL (sep:List UInt8):List (List UInt8)→List UInt8
 | []=>[]
 | x::r=>x++(r.map (sep++·)).flatten
structure T10 where
  Kind:Int
  Lo:Int
  Hi:Int
structure T4 where
  Name:ByteArray
  Sort':T10
structure T1 where
  X:Int
  Y:Int
  C:Int
structure T6 where
  Diffs:(List T1)
  Equals:(List (Int × Int))
structure T0 where
  Name:ByteArray
  Fields:(List T4)
  First:Int
  Guard:T6
structure T7 where
  From:Int
  To:Int
  Label:Int
structure T2 where
  From:Int
  Act:T7
  To:Int
  Again:Bool
structure T11 where
  State:Int
  Ticks:Int
  Else:Int
structure T5 where
  Name:ByteArray
  Roles:(List ByteArray)
  Decls:(List T0)
  States:Int
  Start:Int
  End:Int
  Edges:(List T2)
  Timeouts:(List T11)
structure T9 where
  From:Int
  Send:Bool
  Peer:Int
  Label:Int
  To:Int
  Again:Bool
structure T8 where
  Role:Int
  States:Int
  Start:Int
  Finals:(List Bool)
  Moves:(List T9)
  Timeouts:(List T11)
structure T12 where
  Kind:Int
  N:Int
  S:ByteArray
structure T16 where
  At:Int
  Known:(List T12)
  Pending:(List T12)
structure T15 where
  Machine:T8
  out':(List (List Int))
structure T14 where
  send':Bool
  peer':Int
  label':Int
structure T3 where
  Role:Int
  Send:Bool
  Peer:Int
  Label:Int
  Values:(List T12)
structure T13 where
  At:Int
  Kind:Int
  Part:Int
  Role:Int
structure T17 where
  N:Int
  B:(List Int)
def z262 (N:Nat) (c_:Int):Option Bool :=
 bif (decide ((97:Int)≤c_)) then (bif (decide (c_≤(122:Int))) then (some true)
 else bif (decide ((65:Int)≤c_)) then (some (decide (c_≤(90:Int))))
 else some false)
 else bif (decide ((65:Int)≤c_)) then (some (decide (c_≤(90:Int))))
 else some false
def z284 (N:Nat) (c_:Int):Option Bool :=
 bif (decide ((48:Int)≤c_)) then (some (decide (c_≤(57:Int))))
 else some false
def z263 (N:Nat) (c_:Int):Option Bool :=
 (z262 N c_).bind fun x1 =>
 bif x1 then (some true)
 else (z284 N c_).bind fun x2 =>
 bif x2 then (some true)
 else some (c_==(95:Int))
def z220_k1:Option Bool :=
 some true
def z220_l2 (N:Nat) (s_:ByteArray):Nat→Int→Option Bool
 | 0,_=>none
 | n2+1,v19_3 =>
 bif (decide (v19_3 < (s_.size:Int))) then ((sidx s_ v19_3).bind fun x19 =>
 (z263 N x19).bind fun x20 =>
 bif (!x20) then (some false)
 else (z220_l2 N s_ n2) (w64 (v19_3+(1:Int))))
 else z220_k1
def z220 (N:Nat) (s_:ByteArray):Option Bool :=
 bif (s_.toList==(str []).toList) then (some false)
 else bif (decide ((s_.size:Int) > (16:Int))) then (some false)
 else (sidx s_ (0:Int)).bind fun x1 =>
 (z262 N x1).bind fun x2 =>
 bif (!x2) then (some false)
 else z220_l2 N s_ N (0:Int)
def z264_k1:Option Int :=
 some (-1:Int)
def z264_l2 (s_:(List ByteArray)) (v_:ByteArray):Nat→Int→Option Int
 | 0,_=>none
 | n2+1,v8_3 =>
 bif (decide (v8_3 < (s_.length:Int))) then ((idx s_ v8_3).bind fun x9 =>
 bif (v_.toList==x9.toList) then (some v8_3)
 else (z264_l2 s_ v_ n2) (w64 (v8_3+(1:Int))))
 else z264_k1
def z264 (N:Nat) (s_:(List ByteArray)) (v_:ByteArray):Option Int :=
 z264_l2 s_ v_ N (0:Int)
def z221 (N:Nat) (s_:(List ByteArray)) (v_:ByteArray):Option Bool :=
 (z264 N s_ v_).bind fun x1 =>
 some (decide (x1≥(0:Int)))
def z146 (N:Nat) (s_:ByteArray):Option Bool :=
 (z220 N s_).bind fun x1 =>
 bif x1 then ((z221 N ([(str [97,103,97,105,110]),(str [97,110,100]),(str [97,115]),(str [97,116]),(str [99,97,108,108]),(str [99,104,111,105,99,101]),(str [101,108,115,101]),(str [102,114,111,109]),(str [105,102]),(str [105,110,116]),(str [108,101,110]),(str [108,111,111,112]),(str [109,101,115,115,97,103,101]),(str [111,102]),(str [111,102,102,101,114]),(str [111,110]),(str [111,114]),(str [112,97,114]),(str [112,108,97,121,115]),(str [112,114,111,116,111,99,111,108]),(str [115,101,114,118,105,99,101]),(str [116,101,120,116]),(str [116,105,109,101,115]),(str [116,111]),(str [118,97,114]),(str [119,104,101,114,101]),(str [119,104,105,108,101]),(str [119,105,116,104,105,110])]:List ByteArray) s_).bind fun x2 =>
 some (!x2))
 else some false
def z208_k1:Option Bool :=
 some true
def z208_l2 (N:Nat) (g_:T5):Nat→Int→Option Bool
 | 0,_=>none
 | n2+1,v24_3 =>
 bif (decide (v24_3 < (g_.Roles.length:Int))) then ((idx g_.Roles v24_3).bind fun x34 =>
 (z146 N x34).bind fun x35 =>
 bif (!x35) then (some false)
 else (lsl g_.Roles none (some v24_3)).bind fun x36 =>
 (z221 N x36 x34).bind fun x37 =>
 bif x37 then (some false)
 else (z208_l2 N g_ n2) (w64 (v24_3+(1:Int))))
 else z208_k1
def z208 (N:Nat) (g_:T5):Option Bool :=
 (z146 N g_.Name).bind fun x1 =>
 bif (!x1) then (some false)
 else bif (decide ((g_.Roles.length:Int) < (1:Int))) then (some false)
 else bif (decide ((g_.Roles.length:Int) > (6:Int))) then (some false)
 else z208_l2 N g_ N (0:Int)
def z209_k1:Option Bool :=
 some true
def z209_l2 (g_:T5):Nat→Int→Option Bool
 | 0,_=>none
 | n2+1,v41_3 =>
 bif (decide (v41_3 < (g_.Edges.length:Int))) then ((idx g_.Edges v41_3).bind fun x9 =>
 bif (decide ((minI (minI (minI (minI x9.From x9.To) x9.Act.From) x9.Act.To) x9.Act.Label) < (0:Int))) then (some false)
 else bif (decide ((maxI x9.From x9.To)≥g_.States)) then (some false)
 else bif (decide ((maxI x9.Act.From x9.Act.To)≥(g_.Roles.length:Int))) then (some false)
 else bif (x9.Act.From==x9.Act.To) then (some false)
 else bif (decide (x9.Act.Label≥(g_.Decls.length:Int))) then (some false)
 else (z209_l2 g_ n2) (w64 (v41_3+(1:Int))))
 else z209_k1
def z209 (N:Nat) (g_:T5):Option Bool :=
 bif (decide (g_.States < (1:Int))) then (some false)
 else bif (decide (g_.States > (200:Int))) then (some false)
 else bif (decide ((minI g_.Start g_.End) < (0:Int))) then (some false)
 else bif (decide ((maxI g_.Start g_.End)≥g_.States)) then (some false)
 else bif (decide ((g_.Edges.length:Int) > (400:Int))) then (some false)
 else z209_l2 g_ N (0:Int)
def z142_k1 (v3_1:(List T4)):Option (List T4) :=
 some v3_1
def z142_l2 (l_:(List T0)):Nat→(List T4)→Int→Option (List T4)
 | 0,_,_=>none
 | n2+1,v3_3,v8_3 =>
 bif (decide (v8_3 < (l_.length:Int))) then ((idx l_ v8_3).bind fun x17 =>
 (appL v3_3 x17.Fields).bind fun x18 =>
 (z142_l2 l_ n2) x18 (w64 (v8_3+(1:Int))))
 else z142_k1 v3_3
def z142 (N:Nat) (l_:(List T0)):Option (List T4) :=
 z142_l2 l_ N ([]:List T4) (0:Int)
def z297_k1 (v2_1:Int) (vi0_1:Nat):Option Int :=
 some v2_1
def z297_l2 (s_:ByteArray):Nat→Int→Nat→Option Int
 | 0,_,_=>none
 | n2+1,v2_3,vi0_3 =>
 bif decide (vi0_3 < s_.size) then ((z297_l2 s_ n2) (w64 (v2_3+(1:Int))) (vi0_3+(Utf8.decode s_ vi0_3).2))
 else z297_k1 v2_3 vi0_3
def z297 (N:Nat) (s_:ByteArray):Option Int :=
 z297_l2 s_ N (0:Int) (0:Nat)
def z306 (N:Nat) (s_:ByteArray):Option (Int × Int) :=
 bif (decide ((s_.size:Int) < (1:Int))) then (some ((65533:Int),(0:Int)))
 else (sidx s_ (0:Int)).bind fun x1 =>
 dead 0
def z298 (N:Nat) (s_:ByteArray):Option (Int × Int) :=
 bif (!(s_.toList==(str []).toList)) then ((sidx s_ (0:Int)).bind fun x1 =>
 bif (decide (x1 < (128:Int))) then ((sidx s_ (0:Int)).bind fun x2 =>
 some ((wk .i32 (x2)),(1:Int)))
 else (z306 N s_).bind fun x3 =>
 some (x3.1,x3.2))
 else (z306 N s_).bind fun x4 =>
 some (x4.1,x4.2)
def z281_k1 (v1_2:Int) (v0_3:ByteArray) (v6_3:(List ByteArray)):Option (List ByteArray) :=
 bif (decide (v1_2 > (0:Int))) then ((idx v6_3 (w64 (v1_2-(1:Int)))).bind fun x19 =>
 some (setL' v6_3 (w64 (v1_2-(1:Int))) v0_3))
 else some v6_3
def z281_l2 (N:Nat) (v1_2:Int):Nat→ByteArray→(List ByteArray)→Int→Option (List ByteArray)
 | 0,_,_,_=>none
 | n2+1,v0_5,v6_5,v7_5 =>
 bif (decide (v7_5 < (w64 (v1_2-(1:Int))))) then ((z298 N v0_5).bind fun x36 =>
 (ssl v0_5 none (some x36.2)).bind fun x37 =>
 (idx v6_5 v7_5).bind fun x38 =>
 (ssl v0_5 (some x36.2) none).bind fun x39 =>
 (z281_l2 N v1_2 n2) x39 (setL' v6_5 v7_5 x37) (w64 (v7_5+(1:Int))))
 else z281_k1 v1_2 v0_5 v6_5
def z281_k3 (N:Nat) (s_:ByteArray) (v1_2:Int):Option (List ByteArray) :=
 (mkL (str []) v1_2 v1_2).bind fun x2 =>
 z281_l2 N v1_2 N s_ x2 (0:Int)
def z281_k4 (N:Nat) (s_:ByteArray) (n_:Int) (x1:Int) (v18_1:Bool):Option (List ByteArray) :=
 bif v18_1 then (z281_k3 N s_ x1)
 else z281_k3 N s_ n_
def z281 (N:Nat) (s_:ByteArray) (n_:Int):Option (List ByteArray) :=
 (z297 N s_).bind fun x1 =>
 bif (decide (n_ < (0:Int))) then (z281_k4 N s_ n_ x1 true)
 else z281_k4 N s_ n_ x1 (decide (n_ > x1))
def z307 (N:Nat) (s_:ByteArray) (c_:Int):Option Int :=
 some (firstB s_ c_)
def z300 (N:Nat) (s_:ByteArray) (substr_:ByteArray):Option Int :=
 bif ((substr_.size:Int)==(0:Int)) then (some (0:Int))
 else bif (substr_.toList==s_.toList) then (some (0:Int))
 else bif ((substr_.size:Int)==(1:Int)) then ((sidx substr_ (0:Int)).bind fun x1 =>
 (z307 N s_ x1).bind fun x2 =>
 some x2)
 else bif (decide ((substr_.size:Int)≥(s_.size:Int))) then (some (-1:Int))
 else dead 0
def z283 (N:Nat) (s_:ByteArray) (substr_:ByteArray):Option Int :=
 (z300 N s_ substr_).bind fun x1 =>
 some x1
def z282_l1 (N:Nat) (substr_:ByteArray):Nat→ByteArray→Int→Option Int
 | 0,_,_=>none
 | n1+1,v0_1,v5_1 =>
 (z283 N v0_1 substr_).bind fun x11 =>
 bif (x11==(-1:Int)) then (some v5_1)
 else (ssl v0_1 (some (w64 (x11+(substr_.size:Int)))) none).bind fun x12 =>
 (z282_l1 N substr_ n1) x12 (w64 (v5_1+(1:Int)))
def z282 (N:Nat) (s_:ByteArray) (substr_:ByteArray):Option Int :=
 bif ((substr_.size:Int)==(0:Int)) then ((z297 N s_).bind fun x1 =>
 some (w64 (x1+(1:Int))))
 else bif ((substr_.size:Int)==(1:Int)) then ((sidx substr_ (0:Int)).bind fun x2 =>
 some (countB s_ x2))
 else z282_l1 N substr_ N s_ (0:Int)
def z261_k1 (v0_2:ByteArray) (v9_2:(List ByteArray)) (v10_2:Int):Option (List ByteArray) :=
 (idx v9_2 v10_2).bind fun x20 =>
 (lsl (setL' v9_2 v10_2 v0_2) none (some (w64 (v10_2+(1:Int))))).bind fun x21 =>
 some x21
def z261_l2 (N:Nat) (s_:ByteArray) (sep_:ByteArray) (sepSave_:Int) (v3_1:Int):Nat→ByteArray→(List ByteArray)→Int→Option (List ByteArray)
 | 0,_,_,_=>none
 | n2+1,v0_4,v9_4,v10_4 =>
 bif (decide (v10_4 < (w64 ((minI v3_1 (w64 ((s_.size:Int)+(1:Int))))-(1:Int))))) then ((z283 N v0_4 sep_).bind fun x38 =>
 bif (decide (x38 < (0:Int))) then (z261_k1 v0_4 v9_4 v10_4)
 else (ssl v0_4 none (some (w64 (x38+sepSave_)))).bind fun x39 =>
 (idx v9_4 v10_4).bind fun x40 =>
 (ssl v0_4 (some (w64 (x38+(sep_.size:Int)))) none).bind fun x41 =>
 (z261_l2 N s_ sep_ sepSave_ v3_1 n2) x41 (setL' v9_4 v10_4 x39) (w64 (v10_4+(1:Int))))
 else z261_k1 v0_4 v9_4 v10_4
def z261_k3 (N:Nat) (s_:ByteArray) (sep_:ByteArray) (sepSave_:Int) (v3_1:Int):Option (List ByteArray) :=
 (mkL (str []) (minI v3_1 (w64 ((s_.size:Int)+(1:Int)))) (minI v3_1 (w64 ((s_.size:Int)+(1:Int))))).bind fun x3 =>
 z261_l2 N s_ sep_ sepSave_ v3_1 N s_ x3 (0:Int)
def z261 (N:Nat) (s_:ByteArray) (sep_:ByteArray) (sepSave_:Int) (n_:Int):Option (List ByteArray) :=
 bif (n_==(0:Int)) then (some ([]:List ByteArray))
 else bif (sep_.toList==(str []).toList) then ((z281 N s_ n_).bind fun x1 =>
 some x1)
 else bif (decide (n_ < (0:Int))) then ((z282 N s_ sep_).bind fun x42 =>
 z261_k3 N s_ sep_ sepSave_ (w64 (x42+(1:Int))))
 else z261_k3 N s_ sep_ sepSave_ n_
def z217 (N:Nat) (s_:ByteArray) (sep_:ByteArray):Option (List ByteArray) :=
 (z261 N s_ sep_ (0:Int) (-1:Int)).bind fun x1 =>
 some x1
def z218 (N:Nat) (w_:ByteArray):Option Bool :=
 (z146 N w_).bind fun x1 =>
 some (!x1)
def z260_0_k1:Option Int :=
 some (-1:Int)
def z260_0_l2 (N:Nat) (s_:(List ByteArray)):Nat→Int→Option Int
 | 0,_=>none
 | n2+1,v8_3 =>
 bif (decide (v8_3 < (s_.length:Int))) then ((idx s_ v8_3).bind fun x17 =>
 (z218 N x17).bind fun x18 =>
 bif x18 then (some v8_3)
 else (z260_0_l2 N s_ n2) (w64 (v8_3+(1:Int))))
 else z260_0_k1
def z260_0 (N:Nat) (s_:(List ByteArray)):Option Int :=
 z260_0_l2 N s_ N (0:Int)
def z216_1 (N:Nat) (s_:(List ByteArray)):Option Bool :=
 (z260_0 N s_).bind fun x1 =>
 some (decide (x1≥(0:Int)))
def z143 (N:Nat) (s_:ByteArray):Option Bool :=
 bif (decide ((s_.size:Int)≤(50:Int))) then ((z217 N s_ (str [46])).bind fun x1 =>
 (z216_1 N x1).bind fun x2 =>
 some (!x2))
 else some false
def z145_2 (N:Nat) (x_:T0) (c0_:T0):Option Bool :=
 some (x_.Name.toList==c0_.Name.toList)
def z219_3_k1:Option Int :=
 some (-1:Int)
def z219_3_l2 (N:Nat) (s_:(List T0)) (c0_:T0):Nat→Int→Option Int
 | 0,_=>none
 | n2+1,v8_3 =>
 bif (decide (v8_3 < (s_.length:Int))) then ((idx s_ v8_3).bind fun x17 =>
 (z145_2 N x17 c0_).bind fun x18 =>
 bif x18 then (some v8_3)
 else (z219_3_l2 N s_ c0_ n2) (w64 (v8_3+(1:Int))))
 else z219_3_k1
def z219_3 (N:Nat) (s_:(List T0)) (c0_:T0):Option Int :=
 z219_3_l2 N s_ c0_ N (0:Int)
def z144_4 (N:Nat) (s_:(List T0)) (c0_:T0):Option Bool :=
 (z219_3 N s_ c0_).bind fun x1 =>
 some (decide (x1≥(0:Int)))
def z147 (N:Nat) (s_:T10):Option Bool :=
 bif (s_.Kind==(1:Int)) then (bif (decide (s_.Lo≥(-1000:Int))) then (bif (decide (s_.Lo≤s_.Hi)) then (some (decide (s_.Hi≤(1000:Int))))
 else some false)
 else some false)
 else bif (s_.Kind==(2:Int)) then (bif (decide (s_.Lo≥(0:Int))) then (bif (decide (s_.Lo≤s_.Hi)) then (some (decide (s_.Hi≤(40:Int))))
 else some false)
 else some false)
 else some false
def z149_5 (N:Nat) (x_:T4) (c0_:T4):Option Bool :=
 some (x_.Name.toList==c0_.Name.toList)
def z222_6_k1:Option Int :=
 some (-1:Int)
def z222_6_l2 (N:Nat) (s_:(List T4)) (c0_:T4):Nat→Int→Option Int
 | 0,_=>none
 | n2+1,v8_3 =>
 bif (decide (v8_3 < (s_.length:Int))) then ((idx s_ v8_3).bind fun x17 =>
 (z149_5 N x17 c0_).bind fun x18 =>
 bif x18 then (some v8_3)
 else (z222_6_l2 N s_ c0_ n2) (w64 (v8_3+(1:Int))))
 else z222_6_k1
def z222_6 (N:Nat) (s_:(List T4)) (c0_:T4):Option Int :=
 z222_6_l2 N s_ c0_ N (0:Int)
def z148_7 (N:Nat) (s_:(List T4)) (c0_:T4):Option Bool :=
 (z222_6 N s_ c0_).bind fun x1 =>
 some (decide (x1≥(0:Int)))
def z150_k1:Option Bool :=
 some true
def z150_k3 (v58_14:Int) (ag14:Int→Option Bool):Option Bool :=
 ag14 (w64 (v58_14+(1:Int)))
def z150_l4 (all_:(List T4)) (v58_14:Int) (ag14:Int→Option Bool) (x127:(Int × Int)):Nat→Int→Option Bool
 | 0,_=>none
 | n15+1,v63_23 =>
 bif (decide (v63_23 < (2:Int))) then ((idx ([x127.1,x127.2]:List Int) v63_23).bind fun x142 =>
 bif (decide (x142 < (0:Int))) then (some false)
 else bif (decide (x142≥(all_.length:Int))) then (some false)
 else (idx all_ x142).bind fun x143 =>
 bif (x143.Sort'.Kind != (2:Int)) then (some false)
 else (z150_l4 all_ v58_14 ag14 x127 n15) (w64 (v63_23+(1:Int))))
 else z150_k3 v58_14 ag14
def z150_l2 (N:Nat) (g_:T6) (all_:(List T4)):Nat→Int→Option Bool
 | 0,_=>none
 | n13+1,v58_14 =>
 bif (decide (v58_14 < (g_.Equals.length:Int))) then ((idx g_.Equals v58_14).bind fun x127 =>
 z150_l4 all_ v58_14 (z150_l2 N g_ all_ n13) x127 N (0:Int))
 else z150_k1
def z150_k5 (N:Nat) (g_:T6) (all_:(List T4)):Option Bool :=
 z150_l2 N g_ all_ N (0:Int)
def z150_l6 (N:Nat) (g_:T6) (all_:(List T4)):Nat→Int→Option Bool
 | 0,_=>none
 | n16+1,v24_24 =>
 bif (decide (v24_24 < (g_.Diffs.length:Int))) then ((idx g_.Diffs v24_24).bind fun x148 =>
 bif (decide ((minI x148.X x148.Y) < (-1:Int))) then (some false)
 else bif (decide ((maxI x148.X x148.Y)≥(all_.length:Int))) then (some false)
 else bif (decide (x148.C < (-20000:Int))) then (some false)
 else bif (decide (x148.C > (20000:Int))) then (some false)
 else (z150_l6 N g_ all_ n16) (w64 (v24_24+(1:Int))))
 else z150_k5 N g_ all_
def z150 (N:Nat) (g_:T6) (all_:(List T4)):Option Bool :=
 bif (decide ((g_.Diffs.length:Int) > (20:Int))) then (some false)
 else bif (decide ((g_.Equals.length:Int) > (20:Int))) then (some false)
 else z150_l6 N g_ all_ N (0:Int)
def z71_k1:Option Bool :=
 some true
def z71_k3 (N:Nat) (x1:(List T4)) (v4_12:Int) (v19_12:Int) (ag12:Int→Int→Option Bool) (x367:T0):Option Bool :=
 (z150 N x367.Guard x1).bind fun x391 =>
 bif (!x391) then (some false)
 else ag12 (w64 (v4_12+(x367.Fields.length:Int))) (w64 (v19_12+(1:Int)))
def z71_l4 (N:Nat) (x1:(List T4)) (v4_12:Int) (v19_12:Int) (ag12:Int→Int→Option Bool) (x367:T0):Nat→Int→Option Bool
 | 0,_=>none
 | n14+1,v55_21 =>
 bif (decide (v55_21 < (x367.Fields.length:Int))) then ((idx x367.Fields v55_21).bind fun x412 =>
 (z146 N x412.Name).bind fun x413 =>
 bif (!x413) then (some false)
 else (z147 N x412.Sort').bind fun x414 =>
 bif (!x414) then (some false)
 else (lsl x367.Fields none (some v55_21)).bind fun x415 =>
 (z148_7 N x415 x412).bind fun x416 =>
 bif x416 then (some false)
 else (z71_l4 N x1 v4_12 v19_12 ag12 x367 n14) (w64 (v55_21+(1:Int))))
 else z71_k3 N x1 v4_12 v19_12 ag12 x367
def z71_l2 (N:Nat) (l_:(List T0)) (x1:(List T4)):Nat→Int→Int→Option Bool
 | 0,_,_=>none
 | n12+1,v4_12,v19_12 =>
 bif (decide (v19_12 < (l_.length:Int))) then ((idx l_ v19_12).bind fun x367 =>
 (z143 N x367.Name).bind fun x368 =>
 bif (!x368) then (some false)
 else bif (decide ((x367.Fields.length:Int) > (4:Int))) then (some false)
 else bif (x367.First != v4_12) then (some false)
 else (lsl l_ none (some v19_12)).bind fun x369 =>
 (z144_4 N x369 x367).bind fun x370 =>
 bif x370 then (some false)
 else z71_l4 N x1 v4_12 v19_12 (z71_l2 N l_ x1 n12) x367 N (0:Int))
 else z71_k1
def z71 (N:Nat) (l_:(List T0)):Option Bool :=
 bif (decide ((l_.length:Int) > (40:Int))) then (some false)
 else (z142 N l_).bind fun x1 =>
 bif (decide ((x1.length:Int) > (24:Int))) then (some false)
 else z71_l2 N l_ x1 N (0:Int) (0:Int)
def z72_k1 (v3_3:(List T1)):Option (List T1) :=
 some v3_3
def z72_l2 (d_:T0):Nat→(List T1)→Int→Option (List T1)
 | 0,_,_=>none
 | n3+1,v3_5,v46_5 =>
 bif (decide (v46_5 < (d_.Guard.Equals.length:Int))) then ((idx d_.Guard.Equals v46_5).bind fun x26 =>
 (appL v3_5 ([(⟨x26.1,x26.2,(0:Int)⟩:T1),(⟨x26.2,x26.1,(0:Int)⟩:T1)]:List T1)).bind fun x27 =>
 (z72_l2 d_ n3) x27 (w64 (v46_5+(1:Int))))
 else z72_k1 v3_5
def z72_k3 (N:Nat) (d_:T0) (v3_1:(List T1)):Option (List T1) :=
 (appL v3_1 d_.Guard.Diffs).bind fun x9 =>
 z72_l2 d_ N x9 (0:Int)
def z72_l4 (N:Nat) (d_:T0):Nat→(List T1)→Int→Option (List T1)
 | 0,_,_=>none
 | n4+1,v3_6,v11_6 =>
 bif (decide (v11_6 < (d_.Fields.length:Int))) then ((idx d_.Fields v11_6).bind fun x36 =>
 (appL v3_6 ([(⟨(w64 (d_.First+v11_6)),(-1:Int),x36.Sort'.Hi⟩:T1),(⟨(-1:Int),(w64 (d_.First+v11_6)),(w64 (0-x36.Sort'.Lo))⟩:T1)]:List T1)).bind fun x37 =>
 (z72_l4 N d_ n4) x37 (w64 (v11_6+(1:Int))))
 else z72_k3 N d_ v3_6
def z72 (N:Nat) (d_:T0):Option (List T1) :=
 z72_l4 N d_ N ([]:List T1) (0:Int)
def z37 (N:Nat) (decls_:(List T0)) (label_:Int):Option ((List T1) × Int) :=
 bif (decide (label_ < (0:Int))) then (some (([]:List T1),(1:Int)))
 else bif (decide (label_≥(decls_.length:Int))) then (some (([]:List T1),(1:Int)))
 else (z71 N decls_).bind fun x1 =>
 bif (!x1) then (some (([]:List T1),(1:Int)))
 else (idx decls_ label_).bind fun x2 =>
 (z72 N x2).bind fun x3 =>
 some (x3,(0:Int))
def z210 (N:Nat) (l_:(List T0)):Option Bool :=
 bif ((l_.length:Int)==(0:Int)) then (some true)
 else (z37 N l_ (0:Int)).bind fun x1 =>
 some (x1.2==(0:Int))
def z211_k1:Option Bool :=
 some true
def z211_k3 (v10_33:Int) (ag33:Int→Option Bool):Option Bool :=
 ag33 (w64 (v10_33+(1:Int)))
def z211_k5 (x74:T2) (v34_60:Int) (ag60:Int→Option Bool) (x83:T2) (v68_63:Bool):Option Bool :=
 bif v68_63 then (some false)
 else bif x74.Again then (bif (x83.To==x74.From) then (bif (x74.Act.From != x83.Act.From) then (some false)
 else bif (x74.Act.Label != x83.Act.Label) then (some false)
 else ag60 (w64 (v34_60+(1:Int))))
 else ag60 (w64 (v34_60+(1:Int))))
 else ag60 (w64 (v34_60+(1:Int)))
def z211_l4 (g_:T5) (v10_33:Int) (ag33:Int→Option Bool) (x74:T2):Nat→Int→Option Bool
 | 0,_=>none
 | n14+1,v34_60 =>
 bif (decide (v34_60 < (g_.Edges.length:Int))) then ((idx g_.Edges v34_60).bind fun x83 =>
 bif (v10_33 != v34_60) then (bif (x74.From==x83.From) then (bif ((x74.Act.From==x83.Act.From) && ((x74.Act.To==x83.Act.To) && ((x74.Act.Label==x83.Act.Label) && true))) then (z211_k5 x74 v34_60 (z211_l4 g_ v10_33 ag33 x74 n14) x83 true)
 else bif (x74.Act.From != x83.Act.From) then (z211_k5 x74 v34_60 (z211_l4 g_ v10_33 ag33 x74 n14) x83 true)
 else z211_k5 x74 v34_60 (z211_l4 g_ v10_33 ag33 x74 n14) x83 x74.Again)
 else z211_k5 x74 v34_60 (z211_l4 g_ v10_33 ag33 x74 n14) x83 false)
 else z211_k5 x74 v34_60 (z211_l4 g_ v10_33 ag33 x74 n14) x83 false)
 else z211_k3 v10_33 ag33
def z211_k6 (N:Nat) (g_:T5) (v10_33:Int) (ag33:Int→Option Bool) (x74:T2) (v30_54:Bool):Option Bool :=
 bif v30_54 then (some false)
 else z211_l4 g_ v10_33 ag33 x74 N (0:Int)
def z211_l2 (N:Nat) (g_:T5):Nat→Int→Option Bool
 | 0,_=>none
 | n12+1,v10_33 =>
 bif (decide (v10_33 < (g_.Edges.length:Int))) then ((idx g_.Edges v10_33).bind fun x74 =>
 bif (x74.From==g_.End) then (z211_k6 N g_ v10_33 (z211_l2 N g_ n12) x74 true)
 else bif x74.Again then (z211_k6 N g_ v10_33 (z211_l2 N g_ n12) x74 (x74.From==g_.Start))
 else z211_k6 N g_ v10_33 (z211_l2 N g_ n12) x74 false)
 else z211_k1
def z211 (N:Nat) (g_:T5):Option Bool :=
 z211_l2 N g_ N (0:Int)
def z212_k1:Option Bool :=
 some true
def z212_l2 (g_:T5):Nat→Int→Int→Option Bool
 | 0,_,_=>none
 | n2+1,v3_3,v9_3 =>
 bif (decide (v9_3 < (g_.Timeouts.length:Int))) then ((idx g_.Timeouts v9_3).bind fun x25 =>
 bif (decide (x25.State≤v3_3)) then (some false)
 else bif (decide (x25.Ticks < (1:Int))) then (some false)
 else bif (decide (x25.Ticks > (1000:Int))) then (some false)
 else bif (decide (x25.Else < (0:Int))) then (some false)
 else bif (decide (x25.Else≥(g_.Edges.length:Int))) then (some false)
 else (idx g_.Edges x25.Else).bind fun x26 =>
 bif (x26.From != x25.State) then (some false)
 else (idx g_.Edges x25.Else).bind fun x27 =>
 bif x27.Again then (some false)
 else (z212_l2 g_ n2) x25.State (w64 (v9_3+(1:Int))))
 else z212_k1
def z212 (N:Nat) (g_:T5):Option Bool :=
 z212_l2 g_ N (-1:Int) (0:Int)
def z252 (N:Nat) (x_:Int) (y_:Int):Option (Int × Int) :=
 (binO .and .u64 x_ (4294967295:Int)).bind fun x1 =>
 (binO .shr .u64 x_ (32:Int)).bind fun x2 =>
 (binO .and .u64 y_ (4294967295:Int)).bind fun x3 =>
 (binO .shr .u64 y_ (32:Int)).bind fun x4 =>
 (binO .shr .u64 (wk .u64 (x1 * x3)) (32:Int)).bind fun x5 =>
 (binO .and .u64 (wk .u64 ((wk .u64 (x2 * x3))+x5)) (4294967295:Int)).bind fun x6 =>
 (binO .shr .u64 (wk .u64 ((wk .u64 (x2 * x3))+x5)) (32:Int)).bind fun x7 =>
 (binO .shr .u64 (wk .u64 (x6+(wk .u64 (x1 * x4)))) (32:Int)).bind fun x8 =>
 some ((wk .u64 ((wk .u64 ((wk .u64 (x2 * x4))+x7))+x8)),(wk .u64 (x_ * y_)))
def z201 (N:Nat) (x_:Int) (y_:Int):Option (Int × Int) :=
 (z252 N x_ y_).bind fun x1 =>
 some (x1.1,x1.2)
def z255_k1 (v7_4:(List Int)):Option (List Int) :=
 some v7_4
def z255_l2:Nat→(List Int)→Int→Option (List Int)
 | 0,_,_=>none
 | n2+1,v7_6,v8_6 =>
 bif (decide (v8_6 < (v7_6.length:Int))) then ((lsl v7_6 (some v8_6) none).bind fun x28 =>
 (lsl v7_6 none (some v8_6)).bind fun x29 =>
 (cpL v7_6 (some v8_6) none x29).bind fun x30 =>
 (z255_l2 n2) x30.1 (w64 (v8_6+x30.2)))
 else z255_k1 v7_6
def z255_k3 (N:Nat) (x_:(List Int)) (x1:Int × Int) (v26_2:Bool):Option (List Int) :=
 bif v26_2 then (dead 0)
 else (mkL (0:Int) (w64 (x1.2)) (w64 (x1.2))).bind fun x2 =>
 (cpL x2 none none x_).bind fun x3 =>
 z255_l2 N x3.1 x3.2
def z255 (N:Nat) (x_:(List Int)) (count_:Int):Option (List Int) :=
 bif (decide (count_ < (0:Int))) then (dead 0)
 else (z201 N (wk .u64 ((x_.length:Int))) (wk .u64 (count_))).bind fun x1 =>
 bif (decide (x1.1 > (0:Int))) then (z255_k3 N x_ x1 true)
 else z255_k3 N x_ x1 (decide (x1.2 > (9223372036854775807:Int)))
def z214_k1 (v7_1:(List Int)):Option (List Int) :=
 some v7_1
def z214_k3 (ag30:(List Int)→(List Int)→Option (List Int)) (v7_49:(List Int)) (v8_49:(List Int)):Option (List Int) :=
 (lsl v8_49 (some (1:Int)) none).bind fun x425 =>
 ag30 v7_49 x425
def z214_k5 (v7_54:(List Int)) (v8_54:(List Int)) (v30_54:Int) (ag54:(List Int)→(List Int)→Int→Option (List Int)) (v11_57:Int) (v12_57:Int):Option (List Int) :=
 (idx v8_54 (0:Int)).bind fun x451 =>
 bif (v11_57==x451) then ((idx v7_54 v12_57).bind fun x452 =>
 bif (decide (x452 < (0:Int))) then ((idx v7_54 v11_57).bind fun x453 =>
 (idx v7_54 v12_57).bind fun x454 =>
 (appL v8_54 ([v12_57]:List Int)).bind fun x455 =>
 ag54 (setL' v7_54 v12_57 (w64 (x453+(1:Int)))) x455 (w64 (v30_54+(1:Int))))
 else ag54 v7_54 v8_54 (w64 (v30_54+(1:Int))))
 else ag54 v7_54 v8_54 (w64 (v30_54+(1:Int)))
def z214_l4 (g_:T5) (back_:Bool) (ag30:(List Int)→(List Int)→Option (List Int)):Nat→(List Int)→(List Int)→Int→Option (List Int)
 | 0,_,_,_=>none
 | n14+1,v7_54,v8_54,v30_54 =>
 bif (decide (v30_54 < (g_.Edges.length:Int))) then ((idx g_.Edges v30_54).bind fun x450 =>
 bif back_ then (z214_k5 v7_54 v8_54 v30_54 (z214_l4 g_ back_ ag30 n14) x450.To x450.From)
 else z214_k5 v7_54 v8_54 v30_54 (z214_l4 g_ back_ ag30 n14) x450.From x450.To)
 else z214_k3 ag30 v7_54 v8_54
def z214_l2 (N:Nat) (g_:T5) (back_:Bool):Nat→(List Int)→(List Int)→Option (List Int)
 | 0,_,_=>none
 | n12+1,v7_30,v8_30 =>
 bif (decide ((v8_30.length:Int) > (0:Int))) then (z214_l4 g_ back_ (z214_l2 N g_ back_ n12) N v7_30 v8_30 (0:Int))
 else z214_k1 v7_30
def z214 (N:Nat) (g_:T5) (from_:Int) (back_:Bool):Option (List Int) :=
 (z255 N ([(-1:Int)]:List Int) g_.States).bind fun x1 =>
 (idx x1 from_).bind fun x2 =>
 z214_l2 N g_ back_ N (setL' x1 from_ (0:Int)) ([from_]:List Int)
def z254_k1:Option Int :=
 some (-1:Int)
def z254_l2 (s_:(List Int)) (v_:Int):Nat→Int→Option Int
 | 0,_=>none
 | n2+1,v8_3 =>
 bif (decide (v8_3 < (s_.length:Int))) then ((idx s_ v8_3).bind fun x9 =>
 bif (v_==x9) then (some v8_3)
 else (z254_l2 s_ v_ n2) (w64 (v8_3+(1:Int))))
 else z254_k1
def z254 (N:Nat) (s_:(List Int)) (v_:Int):Option Int :=
 z254_l2 s_ v_ N (0:Int)
def z213 (N:Nat) (s_:(List Int)) (v_:Int):Option Bool :=
 (z254 N s_ v_).bind fun x1 =>
 some (decide (x1≥(0:Int)))
def z133 (N:Nat) (g_:T5):Option Bool :=
 (z208 N g_).bind fun x1 =>
 bif x1 then ((z209 N g_).bind fun x2 =>
 bif x2 then ((z210 N g_.Decls).bind fun x3 =>
 bif x3 then ((z211 N g_).bind fun x4 =>
 bif x4 then ((z212 N g_).bind fun x5 =>
 bif x5 then ((z214 N g_ g_.Start false).bind fun x6 =>
 (z213 N x6 (-1:Int)).bind fun x7 =>
 bif (!x7) then ((z214 N g_ g_.End true).bind fun x8 =>
 (z213 N x8 (-1:Int)).bind fun x9 =>
 some (!x9))
 else some false)
 else some false)
 else some false)
 else some false)
 else some false)
 else some false
def z241 (N:Nat) (m_:T8) (n_:Int):Option Bool :=
 bif (decide (n_≥(0:Int))) then (some (decide (n_ < m_.States)))
 else some false
def z188_k1:Option Bool :=
 some true
def z188_l2 (N:Nat) (m_:T8):Nat→Int→Option Bool
 | 0,_=>none
 | n2+1,v47_3 =>
 bif (decide (v47_3 < (m_.Moves.length:Int))) then ((idx m_.Moves v47_3).bind fun x26 =>
 (z241 N m_ x26.From).bind fun x27 =>
 bif (!x27) then (some false)
 else (z241 N m_ x26.To).bind fun x28 =>
 bif (!x28) then (some false)
 else bif (decide (x26.Peer < (0:Int))) then (some false)
 else bif (decide (x26.Peer≥(6:Int))) then (some false)
 else bif (x26.Peer==m_.Role) then (some false)
 else bif (decide (x26.Label < (0:Int))) then (some false)
 else bif (decide (x26.Label≥(40:Int))) then (some false)
 else (z188_l2 N m_ n2) (w64 (v47_3+(1:Int))))
 else z188_k1
def z188 (N:Nat) (m_:T8):Option Bool :=
 bif (decide (m_.Role < (0:Int))) then (some false)
 else bif (decide (m_.Role≥(6:Int))) then (some false)
 else bif (decide (m_.States < (1:Int))) then (some false)
 else bif (decide (m_.States > (200:Int))) then (some false)
 else (z241 N m_ m_.Start).bind fun x1 =>
 bif (!x1) then (some false)
 else bif ((m_.Finals.length:Int) != m_.States) then (some false)
 else bif (decide ((m_.Moves.length:Int) > (400:Int))) then (some false)
 else z188_l2 N m_ N (0:Int)
def z244 (N:Nat) (x_:T9):Option T14 :=
 some (⟨x_.Send,x_.Peer,x_.Label⟩:T14)
def z270 (N:Nat) (x_:Int):Option Bool :=
 some (x_ != x_)
def z232 (N:Nat) (x_:Int) (y_:Int):Option Int :=
 (z270 N x_).bind fun x1 =>
 (z270 N y_).bind fun x2 =>
 bif x1 then (bif x2 then (some (0:Int))
 else some (-1:Int))
 else bif x2 then (some (1:Int))
 else bif (decide (x_ < y_)) then (some (-1:Int))
 else bif (decide (x_ > y_)) then (some (1:Int))
 else some (0:Int)
def z231_k1:Option Int :=
 some (0:Int)
def z231_l2 (vals_:(List Int)):Nat→Int→Option Int
 | 0,_=>none
 | n2+1,v8_3 =>
 bif (decide (v8_3 < (vals_.length:Int))) then ((idx vals_ v8_3).bind fun x9 =>
 bif (x9 != (0:Int)) then (some x9)
 else (z231_l2 vals_ n2) (w64 (v8_3+(1:Int))))
 else z231_k1
def z231 (N:Nat) (vals_:(List Int)):Option Int :=
 z231_l2 vals_ N (0:Int)
def z245 (N:Nat) (x_:T14) (y_:T14):Option Int :=
 bif (!(x_.send'==y_.send')) then (bif x_.send' then (some (-1:Int))
 else some (1:Int))
 else (z232 N x_.peer' y_.peer').bind fun x1 =>
 (z232 N x_.label' y_.label').bind fun x2 =>
 (z231 N ([x1,x2]:List Int)).bind fun x3 =>
 some x3
def z243_8 (N:Nat) (i_:Int) (k_:Int) (c0_:T8):Option Int :=
 (idx c0_.Moves i_).bind fun x1 =>
 (z244 N x1).bind fun x2 =>
 (idx c0_.Moves k_).bind fun x3 =>
 (z244 N x3).bind fun x4 =>
 (z245 N x2 x4).bind fun x5 =>
 some x5
def machine_sorted_cf (N:Nat) (m_:T8) (i k:Int):Int:=(z243_8 N i k m_).getD 0
def machine_sorted_ok (N:Nat) (m_:T8) (xs:List Int):Bool:=(xs.all fun i=>xs.all fun k=>(z243_8 N i k m_).isSome) && (swoB (fun a b=>decide (machine_sorted_cf N m_ a b < 0)) xs && decide (xs.length < 4611686018427387904))
def z189_l2 (N:Nat) (m_:T8):Nat→List (List Int)→Int→Option T15
 | 0,_,_=>none
 | n+1,xss,j=>bif decide (j < (xss.length:Int)) then (idx xss j).bind fun xs =>
   bif machine_sorted_ok N m_ xs then z189_l2 N m_ n (xss.set j.toNat (sortP (machine_sorted_cf N m_) xs)) (w64 (j+(1:Int))) else none
   else some ⟨m_,xss⟩
def z189_l1 (N:Nat) (m_:T8):Nat→List (List Int)→Int→Option T15
 | 0,_,_=>none
 | n+1,xss,i=>bif decide (i < (m_.Moves.length:Int)) then (idx m_.Moves i).bind fun x=>(idx xss x.From).bind fun xs=>(appL xs [i]).bind fun ys =>
   z189_l1 N m_ n (xss.set x.From.toNat ys) (w64 (i+(1:Int)))
   else z189_l2 N m_ N xss (0:Int)
def z189 (N:Nat) (m_:T8):Option T15:=(mkL () m_.States m_.States).bind fun us=>bif us.isEmpty then none else z189_l1 N m_ N (List.replicate us.length []) (0:Int)
def z190_k1:Option Bool :=
 some true
def z190_k3 (v13_12:Int) (ag12:Int→Option Bool):Option Bool :=
 ag12 (w64 (v13_12+(1:Int)))
def z190_l4 (N:Nat) (t_:T15) (v13_12:Int) (ag12:Int→Option Bool) (x399:(List Int)):Nat→Int→Option Bool
 | 0,_=>none
 | n14+1,v5_21 =>
 bif (decide (v5_21 < (x399.length:Int))) then ((idx x399 (w64 (v5_21-(1:Int)))).bind fun x448 =>
 (idx t_.Machine.Moves x448).bind fun x449 =>
 (idx x399 v5_21).bind fun x450 =>
 (idx t_.Machine.Moves x450).bind fun x451 =>
 (z244 N x449).bind fun x452 =>
 (z244 N x451).bind fun x453 =>
 bif ((x452.send'==x453.send') && ((x452.peer'==x453.peer') && ((x452.label'==x453.label') && true))) then (some false)
 else bif (!(x449.Send==x451.Send)) then (some false)
 else (z190_l4 N t_ v13_12 ag12 x399 n14) (w64 (v5_21+(1:Int))))
 else z190_k3 v13_12 ag12
def z190_l2 (N:Nat) (t_:T15):Nat→Int→Option Bool
 | 0,_=>none
 | n12+1,v13_12 =>
 bif (decide (v13_12 < (t_.out'.length:Int))) then ((idx t_.out' v13_12).bind fun x399 =>
 z190_l4 N t_ v13_12 (z190_l2 N t_ n12) x399 N (1:Int))
 else z190_k1
def z190 (N:Nat) (t_:T15):Option Bool :=
 z190_l2 N t_ N (0:Int)
def z191_k1 (t_:T15) (v4_1:(List Int)):Option Bool :=
 some ((v4_1.length:Int)==t_.Machine.States)
def z191_k3 (v5_12:Int) (ag12:(List Bool)→(List Int)→Int→Option Bool) (v3_19:(List Bool)) (v4_19:(List Int)):Option Bool :=
 ag12 v3_19 v4_19 (w64 (v5_12+(1:Int)))
def z191_l4 (t_:T15) (v5_12:Int) (ag12:(List Bool)→(List Int)→Int→Option Bool) (x345:(List Int)):Nat→(List Bool)→(List Int)→Int→Option Bool
 | 0,_,_,_=>none
 | n14+1,v3_21,v4_21,v45_21 =>
 bif (decide (v45_21 < (x345.length:Int))) then ((idx x345 v45_21).bind fun x386 =>
 (idx t_.Machine.Moves x386).bind fun x387 =>
 (idx v3_21 x387.To).bind fun x388 =>
 bif (!x388) then ((idx v3_21 x387.To).bind fun x389 =>
 (appL v4_21 ([x387.To]:List Int)).bind fun x390 =>
 (z191_l4 t_ v5_12 ag12 x345 n14) (setL' v3_21 x387.To true) x390 (w64 (v45_21+(1:Int))))
 else (z191_l4 t_ v5_12 ag12 x345 n14) v3_21 v4_21 (w64 (v45_21+(1:Int))))
 else z191_k3 v5_12 ag12 v3_21 v4_21
def z191_l2 (N:Nat) (t_:T15):Nat→(List Bool)→(List Int)→Int→Option Bool
 | 0,_,_,_=>none
 | n12+1,v3_12,v4_12,v5_12 =>
 bif (decide (v5_12 < (v4_12.length:Int))) then ((idx v4_12 v5_12).bind fun x344 =>
 (idx t_.out' x344).bind fun x345 =>
 z191_l4 t_ v5_12 (z191_l2 N t_ n12) x345 N v3_12 v4_12 (0:Int))
 else z191_k1 t_ v4_12
def z191 (N:Nat) (t_:T15):Option Bool :=
 (mkL false t_.Machine.States t_.Machine.States).bind fun x1 =>
 (idx x1 t_.Machine.Start).bind fun x2 =>
 z191_l2 N t_ N (setL' x1 t_.Machine.Start true) ([t_.Machine.Start]:List Int) (0:Int)
def z192_k1:Option Bool :=
 some true
def z192_k3 (v13_12:Int) (ag12:Int→Option Bool):Option Bool :=
 ag12 (w64 (v13_12+(1:Int)))
def z192_l4 (t_:T15) (v13_12:Int) (ag12:Int→Option Bool) (x90:T9):Nat→Int→Option Bool
 | 0,_=>none
 | n14+1,v62_21 =>
 bif (decide (v62_21 < (t_.Machine.Moves.length:Int))) then ((idx t_.Machine.Moves v62_21).bind fun x101 =>
 bif (x101.To==x90.From) then (bif (!x101.Send) then (some false)
 else bif (x101.Label != x90.Label) then (some false)
 else (z192_l4 t_ v13_12 ag12 x90 n14) (w64 (v62_21+(1:Int))))
 else (z192_l4 t_ v13_12 ag12 x90 n14) (w64 (v62_21+(1:Int))))
 else z192_k3 v13_12 ag12
def z192_l2 (N:Nat) (t_:T15):Nat→Int→Option Bool
 | 0,_=>none
 | n12+1,v13_12 =>
 bif (decide (v13_12 < (t_.Machine.Moves.length:Int))) then ((idx t_.Machine.Moves v13_12).bind fun x90 =>
 bif (!x90.Again) then ((z192_l2 N t_ n12) (w64 (v13_12+(1:Int))))
 else bif (!x90.Send) then (some false)
 else (idx t_.out' x90.From).bind fun x91 =>
 bif ((x91.length:Int) != (1:Int)) then (some false)
 else bif (x90.From==t_.Machine.Start) then (some false)
 else (idx t_.Machine.Finals x90.From).bind fun x92 =>
 bif x92 then (some false)
 else z192_l4 t_ v13_12 (z192_l2 N t_ n12) x90 N (0:Int))
 else z192_k1
def z192 (N:Nat) (t_:T15):Option Bool :=
 z192_l2 N t_ N (0:Int)
def z193_k1:Option Bool :=
 some true
def z193_k3 (t_:T15) (v12_6:Int) (ag6:Int→Option Bool) (x33:T11) (v59_9:Bool):Option Bool :=
 bif v59_9 then (some false)
 else (idx t_.Machine.Moves x33.Else).bind fun x35 =>
 bif (x35.From != x33.State) then (some false)
 else bif (!x35.Send) then (some false)
 else bif x35.Again then (some false)
 else ag6 (w64 (v12_6+(1:Int)))
def z193_l2 (t_:T15):Nat→Int→Option Bool
 | 0,_=>none
 | n2+1,v12_6 =>
 bif (decide (v12_6 < (t_.Machine.Timeouts.length:Int))) then ((idx t_.Machine.Timeouts v12_6).bind fun x33 =>
 bif (decide (v12_6 > (0:Int))) then ((idx t_.Machine.Timeouts (w64 (v12_6-(1:Int)))).bind fun x36 =>
 bif (decide (x36.State≥x33.State)) then (z193_k3 t_ v12_6 (z193_l2 t_ n2) x33 true)
 else bif (decide (x33.Ticks < (1:Int))) then (z193_k3 t_ v12_6 (z193_l2 t_ n2) x33 true)
 else bif (decide (x33.Ticks > (1000:Int))) then (z193_k3 t_ v12_6 (z193_l2 t_ n2) x33 true)
 else bif (decide (x33.Else < (0:Int))) then (z193_k3 t_ v12_6 (z193_l2 t_ n2) x33 true)
 else z193_k3 t_ v12_6 (z193_l2 t_ n2) x33 (decide (x33.Else≥(t_.Machine.Moves.length:Int))))
 else bif (decide (x33.Ticks < (1:Int))) then (z193_k3 t_ v12_6 (z193_l2 t_ n2) x33 true)
 else bif (decide (x33.Ticks > (1000:Int))) then (z193_k3 t_ v12_6 (z193_l2 t_ n2) x33 true)
 else bif (decide (x33.Else < (0:Int))) then (z193_k3 t_ v12_6 (z193_l2 t_ n2) x33 true)
 else z193_k3 t_ v12_6 (z193_l2 t_ n2) x33 (decide (x33.Else≥(t_.Machine.Moves.length:Int))))
 else z193_k1
def z193 (N:Nat) (t_:T15):Option Bool :=
 z193_l2 t_ N (0:Int)
def z107 (N:Nat) (m_:T8):Option ((Option T15) × Bool) :=
 (z188 N m_).bind fun x1 =>
 bif (!x1) then (some (none,false))
 else (z189 N m_).bind fun x2 =>
 (z190 N x2).bind fun x3 =>
 bif x3 then ((z191 N x2).bind fun x4 =>
 bif x4 then ((z192 N x2).bind fun x5 =>
 bif x5 then ((z193 N x2).bind fun x6 =>
 some ((some x2),x6))
 else some ((some x2),false))
 else some ((some x2),false))
 else some ((some x2),false)
def z134 (N:Nat) (m_:T8):Option Bool :=
 (z107 N m_).bind fun x1 =>
 optC x1.1 (some x1.2) fun q2 =>
 some x1.2
def z132_9 (N:Nat) (x_:T9) (c0_:T5):Option Bool :=
 bif (decide (x_.Peer≥(c0_.Roles.length:Int))) then (some true)
 else some (decide (x_.Label≥(c0_.Decls.length:Int)))
def z92_10_k1:Option Int :=
 some (-1:Int)
def z92_10_l2 (N:Nat) (s_:(List T9)) (c0_:T5):Nat→Int→Option Int
 | 0,_=>none
 | n2+1,v8_3 =>
 bif (decide (v8_3 < (s_.length:Int))) then ((idx s_ v8_3).bind fun x17 =>
 (z132_9 N x17 c0_).bind fun x18 =>
 bif x18 then (some v8_3)
 else (z92_10_l2 N s_ c0_ n2) (w64 (v8_3+(1:Int))))
 else z92_10_k1
def z92_10 (N:Nat) (s_:(List T9)) (c0_:T5):Option Int :=
 z92_10_l2 N s_ c0_ N (0:Int)
def z135_11 (N:Nat) (s_:(List T9)) (c0_:T5):Option Bool :=
 (z92_10 N s_ c0_).bind fun x1 =>
 some (decide (x1≥(0:Int)))
def z60 (N:Nat) (g_:T5) (m_:T8):Option Bool :=
 (z133 N g_).bind fun x1 =>
 bif x1 then ((z134 N m_).bind fun x2 =>
 bif x2 then (bif (decide (m_.Role < (g_.Roles.length:Int))) then ((z135_11 N m_.Moves g_).bind fun x3 =>
 some (!x3))
 else some false)
 else some false)
 else some false
def z61_k1 (v3_1:(List T4)):Option (List T4) :=
 some v3_1
def z61_l2 (g_:T5):Nat→(List T4)→Int→Option (List T4)
 | 0,_,_=>none
 | n2+1,v3_3,v9_3 =>
 bif (decide (v9_3 < (g_.Decls.length:Int))) then ((idx g_.Decls v9_3).bind fun x17 =>
 (appL v3_3 x17.Fields).bind fun x18 =>
 (z61_l2 g_ n2) x18 (w64 (v9_3+(1:Int))))
 else z61_k1 v3_3
def z61 (N:Nat) (g_:T5):Option (List T4) :=
 z61_l2 g_ N ([]:List T4) (0:Int)
def z24 (N:Nat) (g_:T5) (m_:T8):Option T16 :=
 (z60 N g_ m_).bind fun x1 =>
 bif (!x1) then (some (⟨(0:Int),([]:List T12),([]:List T12)⟩:T16))
 else (z61 N g_).bind fun x2 =>
 (mkL (⟨(0:Int),(0:Int),(str [])⟩:T12) (x2.length:Int) (x2.length:Int)).bind fun x3 =>
 some (⟨m_.Start,x3,([]:List T12)⟩:T16)
def z167 (N:Nat) (v_:T12):Option Int :=
 bif (v_.Kind==(1:Int)) then (some v_.N)
 else bif (v_.Kind==(2:Int)) then (some (v_.S.size:Int))
 else some (0:Int)
def z168_k1 (s_:T10) (v3_1:Int) (v4_1:Int):Option Bool :=
 bif (decide (v3_1≤s_.Lo)) then (bif (decide (s_.Lo≤s_.Hi)) then (some (decide (s_.Hi≤v4_1)))
 else some false)
 else some false
def z168 (N:Nat) (s_:T10):Option Bool :=
 bif (s_.Kind==(1:Int)) then (z168_k1 s_ (-1000:Int) (1000:Int))
 else bif (s_.Kind==(2:Int)) then (z168_k1 s_ (0:Int) (40:Int))
 else some false
def z269 (N:Nat) (c_:Int):Option Bool :=
 bif (decide (c_ < (32:Int))) then (some true)
 else some (decide (c_ > (126:Int)))
def z294_12_k1 (vi0_1:Nat):Option Int :=
 some (-1:Int)
def z294_12_l2 (N:Nat) (s_:ByteArray) (truth_:Bool):Nat→Nat→Option Int
 | 0,_=>none
 | n2+1,vi0_3 =>
 bif decide (vi0_3 < s_.size) then ((z269 N ((Utf8.decode s_ vi0_3).1:Int)).bind fun x10 =>
 bif (x10==truth_) then (some ((vi0_3:Nat):Int))
 else (z294_12_l2 N s_ truth_ n2) (vi0_3+(Utf8.decode s_ vi0_3).2))
 else z294_12_k1 vi0_3
def z294_12 (N:Nat) (s_:ByteArray) (truth_:Bool):Option Int :=
 z294_12_l2 N s_ truth_ N (0:Nat)
def z275_13 (N:Nat) (s_:ByteArray):Option Int :=
 (z294_12 N s_ true).bind fun x1 =>
 some x1
def z246_14 (N:Nat) (s_:ByteArray):Option Bool :=
 (z275_13 N s_).bind fun x1 =>
 some (decide (x1≥(0:Int)))
def z230 (N:Nat) (s_:ByteArray):Option Bool :=
 (z246_14 N s_).bind fun x1 =>
 some (!x1)
def z169 (N:Nat) (v_:T12):Option Bool :=
 bif (v_.Kind==(1:Int)) then (bif (decide (v_.N≥(-1000:Int))) then (bif (decide (v_.N≤(1000:Int))) then (some (v_.S.toList==(str []).toList))
 else some false)
 else some false)
 else bif (v_.Kind==(2:Int)) then (bif (v_.N==(0:Int)) then (bif (decide ((v_.S.size:Int)≤(40:Int))) then ((z230 N v_.S).bind fun x1 =>
 some x1)
 else some false)
 else some false)
 else some false
def z90 (N:Nat) (s_:T10) (v_:T12):Option Bool :=
 (z167 N v_).bind fun x1 =>
 (z168 N s_).bind fun x2 =>
 bif x2 then ((z169 N v_).bind fun x3 =>
 bif x3 then (bif (s_.Kind==v_.Kind) then (bif (decide (x1≥s_.Lo)) then (some (decide (x1≤s_.Hi)))
 else some false)
 else some false)
 else some false)
 else some false
def z89 (N:Nat) (f_:T4) (v_:T12):Option Bool :=
 bif ((v_.Kind==(0:Int)) && ((v_.N==(0:Int)) && ((v_.S.toList==(str []).toList) && true))) then (some true)
 else (z90 N f_.Sort' v_).bind fun x1 =>
 some x1
def z91_15_k1:Option Bool :=
 some true
def z91_15_l2 (N:Nat) (s1_:(List T4)) (s2_:(List T12)):Nat→Int→Option Bool
 | 0,_=>none
 | n2+1,v17_3 =>
 bif (decide (v17_3 < (s1_.length:Int))) then ((idx s1_ v17_3).bind fun x25 =>
 (idx s2_ v17_3).bind fun x26 =>
 (z89 N x25 x26).bind fun x27 =>
 bif (!x27) then (some false)
 else (z91_15_l2 N s1_ s2_ n2) (w64 (v17_3+(1:Int))))
 else z91_15_k1
def z91_15 (N:Nat) (s1_:(List T4)) (s2_:(List T12)):Option Bool :=
 bif ((s1_.length:Int) != (s2_.length:Int)) then (some false)
 else z91_15_l2 N s1_ s2_ N (0:Int)
def z46 (N:Nat) (g_:T5) (m_:T8) (s_:T16):Option Bool :=
 (z60 N g_ m_).bind fun x1 =>
 bif x1 then (bif (decide (s_.At≥(0:Int))) then (bif (decide (s_.At < m_.States)) then ((z61 N g_).bind fun x2 =>
 (z91_15 N x2 s_.Known).bind fun x3 =>
 some x3)
 else some false)
 else some false)
 else some false
def z30 (N:Nat) (g_:T5) (m_:T8):Option Bool :=
 (z24 N g_ m_).bind fun x1 =>
 (z46 N g_ m_ x1).bind fun x2 =>
 some x2
def z53 (N:Nat) (m_:T8) (state_:Int):Option (List Int) :=
 (z107 N m_).bind fun x1 =>
 optC x1.1 (bif (!x1.2) then (some ([]:List Int))
 else bif (decide (state_ < (0:Int))) then (some ([]:List Int))
 else bif (decide (state_≥m_.States)) then (some ([]:List Int))
 else dead 0) fun q2 =>
 bif (!x1.2) then (some ([]:List Int))
 else bif (decide (state_ < (0:Int))) then (some ([]:List Int))
 else bif (decide (state_≥m_.States)) then (some ([]:List Int))
 else (idx q2.out' state_).bind fun x3 =>
 some x3
def z65 (N:Nat) (i_:Int):Option ByteArray:=bif (decide ((-9223372036854775808:Int)≤i_) && decide (i_≤9223372036854775807)) then some (itoaS i_) else none
def z38_k1 (N:Nat) (f_:T4) (v3_1:ByteArray):Option ByteArray :=
 (catS f_.Name (str [58,32])).bind fun x1 =>
 (catS x1 v3_1).bind fun x2 =>
 (catS x2 (str [32])).bind fun x3 =>
 (z65 N f_.Sort'.Lo).bind fun x4 =>
 (catS x3 x4).bind fun x5 =>
 (catS x5 (str [32,46,46,32])).bind fun x6 =>
 (z65 N f_.Sort'.Hi).bind fun x7 =>
 (catS x6 x7).bind fun x8 =>
 some x8
def z38 (N:Nat) (f_:T4):Option ByteArray :=
 bif (f_.Sort'.Kind==(2:Int)) then (z38_k1 N f_ (str [116,101,120,116]))
 else z38_k1 N f_ (str [105,110,116])
def z152_k1:Option (T0 × T4 × Bool) :=
 some ((⟨(str []),([]:List T4),(0:Int),(⟨([]:List T1),([]:List (Int × Int))⟩:T6)⟩:T0),(⟨(str []),(⟨(0:Int),(0:Int),(0:Int)⟩:T10)⟩:T4),false)
def z152_l2 (decls_:(List T0)):Nat→Int→Int→Option (T0 × T4 × Bool)
 | 0,_,_=>none
 | n2+1,v1_3,v11_3 =>
 bif (decide (v11_3 < (decls_.length:Int))) then ((idx decls_ v11_3).bind fun x17 =>
 bif (decide (v1_3≥(0:Int))) then (bif (decide (v1_3 < (x17.Fields.length:Int))) then ((idx x17.Fields v1_3).bind fun x18 =>
 some (x17,x18,true))
 else (z152_l2 decls_ n2) (w64 (v1_3-(x17.Fields.length:Int))) (w64 (v11_3+(1:Int))))
 else (z152_l2 decls_ n2) (w64 (v1_3-(x17.Fields.length:Int))) (w64 (v11_3+(1:Int))))
 else z152_k1
def z152 (N:Nat) (decls_:(List T0)) (x_:Int):Option (T0 × T4 × Bool) :=
 z152_l2 decls_ N x_ (0:Int)
def z74 (N:Nat) (decls_:(List T0)) (x_:Int):Option ByteArray :=
 (z152 N decls_ x_).bind fun x1 =>
 (catS x1.1.Name (str [46])).bind fun x2 =>
 (catS x2 x1.2.1.Name).bind fun x3 =>
 some x3
def z151 (N:Nat) (decls_:(List T0)) (x_:Int):Option ByteArray :=
 (z152 N decls_ x_).bind fun x1 =>
 bif (x1.2.1.Sort'.Kind==(2:Int)) then ((z74 N decls_ x_).bind fun x2 =>
 (catS (str [108,101,110,40]) x2).bind fun x3 =>
 (catS x3 (str [41])).bind fun x4 =>
 some x4)
 else (z74 N decls_ x_).bind fun x5 =>
 some x5
def z73_k1 (N:Nat) (decls_:(List T0)) (d_:T1) (v6_1:Bool):Option ByteArray :=
 bif v6_1 then ((z65 N d_.C).bind fun x1 =>
 (catS (str [48,32,60,61,32]) x1).bind fun x2 =>
 some x2)
 else bif (decide (d_.Y < (0:Int))) then ((z151 N decls_ d_.X).bind fun x3 =>
 (catS x3 (str [32,60,61,32])).bind fun x4 =>
 (z65 N d_.C).bind fun x5 =>
 (catS x4 x5).bind fun x6 =>
 some x6)
 else bif (decide (d_.X < (0:Int))) then ((z151 N decls_ d_.Y).bind fun x7 =>
 (catS x7 (str [32,62,61,32])).bind fun x8 =>
 (z65 N (w64 (0-d_.C))).bind fun x9 =>
 (catS x8 x9).bind fun x10 =>
 some x10)
 else (z151 N decls_ d_.X).bind fun x11 =>
 (catS x11 (str [32,60,61,32])).bind fun x12 =>
 (z151 N decls_ d_.Y).bind fun x13 =>
 (catS x12 x13).bind fun x14 =>
 bif (decide (d_.C > (0:Int))) then ((catS x14 (str [32,43,32])).bind fun x15 =>
 (z65 N d_.C).bind fun x16 =>
 (catS x15 x16).bind fun x17 =>
 some x17)
 else bif (decide (d_.C < (0:Int))) then ((catS x14 (str [32,45,32])).bind fun x18 =>
 (z65 N (w64 (0-d_.C))).bind fun x19 =>
 (catS x18 x19).bind fun x20 =>
 some x20)
 else some x14
def z73 (N:Nat) (decls_:(List T0)) (d_:T1):Option ByteArray :=
 bif (decide (d_.X < (0:Int))) then (z73_k1 N decls_ d_ (decide (d_.Y < (0:Int))))
 else z73_k1 N decls_ d_ false
def z39 (N:Nat) (decls_:(List T0)) (label_:Int) (part_:Int):Option ByteArray :=
 (z37 N decls_ label_).bind fun x1 =>
 bif (x1.2 != (0:Int)) then (some (str []))
 else bif (decide (part_ < (0:Int))) then (some (str []))
 else (idx decls_ label_).bind fun x2 =>
 bif (decide (part_ < (x2.Guard.Diffs.length:Int))) then ((idx x2.Guard.Diffs part_).bind fun x3 =>
 (z73 N decls_ x3).bind fun x4 =>
 some x4)
 else bif (decide ((w64 (part_-(x2.Guard.Diffs.length:Int))) < (x2.Guard.Equals.length:Int))) then ((idx x2.Guard.Equals (w64 (part_-(x2.Guard.Diffs.length:Int)))).bind fun x5 =>
 (z74 N decls_ x5.1).bind fun x6 =>
 (catS x6 (str [32,61,61,32])).bind fun x7 =>
 (idx x2.Guard.Equals (w64 (part_-(x2.Guard.Diffs.length:Int)))).bind fun x8 =>
 (z74 N decls_ x8.2).bind fun x9 =>
 (catS x7 x9).bind fun x10 =>
 some x10)
 else some (str [])
def z40 (N:Nat) (elems_:List ByteArray) (sep_:ByteArray):Option ByteArray:=bif (decide (elems_.length≤140737488355328) && decide ((joinL sep_.data.toList (elems_.map (·.data.toList))).length≤140737488355328)) then some ⟨(joinL sep_.data.toList (elems_.map (·.data.toList))).toArray⟩ else none
def z13_k1 (N:Nat) (x2:T0) (v8_1:(List ByteArray)) (v9_3:(List ByteArray)):Option ByteArray :=
 (catS x2.Name (str [40])).bind fun x23 =>
 (z40 N v8_1 (str [44,32])).bind fun x24 =>
 (catS x23 x24).bind fun x25 =>
 (catS x25 (str [41])).bind fun x26 =>
 bif (decide ((v9_3.length:Int) > (0:Int))) then ((z40 N v9_3 (str [32,97,110,100,32])).bind fun x27 =>
 (catS (str [32,119,104,101,114,101,32]) x27).bind fun x28 =>
 (catS x26 x28).bind fun x29 =>
 some x29)
 else some x26
def z13_l2 (N:Nat) (decls_:(List T0)) (label_:Int) (x2:T0) (v8_1:(List ByteArray)):Nat→(List ByteArray)→Int→Option ByteArray
 | 0,_,_=>none
 | n3+1,v9_5,v48_5 =>
 bif (decide (v48_5 < (w64 ((x2.Guard.Diffs.length:Int)+(x2.Guard.Equals.length:Int))))) then ((z39 N decls_ label_ v48_5).bind fun x38 =>
 (appL v9_5 ([x38]:List ByteArray)).bind fun x39 =>
 (z13_l2 N decls_ label_ x2 v8_1 n3) x39 (w64 (v48_5+(1:Int))))
 else z13_k1 N x2 v8_1 v9_5
def z13_k3 (N:Nat) (decls_:(List T0)) (label_:Int) (x2:T0) (v8_1:(List ByteArray)):Option ByteArray :=
 z13_l2 N decls_ label_ x2 v8_1 N ([]:List ByteArray) (0:Int)
def z13_l4 (N:Nat) (decls_:(List T0)) (label_:Int) (x2:T0):Nat→(List ByteArray)→Int→Option ByteArray
 | 0,_,_=>none
 | n4+1,v8_6,v29_6 =>
 bif (decide (v29_6 < (x2.Fields.length:Int))) then ((idx x2.Fields v29_6).bind fun x52 =>
 (z38 N x52).bind fun x53 =>
 (appL v8_6 ([x53]:List ByteArray)).bind fun x54 =>
 (z13_l4 N decls_ label_ x2 n4) x54 (w64 (v29_6+(1:Int))))
 else z13_k3 N decls_ label_ x2 v8_6
def z13 (N:Nat) (decls_:(List T0)) (label_:Int):Option ByteArray :=
 (z37 N decls_ label_).bind fun x1 =>
 bif (x1.2 != (0:Int)) then (some (str []))
 else (idx decls_ label_).bind fun x2 =>
 z13_l4 N decls_ label_ x2 N ([]:List ByteArray) (0:Int)
def z137_16 (N:Nat) (t_:T11) (c0_:Int):Option Bool :=
 some (t_.State==c0_)
def z136_17_k1:Option Int :=
 some (-1:Int)
def z136_17_l2 (N:Nat) (s_:(List T11)) (c0_:Int):Nat→Int→Option Int
 | 0,_=>none
 | n2+1,v8_3 =>
 bif (decide (v8_3 < (s_.length:Int))) then ((idx s_ v8_3).bind fun x17 =>
 (z137_16 N x17 c0_).bind fun x18 =>
 bif x18 then (some v8_3)
 else (z136_17_l2 N s_ c0_ n2) (w64 (v8_3+(1:Int))))
 else z136_17_k1
def z136_17 (N:Nat) (s_:(List T11)) (c0_:Int):Option Int :=
 z136_17_l2 N s_ c0_ N (0:Int)
def z64 (N:Nat) (m_:T8) (state_:Int):Option (T11 × Bool) :=
 (z134 N m_).bind fun x1 =>
 bif (!x1) then (some ((⟨(0:Int),(0:Int),(0:Int)⟩:T11),false))
 else (z136_17 N m_.Timeouts state_).bind fun x2 =>
 bif (decide (x2 < (0:Int))) then (some ((⟨(0:Int),(0:Int),(0:Int)⟩:T11),false))
 else (idx m_.Timeouts x2).bind fun x3 =>
 some (x3,true)
def z31_k1 (N:Nat) (g_:T5) (m_:T8) (state_:Int) (v7_1:(List ByteArray)):Option (List ByteArray) :=
 (z64 N m_ state_).bind fun x74 =>
 bif x74.2 then ((idx m_.Moves x74.1.Else).bind fun x75 =>
 (z65 N x74.1.Ticks).bind fun x76 =>
 (catS (str [119,105,116,104,105,110,32]) x76).bind fun x77 =>
 (catS x77 (str [32,116,105,99,107,115,44,32,111,116,104,101,114,119,105,115,101,32])).bind fun x78 =>
 (idx g_.Decls x75.Label).bind fun x79 =>
 (catS x78 x79.Name).bind fun x80 =>
 (catS x80 (str [32,116,111,32])).bind fun x81 =>
 (idx g_.Roles x75.Peer).bind fun x82 =>
 (catS x81 x82).bind fun x83 =>
 (appL v7_1 ([x83]:List ByteArray)).bind fun x84 =>
 (idx m_.Finals state_).bind fun x85 =>
 bif x85 then ((appL x84 ([(str [116,104,101,32,101,110,100])]:List ByteArray)).bind fun x86 =>
 some x86)
 else some x84)
 else (idx m_.Finals state_).bind fun x87 =>
 bif x87 then ((appL v7_1 ([(str [116,104,101,32,101,110,100])]:List ByteArray)).bind fun x88 =>
 some x88)
 else some v7_1
def z31_l2 (N:Nat) (g_:T5) (m_:T8) (state_:Int) (x1:(List Int)):Nat→(List ByteArray)→Int→Option (List ByteArray)
 | 0,_,_=>none
 | n2+1,v7_3,v19_3 =>
 bif (decide (v19_3 < (x1.length:Int))) then ((idx x1 v19_3).bind fun x161 =>
 (idx m_.Moves x161).bind fun x162 =>
 (idx g_.Roles x162.Peer).bind fun x163 =>
 bif x162.Again then ((idx g_.Decls x162.Label).bind fun x164 =>
 (catS (str [115,101,110,100,32]) x164.Name).bind fun x165 =>
 (catS x165 (str [32,97,103,97,105,110,32,116,111,32])).bind fun x166 =>
 (catS x166 x163).bind fun x167 =>
 (appL v7_3 ([x167]:List ByteArray)).bind fun x168 =>
 (z31_l2 N g_ m_ state_ x1 n2) x168 (w64 (v19_3+(1:Int))))
 else bif x162.Send then ((z13 N g_.Decls x162.Label).bind fun x169 =>
 (catS (str [115,101,110,100,32]) x169).bind fun x170 =>
 (catS x170 (str [32,116,111,32])).bind fun x171 =>
 (catS x171 x163).bind fun x172 =>
 (appL v7_3 ([x172]:List ByteArray)).bind fun x173 =>
 (z31_l2 N g_ m_ state_ x1 n2) x173 (w64 (v19_3+(1:Int))))
 else (z13 N g_.Decls x162.Label).bind fun x174 =>
 (catS (str [114,101,99,101,105,118,101,32]) x174).bind fun x175 =>
 (catS x175 (str [32,102,114,111,109,32])).bind fun x176 =>
 (catS x176 x163).bind fun x177 =>
 (appL v7_3 ([x177]:List ByteArray)).bind fun x178 =>
 (z31_l2 N g_ m_ state_ x1 n2) x178 (w64 (v19_3+(1:Int))))
 else z31_k1 N g_ m_ state_ v7_3
def z31 (N:Nat) (g_:T5) (m_:T8) (state_:Int):Option (List ByteArray) :=
 (z53 N m_ state_).bind fun x1 =>
 z31_l2 N g_ m_ state_ x1 N ([]:List ByteArray) (0:Int)
def z10 (N:Nat) (g_:T5) (m_:T8) (state_:Int):Option ((List ByteArray) × Int) :=
 (z30 N g_ m_).bind fun x1 =>
 bif (!x1) then (some (([]:List ByteArray),(1:Int)))
 else bif (decide (state_ < (0:Int))) then (some (([]:List ByteArray),(1:Int)))
 else bif (decide (state_≥m_.States)) then (some (([]:List ByteArray),(1:Int)))
 else (z31 N g_ m_ state_).bind fun x2 =>
 some (x2,(0:Int))
def z93_18 (N:Nat) (y_:T9) (c0_:T16) (c1_:T3):Option Bool :=
 bif (y_.From==c0_.At) then (bif (y_.Send==c1_.Send) then (bif (y_.Peer==c1_.Peer) then (some (y_.Label==c1_.Label))
 else some false)
 else some false)
 else some false
def z92_19_k1:Option Int :=
 some (-1:Int)
def z92_19_l2 (N:Nat) (s_:(List T9)) (c0_:T16) (c1_:T3):Nat→Int→Option Int
 | 0,_=>none
 | n2+1,v8_3 =>
 bif (decide (v8_3 < (s_.length:Int))) then ((idx s_ v8_3).bind fun x17 =>
 (z93_18 N x17 c0_ c1_).bind fun x18 =>
 bif x18 then (some v8_3)
 else (z92_19_l2 N s_ c0_ c1_ n2) (w64 (v8_3+(1:Int))))
 else z92_19_k1
def z92_19 (N:Nat) (s_:(List T9)) (c0_:T16) (c1_:T3):Option Int :=
 z92_19_l2 N s_ c0_ c1_ N (0:Int)
def z170 (N:Nat) (f_:T4) (x_:T12):Option Bool :=
 (z90 N f_.Sort' x_).bind fun x1 =>
 some x1
def z91_20_k1:Option Bool :=
 some true
def z91_20_l2 (N:Nat) (s1_:(List T4)) (s2_:(List T12)):Nat→Int→Option Bool
 | 0,_=>none
 | n2+1,v17_3 =>
 bif (decide (v17_3 < (s1_.length:Int))) then ((idx s1_ v17_3).bind fun x25 =>
 (idx s2_ v17_3).bind fun x26 =>
 (z170 N x25 x26).bind fun x27 =>
 bif (!x27) then (some false)
 else (z91_20_l2 N s1_ s2_ n2) (w64 (v17_3+(1:Int))))
 else z91_20_k1
def z91_20 (N:Nat) (s1_:(List T4)) (s2_:(List T12)):Option Bool :=
 bif ((s1_.length:Int) != (s2_.length:Int)) then (some false)
 else z91_20_l2 N s1_ s2_ N (0:Int)
def z94 (N:Nat) (l_:(List T4)) (v_:(List T12)):Option Bool :=
 (z91_20 N l_ v_).bind fun x1 =>
 some x1
def z110 (N:Nat) (v_:T12):Option Int :=
 bif (v_.Kind==(2:Int)) then (some (v_.S.size:Int))
 else some v_.N
def z247 (N:Nat) (r_:Int):Option Bool :=
 bif (decide (r_ < (32:Int))) then (some true)
 else some (decide (r_ > (126:Int)))
def z294_21_k1 (vi0_1:Nat):Option Int :=
 some (-1:Int)
def z294_21_l2 (N:Nat) (s_:ByteArray) (truth_:Bool):Nat→Nat→Option Int
 | 0,_=>none
 | n2+1,vi0_3 =>
 bif decide (vi0_3 < s_.size) then ((z247 N ((Utf8.decode s_ vi0_3).1:Int)).bind fun x10 =>
 bif (x10==truth_) then (some ((vi0_3:Nat):Int))
 else (z294_21_l2 N s_ truth_ n2) (vi0_3+(Utf8.decode s_ vi0_3).2))
 else z294_21_k1 vi0_3
def z294_21 (N:Nat) (s_:ByteArray) (truth_:Bool):Option Int :=
 z294_21_l2 N s_ truth_ N (0:Nat)
def z275_22 (N:Nat) (s_:ByteArray):Option Int :=
 (z294_21 N s_ true).bind fun x1 =>
 some x1
def z246_23 (N:Nat) (s_:ByteArray):Option Bool :=
 (z275_22 N s_).bind fun x1 =>
 some (decide (x1≥(0:Int)))
def z194 (N:Nat) (s_:T10) (v_:T12):Option Bool :=
 bif (v_.Kind != s_.Kind) then (some false)
 else (z110 N v_).bind fun x1 =>
 bif (decide (x1 < s_.Lo)) then (some false)
 else (z110 N v_).bind fun x2 =>
 bif (decide (x2 > s_.Hi)) then (some false)
 else bif (v_.Kind==(1:Int)) then (some (v_.S.toList==(str []).toList))
 else bif (v_.N==(0:Int)) then ((z246_23 N v_.S).bind fun x3 =>
 some (!x3))
 else some false
def z108_k1:Option Bool :=
 some true
def z108_l2 (N:Nat) (known_:(List T12)) (x2:(List T4)):Nat→Int→Option Bool
 | 0,_=>none
 | n2+1,v32_3 =>
 bif (decide (v32_3 < (known_.length:Int))) then ((idx known_ v32_3).bind fun x27 =>
 bif (!((x27.Kind==(0:Int)) && ((x27.N==(0:Int)) && ((x27.S.toList==(str []).toList) && true)))) then ((idx x2 v32_3).bind fun x28 =>
 (z194 N x28.Sort' x27).bind fun x29 =>
 bif (!x29) then (some false)
 else (z108_l2 N known_ x2 n2) (w64 (v32_3+(1:Int))))
 else (z108_l2 N known_ x2 n2) (w64 (v32_3+(1:Int))))
 else z108_k1
def z108 (N:Nat) (l_:(List T0)) (label_:Int) (known_:(List T12)):Option Bool :=
 bif (decide (label_ < (0:Int))) then (some false)
 else bif (decide (label_≥(l_.length:Int))) then (some false)
 else (z71 N l_).bind fun x1 =>
 bif (!x1) then (some false)
 else (z142 N l_).bind fun x2 =>
 bif ((x2.length:Int) != (known_.length:Int)) then (some false)
 else z108_l2 N known_ x2 N (0:Int)
def z117_k1:Option Bool :=
 some true
def z117_l2 (N:Nat) (l_:(List T4)) (values_:(List T12)):Nat→Int→Option Bool
 | 0,_=>none
 | n2+1,v14_3 =>
 bif (decide (v14_3 < (l_.length:Int))) then ((idx l_ v14_3).bind fun x25 =>
 (idx values_ v14_3).bind fun x26 =>
 (z194 N x25.Sort' x26).bind fun x27 =>
 bif (!x27) then (some false)
 else (z117_l2 N l_ values_ n2) (w64 (v14_3+(1:Int))))
 else z117_k1
def z117 (N:Nat) (l_:(List T4)) (values_:(List T12)):Option Bool :=
 bif ((l_.length:Int) != (values_.length:Int)) then (some false)
 else z117_l2 N l_ values_ N (0:Int)
def z55 (N:Nat) (s_:(List T12)):Option (List T12) :=
 (appL ([]:List T12) s_).bind fun x1 =>
 some x1
def z114 (N:Nat) (d_:T0) (values_:(List T12)) (known_:(List T12)):Option (List T12) :=
 (z55 N known_).bind fun x1 =>
 (lsl x1 (some d_.First) none).bind fun x2 =>
 (cpL x1 (some d_.First) none values_).bind fun x3 =>
 some x3.1
def z116_k1:Option Bool :=
 some true
def z116_l2 (g_:T6) (l_:(List T12)):Nat→Int→Option Bool
 | 0,_=>none
 | n9+1,v57_14 =>
 bif (decide (v57_14 < (g_.Equals.length:Int))) then ((idx g_.Equals v57_14).bind fun x197 =>
 (idx l_ x197.1).bind fun x198 =>
 bif (x198.Kind==(0:Int)) then (some false)
 else (idx l_ x197.2).bind fun x199 =>
 bif (x199.Kind==(0:Int)) then (some false)
 else (idx l_ x197.1).bind fun x200 =>
 (idx l_ x197.2).bind fun x201 =>
 bif (!(x200.S.toList==x201.S.toList)) then (some false)
 else (z116_l2 g_ l_ n9) (w64 (v57_14+(1:Int))))
 else z116_k1
def z116_k3 (N:Nat) (g_:T6) (l_:(List T12)):Option Bool :=
 z116_l2 g_ l_ N (0:Int)
def z116_k5 (v15_15:Int) (ag15:Int→Option Bool) (x362:T1) (vb7_6_0_22:Int) (vb7_6_1_22:Int):Option Bool :=
 bif (decide ((w64 (vb7_6_0_22-vb7_6_1_22)) > x362.C)) then (some false)
 else ag15 (w64 (v15_15+(1:Int)))
def z116_l6 (N:Nat) (l_:(List T12)) (v15_15:Int) (ag15:Int→Option Bool) (x362:T1):Nat→Int→Int→Int→Option Bool
 | 0,_,_,_=>none
 | n16+1,vb7_6_0_24,vb7_6_1_24,v25_24 =>
 bif (decide (v25_24 < (2:Int))) then ((idx ([x362.X,x362.Y]:List Int) v25_24).bind fun x401 =>
 bif (decide (x401 < (0:Int))) then ((z116_l6 N l_ v15_15 ag15 x362 n16) vb7_6_0_24 vb7_6_1_24 (w64 (v25_24+(1:Int))))
 else (idx l_ x401).bind fun x402 =>
 bif (x402.Kind==(0:Int)) then (some false)
 else (idx l_ x401).bind fun x403 =>
 (z110 N x403).bind fun x404 =>
 bif (v25_24==(0:Int)) then ((z116_l6 N l_ v15_15 ag15 x362 n16) x404 vb7_6_1_24 (w64 (v25_24+(1:Int))))
 else bif (v25_24==(1:Int)) then ((z116_l6 N l_ v15_15 ag15 x362 n16) vb7_6_0_24 x404 (w64 (v25_24+(1:Int))))
 else none)
 else z116_k5 v15_15 ag15 x362 vb7_6_0_24 vb7_6_1_24
def z116_l4 (N:Nat) (g_:T6) (l_:(List T12)):Nat→Int→Option Bool
 | 0,_=>none
 | n14+1,v15_15 =>
 bif (decide (v15_15 < (g_.Diffs.length:Int))) then ((idx g_.Diffs v15_15).bind fun x362 =>
 z116_l6 N l_ v15_15 (z116_l4 N g_ l_ n14) x362 N (0:Int) (0:Int) (0:Int))
 else z116_k3 N g_ l_
def z116 (N:Nat) (g_:T6) (l_:(List T12)):Option Bool :=
 z116_l4 N g_ l_ N (0:Int)
def z56 (N:Nat) (decls_:(List T0)) (label_:Int) (values_:(List T12)) (known_:(List T12)):Option Bool :=
 (z108 N decls_ label_ known_).bind fun x1 =>
 bif (!x1) then (some false)
 else (idx decls_ label_).bind fun x2 =>
 (z117 N x2.Fields values_).bind fun x3 =>
 bif (!x3) then (some false)
 else (idx decls_ label_).bind fun x4 =>
 (z114 N x4 values_ known_).bind fun x5 =>
 (z116 N x4.Guard x5).bind fun x6 =>
 some x6
def z271 (N:Nat) (x_:ByteArray):Option Bool :=
 some (!(x_.toList==x_.toList))
def z233 (N:Nat) (x_:ByteArray) (y_:ByteArray):Option Int :=
 (z271 N x_).bind fun x1 =>
 (z271 N y_).bind fun x2 =>
 bif x1 then (bif x2 then (some (0:Int))
 else some (-1:Int))
 else bif x2 then (some (1:Int))
 else bif (Op.bytesLess x_.toList y_.toList) then (some (-1:Int))
 else bif (!((Op.bytesLess x_.toList y_.toList) || (x_.toList==y_.toList))) then (some (1:Int))
 else some (0:Int)
def z173 (N:Nat) (a_:T12) (b_:T12):Option Int :=
 (z232 N a_.Kind b_.Kind).bind fun x1 =>
 (z232 N a_.N b_.N).bind fun x2 =>
 (z232 N (a_.S.size:Int) (b_.S.size:Int)).bind fun x3 =>
 (z233 N a_.S b_.S).bind fun x4 =>
 (z231 N ([x1,x2,x3,x4]:List Int)).bind fun x5 =>
 some x5
def z172 (N:Nat) (x_:T12) (y_:T12):Option Bool :=
 (z173 N x_ y_).bind fun x1 =>
 some (x1==(0:Int))
def z171_24_k1:Option Bool :=
 some true
def z171_24_l2 (N:Nat) (s1_:(List T12)) (s2_:(List T12)):Nat→Int→Option Bool
 | 0,_=>none
 | n2+1,v17_3 =>
 bif (decide (v17_3 < (s1_.length:Int))) then ((idx s1_ v17_3).bind fun x25 =>
 (idx s2_ v17_3).bind fun x26 =>
 (z172 N x25 x26).bind fun x27 =>
 bif (!x27) then (some false)
 else (z171_24_l2 N s1_ s2_ n2) (w64 (v17_3+(1:Int))))
 else z171_24_k1
def z171_24 (N:Nat) (s1_:(List T12)) (s2_:(List T12)):Option Bool :=
 bif ((s1_.length:Int) != (s2_.length:Int)) then (some false)
 else z171_24_l2 N s1_ s2_ N (0:Int)
def z95 (N:Nat) (a_:(List T12)) (b_:(List T12)):Option Bool :=
 (z171_24 N a_ b_).bind fun x1 =>
 some x1
def z96 (N:Nat) (decls_:(List T0)) (label_:Int) (values_:(List T12)) (known_:(List T12)):Option ((List T12) × Int) :=
 (z108 N decls_ label_ known_).bind fun x1 =>
 bif (!x1) then (some (([]:List T12),(1:Int)))
 else (idx decls_ label_).bind fun x2 =>
 (z117 N x2.Fields values_).bind fun x3 =>
 bif (!x3) then (some (([]:List T12),(11:Int)))
 else (idx decls_ label_).bind fun x4 =>
 (z114 N x4 values_ known_).bind fun x5 =>
 some (x5,(0:Int))
def z47_k1 (N:Nat) (g_:T5) (m_:T8) (s_:T16) (x_:T3) (x1:Int) (v40_1:Bool):Option (T16 × Int) :=
 bif v40_1 then (some ((⟨(0:Int),([]:List T12),([]:List T12)⟩:T16),(17:Int)))
 else (idx m_.Moves x1).bind fun x7 =>
 (z96 N g_.Decls x_.Label x_.Values s_.Known).bind fun x8 =>
 bif x_.Send then ((z55 N x_.Values).bind fun x9 =>
 some ((⟨x7.To,x8.1,x9⟩:T16),(0:Int)))
 else some ((⟨x7.To,x8.1,([]:List T12)⟩:T16),(0:Int))
def z47 (N:Nat) (g_:T5) (m_:T8) (s_:T16) (x_:T3):Option (T16 × Int) :=
 (z92_19 N m_.Moves s_ x_).bind fun x1 =>
 bif (x_.Role != m_.Role) then (some ((⟨(0:Int),([]:List T12),([]:List T12)⟩:T16),(12:Int)))
 else bif (decide (x1 < (0:Int))) then (some ((⟨(0:Int),([]:List T12),([]:List T12)⟩:T16),(23:Int)))
 else (idx g_.Decls x_.Label).bind fun x2 =>
 (z94 N x2.Fields x_.Values).bind fun x3 =>
 bif (!x3) then (some ((⟨(0:Int),([]:List T12),([]:List T12)⟩:T16),(11:Int)))
 else (z56 N g_.Decls x_.Label x_.Values s_.Known).bind fun x4 =>
 bif (!x4) then (z47_k1 N g_ m_ s_ x_ x1 true)
 else (idx m_.Moves x1).bind fun x10 =>
 bif x10.Again then ((z95 N x_.Values s_.Pending).bind fun x11 =>
 z47_k1 N g_ m_ s_ x_ x1 (!x11))
 else z47_k1 N g_ m_ s_ x_ x1 false
def z17_k1 (history_:(List T3)) (vb6_10_0_1:Int) (vb6_10_1_1:(List T12)) (vb6_10_2_1:(List T12)):Option (T16 × Int × Int) :=
 some ((⟨vb6_10_0_1,vb6_10_1_1,vb6_10_2_1⟩:T16),(history_.length:Int),(0:Int))
def z17_l2 (N:Nat) (g_:T5) (m_:T8) (history_:(List T3)):Nat→Int→(List T12)→(List T12)→Int→Option (T16 × Int × Int)
 | 0,_,_,_,_=>none
 | n2+1,vb6_10_0_3,vb6_10_1_3,vb6_10_2_3,v24_3 =>
 bif (decide (v24_3 < (history_.length:Int))) then ((idx history_ v24_3).bind fun x19 =>
 (z47 N g_ m_ (⟨vb6_10_0_3,vb6_10_1_3,vb6_10_2_3⟩:T16) x19).bind fun x20 =>
 bif (x20.2 != (0:Int)) then (some ((⟨vb6_10_0_3,vb6_10_1_3,vb6_10_2_3⟩:T16),v24_3,x20.2))
 else (z17_l2 N g_ m_ history_ n2) x20.1.At x20.1.Known x20.1.Pending (w64 (v24_3+(1:Int))))
 else z17_k1 history_ vb6_10_0_3 vb6_10_1_3 vb6_10_2_3
def z17 (N:Nat) (g_:T5) (m_:T8) (history_:(List T3)):Option (T16 × Int × Int) :=
 (z24 N g_ m_).bind fun x1 =>
 (z46 N g_ m_ x1).bind fun x2 =>
 bif (!x2) then (some ((⟨(0:Int),([]:List T12),([]:List T12)⟩:T16),(0:Int),(1:Int)))
 else z17_l2 N g_ m_ history_ N x1.At x1.Known x1.Pending (0:Int)
def z44 (N:Nat) (s_:(List T3)):Option (List T3) :=
 (appL ([]:List T3) s_).bind fun x1 =>
 some x1
def z175 (N:Nat) (decls_:(List T0)) (label_:Int) (own_:(List T12)) (known_:(List T12)):Option (List T12) :=
 (appL ([]:List T12) known_).bind fun x1 =>
 (idx decls_ label_).bind fun x2 =>
 (lsl x1 (some x2.First) none).bind fun x3 =>
 (cpL x1 (some x2.First) none own_).bind fun x4 =>
 some x4.1
def z234 (N:Nat) (all_:(List T12)) (x_:Int):Option (Int × Bool) :=
 bif (decide (x_ < (0:Int))) then (some ((0:Int),true))
 else (idx all_ x_).bind fun x1 =>
 (z167 N x1).bind fun x2 =>
 (idx all_ x_).bind fun x3 =>
 some (x2,(x3.Kind != (0:Int)))
def z174_k1:Option (Int × Bool) :=
 some ((0:Int),false)
def z174_l2 (x_:T6) (all_:(List T12)):Nat→Int→Option (Int × Bool)
 | 0,_=>none
 | n3+1,v57_5 =>
 bif (decide (v57_5 < (x_.Equals.length:Int))) then ((idx x_.Equals v57_5).bind fun x37 =>
 (idx all_ x37.1).bind fun x38 =>
 (idx all_ x37.2).bind fun x39 =>
 bif (x38.Kind==(0:Int)) then (some ((w64 ((x_.Diffs.length:Int)+v57_5)),true))
 else bif (x39.Kind==(0:Int)) then (some ((w64 ((x_.Diffs.length:Int)+v57_5)),true))
 else bif (!(x38.S.toList==x39.S.toList)) then (some ((w64 ((x_.Diffs.length:Int)+v57_5)),true))
 else (z174_l2 x_ all_ n3) (w64 (v57_5+(1:Int))))
 else z174_k1
def z174_k3 (N:Nat) (x_:T6) (all_:(List T12)):Option (Int × Bool) :=
 z174_l2 x_ all_ N (0:Int)
def z174_l4 (N:Nat) (x_:T6) (all_:(List T12)):Nat→Int→Option (Int × Bool)
 | 0,_=>none
 | n4+1,v19_6 =>
 bif (decide (v19_6 < (x_.Diffs.length:Int))) then ((idx x_.Diffs v19_6).bind fun x52 =>
 (z234 N all_ x52.X).bind fun x53 =>
 (z234 N all_ x52.Y).bind fun x54 =>
 bif (!x53.2) then (some (v19_6,true))
 else bif (!x54.2) then (some (v19_6,true))
 else bif (decide ((w64 (x53.1-x54.1)) > x52.C)) then (some (v19_6,true))
 else (z174_l4 N x_ all_ n4) (w64 (v19_6+(1:Int))))
 else z174_k3 N x_ all_
def z174 (N:Nat) (x_:T6) (all_:(List T12)):Option (Int × Bool) :=
 z174_l4 N x_ all_ N (0:Int)
def z176_k1 (a_:(List T12)):Option Int :=
 some (a_.length:Int)
def z176_l2 (N:Nat) (a_:(List T12)) (b_:(List T12)):Nat→Int→Option Int
 | 0,_=>none
 | n2+1,v8_3 =>
 bif (decide (v8_3 < (a_.length:Int))) then (bif (decide (v8_3≥(b_.length:Int))) then (some v8_3)
 else (idx a_ v8_3).bind fun x25 =>
 (idx b_ v8_3).bind fun x26 =>
 (z173 N x25 x26).bind fun x27 =>
 bif (x27 != (0:Int)) then (some v8_3)
 else (z176_l2 N a_ b_ n2) (w64 (v8_3+(1:Int))))
 else z176_k1 a_
def z176 (N:Nat) (a_:(List T12)) (b_:(List T12)):Option Int :=
 z176_l2 N a_ b_ N (0:Int)
def z97_k1 (N:Nat) (g_:T5) (s_:T16) (x_:T3) (x1:T0):Option (Int × Int) :=
 (z175 N g_.Decls x_.Label x_.Values s_.Known).bind fun x14 =>
 (z174 N x1.Guard x14).bind fun x15 =>
 bif x15.2 then (some ((5:Int),x15.1))
 else (z176 N x_.Values s_.Pending).bind fun x16 =>
 some ((6:Int),x16)
def z97_l2 (N:Nat) (g_:T5) (s_:T16) (x_:T3) (x1:T0):Nat→Int→Option (Int × Int)
 | 0,_=>none
 | n2+1,v36_3 =>
 bif (decide (v36_3 < (x1.Fields.length:Int))) then ((idx x1.Fields v36_3).bind fun x29 =>
 (idx x_.Values v36_3).bind fun x30 =>
 (z90 N x29.Sort' x30).bind fun x31 =>
 bif (!x31) then (some ((4:Int),v36_3))
 else (z97_l2 N g_ s_ x_ x1 n2) (w64 (v36_3+(1:Int))))
 else z97_k1 N g_ s_ x_ x1
def z97 (N:Nat) (g_:T5) (s_:T16) (x_:T3) (e_:Int):Option (Int × Int) :=
 bif (e_==(12:Int)) then (some ((1:Int),(0:Int)))
 else bif (e_==(23:Int)) then (some ((2:Int),(0:Int)))
 else (idx g_.Decls x_.Label).bind fun x1 =>
 bif ((x_.Values.length:Int) != (x1.Fields.length:Int)) then (some ((3:Int),(0:Int)))
 else z97_l2 N g_ s_ x_ x1 N (0:Int)
def z48_k1 (N:Nat) (g_:T5) (m_:T8) (history_:(List T3)) (x1:T16 × Int × Int) (v21_1:Bool):Option (T13 × Bool × Int) :=
 bif v21_1 then (some ((⟨(0:Int),(0:Int),(0:Int),(0:Int)⟩:T13),false,x1.2.2))
 else (idx history_ x1.2.1).bind fun x2 =>
 (z97 N g_ x1.1 x2 x1.2.2).bind fun x3 =>
 bif (x3.1==(1:Int)) then (some ((⟨x1.2.1,x3.1,x3.2,x2.Role⟩:T13),true,(0:Int)))
 else bif x2.Send then (some ((⟨x1.2.1,x3.1,x3.2,m_.Role⟩:T13),true,(0:Int)))
 else some ((⟨x1.2.1,x3.1,x3.2,x2.Peer⟩:T13),true,(0:Int))
def z48 (N:Nat) (g_:T5) (m_:T8) (history_:(List T3)):Option (T13 × Bool × Int) :=
 (z17 N g_ m_ history_).bind fun x1 =>
 bif (x1.2.2==(0:Int)) then (z48_k1 N g_ m_ history_ x1 true)
 else z48_k1 N g_ m_ history_ x1 (x1.2.2==(1:Int))
def z98 (N:Nat) (l_:(List ByteArray)) (i_:Int):Option ByteArray :=
 bif (decide (i_ < (0:Int))) then (some (str [63]))
 else bif (decide (i_≥(l_.length:Int))) then (some (str [63]))
 else (idx l_ i_).bind fun x1 =>
 some x1
def z99_k1 (v3_1:(List ByteArray)):Option (List ByteArray) :=
 some v3_1
def z99_l2 (decls_:(List T0)):Nat→(List ByteArray)→Int→Option (List ByteArray)
 | 0,_,_=>none
 | n2+1,v3_3,v8_3 =>
 bif (decide (v8_3 < (decls_.length:Int))) then ((idx decls_ v8_3).bind fun x17 =>
 (appL v3_3 ([x17.Name]:List ByteArray)).bind fun x18 =>
 (z99_l2 decls_ n2) x18 (w64 (v8_3+(1:Int))))
 else z99_k1 v3_3
def z99 (N:Nat) (decls_:(List T0)):Option (List ByteArray) :=
 z99_l2 decls_ N ([]:List ByteArray) (0:Int)
def z153_25 (N:Nat) (c0_:ByteArray):Option ByteArray :=
 some ByteArray.empty
def z177_26 (N:Nat) (c_:Int) (c0_:ByteArray):Option (Unit × ByteArray) :=
 (z153_25 N ByteArray.empty).bind fun x1 =>
 (apI x1 ([c_]:List Int)).bind fun x2 =>
 some ((),x2)
def z153_27 (N:Nat) (c0_:ByteArray):Option Unit :=
 some ()
def z177_28 (N:Nat) (c_:Int) (c0_:ByteArray):Option (Unit × ByteArray) :=
 (z153_27 N c0_).bind fun x1 =>
 (apI c0_ ([c_]:List Int)).bind fun x2 =>
 some ((),x2)
def z77_29 (N:Nat) (c0_:ByteArray):Option ByteArray :=
 (gdB c0_).bind fun x1 =>
 (gdB c0_).bind fun x2 =>
 some c0_
def z101_k1 (N:Nat) (vb3_2_1_1:ByteArray):Option ByteArray :=
 (z177_28 N (34:Int) vb3_2_1_1).bind fun x44 =>
 (z77_29 N x44.2).bind fun x45 =>
 some x45
def z101_l2 (N:Nat) (v_:T12):Nat→ByteArray→Int→Option ByteArray
 | 0,_,_=>none
 | n2+1,vb3_2_1_3,v20_3 =>
 bif (decide (v20_3 < (v_.S.size:Int))) then ((sidx v_.S v20_3).bind fun x86 =>
 bif (x86==(34:Int)) then ((z177_28 N (92:Int) vb3_2_1_3).bind fun x87 =>
 (sidx v_.S v20_3).bind fun x88 =>
 (z177_28 N x88 x87.2).bind fun x89 =>
 (z101_l2 N v_ n2) x89.2 (w64 (v20_3+(1:Int))))
 else (sidx v_.S v20_3).bind fun x90 =>
 bif (x90==(92:Int)) then ((z177_28 N (92:Int) vb3_2_1_3).bind fun x91 =>
 (sidx v_.S v20_3).bind fun x92 =>
 (z177_28 N x92 x91.2).bind fun x93 =>
 (z101_l2 N v_ n2) x93.2 (w64 (v20_3+(1:Int))))
 else (sidx v_.S v20_3).bind fun x94 =>
 (z177_28 N x94 vb3_2_1_3).bind fun x95 =>
 (z101_l2 N v_ n2) x95.2 (w64 (v20_3+(1:Int))))
 else z101_k1 N vb3_2_1_3
def z101 (N:Nat) (v_:T12):Option ByteArray :=
 (z169 N v_).bind fun x1 =>
 bif (!x1) then (some (str [63]))
 else bif (v_.Kind==(1:Int)) then ((z65 N v_.N).bind fun x2 =>
 some x2)
 else (z177_26 N (34:Int) ByteArray.empty).bind fun x3 =>
 z101_l2 N v_ N x3.2 (0:Int)
def z100_k1 (N:Nat) (v3_1:(List ByteArray)):Option ByteArray :=
 (z40 N v3_1 (str [44,32])).bind fun x13 =>
 (catS (str [40]) x13).bind fun x14 =>
 (catS x14 (str [41])).bind fun x15 =>
 some x15
def z100_l2 (N:Nat) (l_:(List T12)):Nat→(List ByteArray)→Int→Option ByteArray
 | 0,_,_=>none
 | n2+1,v3_3,v8_3 =>
 bif (decide (v8_3 < (l_.length:Int))) then ((idx l_ v8_3).bind fun x28 =>
 (z101 N x28).bind fun x29 =>
 (appL v3_3 ([x29]:List ByteArray)).bind fun x30 =>
 (z100_l2 N l_ n2) x30 (w64 (v8_3+(1:Int))))
 else z100_k1 N v3_3
def z100 (N:Nat) (l_:(List T12)):Option ByteArray :=
 z100_l2 N l_ N ([]:List ByteArray) (0:Int)
def z49_k1 (N:Nat) (g_:T5) (x_:T3) (v5_1:ByteArray) (v6_1:ByteArray):Option ByteArray :=
 (z98 N g_.Roles x_.Role).bind fun x1 =>
 (catS x1 v5_1).bind fun x2 =>
 (z99 N g_.Decls).bind fun x3 =>
 (z98 N x3 x_.Label).bind fun x4 =>
 (catS x2 x4).bind fun x5 =>
 (z100 N x_.Values).bind fun x6 =>
 (catS x5 x6).bind fun x7 =>
 (catS x7 v6_1).bind fun x8 =>
 (z98 N g_.Roles x_.Peer).bind fun x9 =>
 (catS x8 x9).bind fun x10 =>
 some x10
def z49 (N:Nat) (g_:T5) (x_:T3):Option ByteArray :=
 bif x_.Send then (z49_k1 N g_ x_ (str [32,115,101,110,100,115,32]) (str [32,116,111,32]))
 else z49_k1 N g_ x_ (str [32,103,101,116,115,32]) (str [32,102,114,111,109,32])
def z50 (N:Nat) (g_:T5) (m_:T8) (b_:T13) (x_:T3):Option ByteArray :=
 bif (b_.Kind==(1:Int)) then ((z98 N g_.Roles m_.Role).bind fun x1 =>
 (catS (str [105,115,32,110,111,116,32,97,110,32,101,118,101,110,116,32,111,102,32]) x1).bind fun x2 =>
 some x2)
 else bif (b_.Kind==(2:Int)) then (some (str [105,115,32,110,111,116,32,112,101,114,109,105,116,116,101,100,32,104,101,114,101]))
 else bif (b_.Kind==(3:Int)) then ((z65 N (x_.Values.length:Int)).bind fun x3 =>
 (catS (str [104,97,115,32]) x3).bind fun x4 =>
 (catS x4 (str [32,118,97,108,117,101,115,32,105,110,115,116,101,97,100,32,111,102,32])).bind fun x5 =>
 (idx g_.Decls x_.Label).bind fun x6 =>
 (z65 N (x6.Fields.length:Int)).bind fun x7 =>
 (catS x5 x7).bind fun x8 =>
 some x8)
 else bif (b_.Kind==(4:Int)) then ((idx g_.Decls x_.Label).bind fun x9 =>
 (idx x9.Fields b_.Part).bind fun x10 =>
 (idx x_.Values b_.Part).bind fun x11 =>
 (z101 N x11).bind fun x12 =>
 (catS (str [104,97,115,32,116,104,101,32,118,97,108,117,101,32]) x12).bind fun x13 =>
 (catS x13 (str [32,102,111,114,32])).bind fun x14 =>
 (catS x14 x10.Name).bind fun x15 =>
 (catS x15 (str [44,32,119,104,105,99,104,32,105,115,32,110,111,116,32,102,114,111,109,32])).bind fun x16 =>
 (z65 N x10.Sort'.Lo).bind fun x17 =>
 (catS x16 x17).bind fun x18 =>
 (catS x18 (str [32,116,111,32])).bind fun x19 =>
 (z65 N x10.Sort'.Hi).bind fun x20 =>
 (catS x19 x20).bind fun x21 =>
 some x21)
 else bif (b_.Kind==(5:Int)) then ((z39 N g_.Decls x_.Label b_.Part).bind fun x22 =>
 (catS (str [100,111,101,115,32,110,111,116,32,107,101,101,112,32,116,104,101,32,103,117,97,114,100,32]) x22).bind fun x23 =>
 some x23)
 else some (str [100,111,101,115,32,110,111,116,32,104,97,118,101,32,116,104,101,32,115,97,109,101,32,118,97,108,117,101,115,32,97,115,32,116,104,101,32,109,101,115,115,97,103,101,32,97,104,101,97,100])
def z18 (N:Nat) (g_:T5) (m_:T8) (history_:(List T3)):Option (ByteArray × Int) :=
 (z48 N g_ m_ history_).bind fun x1 =>
 bif (x1.2.2 != (0:Int)) then (some ((str []),x1.2.2))
 else bif (!x1.2.1) then (some ((str []),x1.2.2))
 else (idx history_ x1.1.At).bind fun x2 =>
 (z49 N g_ x2).bind fun x3 =>
 (catS x3 (str [32])).bind fun x4 =>
 (z50 N g_ m_ x1.1 x2).bind fun x5 =>
 (catS x4 x5).bind fun x6 =>
 some (x6,(0:Int))
def z15 (N:Nat) (g_:T5) (m_:T8) (history_:(List T3)) (x_:T3):Option (ByteArray × Int) :=
 (z17 N g_ m_ history_).bind fun x1 =>
 bif (x1.2.2==(1:Int)) then (some ((str []),(1:Int)))
 else bif (x1.2.2 != (0:Int)) then (some ((str []),(7:Int)))
 else (z44 N history_).bind fun x2 =>
 (appL x2 ([x_]:List T3)).bind fun x3 =>
 (z18 N g_ m_ x3).bind fun x4 =>
 bif (x4.2 != (0:Int)) then (some ((str []),x4.2))
 else bif (x4.1.toList==(str []).toList) then (some ((str []),x4.2))
 else (z31 N g_ m_ x1.1.At).bind fun x5 =>
 (z40 N x5 (str [59,32])).bind fun x6 =>
 bif (x6.toList==(str []).toList) then ((catS x4.1 (str [59,32,112,101,114,109,105,116,116,101,100,58,32])).bind fun x7 =>
 (catS x7 (str [110,111,116,104,105,110,103])).bind fun x8 =>
 some (x8,(0:Int)))
 else (catS x4.1 (str [59,32,112,101,114,109,105,116,116,101,100,58,32])).bind fun x9 =>
 (catS x9 x6).bind fun x10 =>
 some (x10,(0:Int))
def z248 (N:Nat) (i_:Int) (j_:Int):Option Int :=
 bif (i_==j_) then (some (0:Int))
 else bif (i_==(0:Int)) then (some (10000:Int))
 else bif (j_==(0:Int)) then (some (10000:Int))
 else some (20000:Int)
def z195_k1 (n_:Int) (vb3_2_1_1:(List Int)):Option T17 :=
 some (⟨n_,vb3_2_1_1⟩:T17)
def z195_k3 (v16_12:Int) (ag12:(List Int)→Int→Option T17) (vb3_2_1_19:(List Int)):Option T17 :=
 ag12 vb3_2_1_19 (w64 (v16_12+(1:Int)))
def z195_l4 (N:Nat) (n_:Int) (v16_12:Int) (ag12:(List Int)→Int→Option T17):Nat→(List Int)→Int→Option T17
 | 0,_,_=>none
 | n14+1,vb3_2_1_21,v21_21 =>
 bif (decide (v21_21 < (w64 (n_+(1:Int))))) then ((z248 N v16_12 v21_21).bind fun x148 =>
 (idx vb3_2_1_21 (w64 ((w64 (v16_12 * (w64 (n_+(1:Int)))))+v21_21))).bind fun x149 =>
 (z195_l4 N n_ v16_12 ag12 n14) (setL' vb3_2_1_21 (w64 ((w64 (v16_12 * (w64 (n_+(1:Int)))))+v21_21)) x148) (w64 (v21_21+(1:Int))))
 else z195_k3 v16_12 ag12 vb3_2_1_21
def z195_l2 (N:Nat) (n_:Int):Nat→(List Int)→Int→Option T17
 | 0,_,_=>none
 | n12+1,vb3_2_1_12,v16_12 =>
 bif (decide (v16_12 < (w64 (n_+(1:Int))))) then (z195_l4 N n_ v16_12 (z195_l2 N n_ n12) N vb3_2_1_12 (0:Int))
 else z195_k1 n_ vb3_2_1_12
def z195 (N:Nat) (n_:Int):Option T17 :=
 (mkL (0:Int) (w64 ((w64 (n_+(1:Int))) * (w64 (n_+(1:Int))))) (w64 ((w64 (n_+(1:Int))) * (w64 (n_+(1:Int)))))).bind fun x1 =>
 z195_l2 N n_ N x1 (0:Int)
def z109 (N:Nat) (n_:Int):Option (T17 × Int) :=
 bif (decide (n_ < (0:Int))) then (some ((⟨(0:Int),([]:List Int)⟩:T17),(2:Int)))
 else bif (decide (n_ > (24:Int))) then (some ((⟨(0:Int),([]:List Int)⟩:T17),(2:Int)))
 else (z195 N n_).bind fun x1 =>
 some (x1,(0:Int))
def z249_k1 (v3_2:Int):Option Int :=
 some v3_2
def z249_l2 (x_:(List Int)):Nat→Int→Int→Option Int
 | 0,_,_=>none
 | n2+1,v3_4,v4_4 =>
 bif (decide (v4_4 < (x_.length:Int))) then ((idx x_ v4_4).bind fun x10 =>
 (z249_l2 x_ n2) (minI v3_4 x10) (w64 (v4_4+(1:Int))))
 else z249_k1 v3_4
def z249 (N:Nat) (x_:(List Int)):Option Int :=
 bif (decide ((x_.length:Int) < (1:Int))) then (dead 0)
 else (idx x_ (0:Int)).bind fun x1 =>
 z249_l2 x_ N x1 (1:Int)
def z250_k1 (v3_2:Int):Option Int :=
 some v3_2
def z250_l2 (x_:(List Int)):Nat→Int→Int→Option Int
 | 0,_,_=>none
 | n2+1,v3_4,v4_4 =>
 bif (decide (v4_4 < (x_.length:Int))) then ((idx x_ v4_4).bind fun x10 =>
 (z250_l2 x_ n2) (maxI v3_4 x10) (w64 (v4_4+(1:Int))))
 else z250_k1 v3_4
def z250 (N:Nat) (x_:(List Int)):Option Int :=
 bif (decide ((x_.length:Int) < (1:Int))) then (dead 0)
 else (idx x_ (0:Int)).bind fun x1 =>
 z250_l2 x_ N x1 (1:Int)
def z196 (N:Nat) (z_:T17):Option Bool :=
 bif (decide (z_.N≥(0:Int))) then (bif (decide (z_.N≤(24:Int))) then (bif ((z_.B.length:Int)==(w64 ((w64 (z_.N+(1:Int))) * (w64 (z_.N+(1:Int)))))) then ((z249 N z_.B).bind fun x1 =>
 bif (decide (x1≥(-20001:Int))) then ((z250 N z_.B).bind fun x2 =>
 some (decide (x2≤(20000:Int))))
 else some false)
 else some false)
 else some false)
 else some false
def z197 (N:Nat) (z_:T17) (x_:Int):Option Bool :=
 bif (decide (x_≥(-1:Int))) then (some (decide (x_ < z_.N)))
 else some false
def z198 (N:Nat) (s_:(List Int)):Option (List Int) :=
 (appL ([]:List Int) s_).bind fun x1 =>
 some x1
def z111 (N:Nat) (z_:T17) (d_:T1):Option (T17 × Int) :=
 (z196 N z_).bind fun x1 =>
 bif (!x1) then (some ((⟨(0:Int),([]:List Int)⟩:T17),(1:Int)))
 else (z197 N z_ d_.X).bind fun x2 =>
 bif (!x2) then (some ((⟨(0:Int),([]:List Int)⟩:T17),(2:Int)))
 else (z197 N z_ d_.Y).bind fun x3 =>
 bif (!x3) then (some ((⟨(0:Int),([]:List Int)⟩:T17),(2:Int)))
 else (z198 N z_.B).bind fun x4 =>
 (idx x4 (w64 ((w64 ((w64 ((w64 (d_.X+(1:Int))) * (w64 (z_.N+(1:Int)))))+d_.Y))+(1:Int)))).bind fun x5 =>
 (idx x4 (w64 ((w64 ((w64 ((w64 (d_.X+(1:Int))) * (w64 (z_.N+(1:Int)))))+d_.Y))+(1:Int)))).bind fun x6 =>
 some ((⟨z_.N,(setL' x4 (w64 ((w64 ((w64 ((w64 (d_.X+(1:Int))) * (w64 (z_.N+(1:Int)))))+d_.Y))+(1:Int))) (minI x5 (maxI d_.C (-20001:Int))))⟩:T17),(0:Int))
def z199_k1 (z_:T17) (vb5_4_1_12:(List Int)):Option (T17 × Bool) :=
 some ((⟨z_.N,vb5_4_1_12⟩:T17),true)
def z199_k3 (v57_86:Int) (ag86:(List Int)→Int→Option (T17 × Bool)) (vb5_4_1_135:(List Int)):Option (T17 × Bool) :=
 ag86 vb5_4_1_135 (w64 (v57_86+(1:Int)))
def z199_l4 (z_:T17) (v57_86:Int) (ag86:(List Int)→Int→Option (T17 × Bool)) (vb5_4_1_135:(List Int)):Nat→Int→Option (T17 × Bool)
 | 0,_=>none
 | n98+1,v108_148 =>
 bif (decide (v108_148 < (w64 (z_.N+(1:Int))))) then ((idx vb5_4_1_135 (w64 ((w64 (v108_148 * (w64 (z_.N+(1:Int)))))+v108_148))).bind fun x2388 =>
 bif (decide (x2388 < (0:Int))) then (some ((⟨(0:Int),([]:List Int)⟩:T17),false))
 else (z199_l4 z_ v57_86 ag86 vb5_4_1_135 n98) (w64 (v108_148+(1:Int))))
 else z199_k3 v57_86 ag86 vb5_4_1_135
def z199_k5 (N:Nat) (z_:T17) (v57_86:Int) (ag86:(List Int)→Int→Option (T17 × Bool)) (vb5_4_1_135:(List Int)):Option (T17 × Bool) :=
 z199_l4 z_ v57_86 ag86 vb5_4_1_135 N (0:Int)
def z199_k7 (v61_149:Int) (ag149:(List Int)→Int→Option (T17 × Bool)) (vb5_4_1_156:(List Int)):Option (T17 × Bool) :=
 ag149 vb5_4_1_156 (w64 (v61_149+(1:Int)))
def z199_l8 (z_:T17) (v57_86:Int) (v61_149:Int) (ag149:(List Int)→Int→Option (T17 × Bool)):Nat→(List Int)→Int→Option (T17 × Bool)
 | 0,_,_=>none
 | n105+1,vb5_4_1_158,v65_158 =>
 bif (decide (v65_158 < (w64 (z_.N+(1:Int))))) then ((idx vb5_4_1_158 (w64 ((w64 (v61_149 * (w64 (z_.N+(1:Int)))))+v65_158))).bind fun x2553 =>
 (idx vb5_4_1_158 (w64 ((w64 (v61_149 * (w64 (z_.N+(1:Int)))))+v57_86))).bind fun x2554 =>
 (idx vb5_4_1_158 (w64 ((w64 (v57_86 * (w64 (z_.N+(1:Int)))))+v65_158))).bind fun x2555 =>
 (idx vb5_4_1_158 (w64 ((w64 (v61_149 * (w64 (z_.N+(1:Int)))))+v65_158))).bind fun x2556 =>
 (z199_l8 z_ v57_86 v61_149 ag149 n105) (setL' vb5_4_1_158 (w64 ((w64 (v61_149 * (w64 (z_.N+(1:Int)))))+v65_158)) (minI x2553 (w64 (x2554+x2555)))) (w64 (v65_158+(1:Int))))
 else z199_k7 v61_149 ag149 vb5_4_1_158
def z199_l6 (N:Nat) (z_:T17) (v57_86:Int) (ag86:(List Int)→Int→Option (T17 × Bool)):Nat→(List Int)→Int→Option (T17 × Bool)
 | 0,_,_=>none
 | n103+1,vb5_4_1_149,v61_149 =>
 bif (decide (v61_149 < (w64 (z_.N+(1:Int))))) then (z199_l8 z_ v57_86 v61_149 (z199_l6 N z_ v57_86 ag86 n103) N vb5_4_1_149 (0:Int))
 else z199_k5 N z_ v57_86 ag86 vb5_4_1_149
def z199_l2 (N:Nat) (z_:T17):Nat→(List Int)→Int→Option (T17 × Bool)
 | 0,_,_=>none
 | n89+1,vb5_4_1_86,v57_86 =>
 bif (decide (v57_86 < (w64 (z_.N+(1:Int))))) then (z199_l6 N z_ v57_86 (z199_l2 N z_ n89) N vb5_4_1_86 (0:Int))
 else z199_k1 z_ vb5_4_1_86
def z199_k9 (N:Nat) (z_:T17) (vb5_4_1_1:(List Int)):Option (T17 × Bool) :=
 z199_l2 N z_ N vb5_4_1_1 (0:Int)
def z199_k11 (v26_159:Int) (ag159:(List Int)→Int→Option (T17 × Bool)) (vb5_4_1_166:(List Int)):Option (T17 × Bool) :=
 ag159 vb5_4_1_166 (w64 (v26_159+(1:Int)))
def z199_l12 (N:Nat) (z_:T17) (v26_159:Int) (ag159:(List Int)→Int→Option (T17 × Bool)):Nat→(List Int)→Int→Option (T17 × Bool)
 | 0,_,_=>none
 | n112+1,vb5_4_1_168,v30_168 =>
 bif (decide (v30_168 < (w64 (z_.N+(1:Int))))) then ((idx vb5_4_1_168 (w64 ((w64 (v26_159 * (w64 (z_.N+(1:Int)))))+v30_168))).bind fun x2680 =>
 (z248 N v26_159 v30_168).bind fun x2681 =>
 (idx vb5_4_1_168 (w64 ((w64 (v26_159 * (w64 (z_.N+(1:Int)))))+v30_168))).bind fun x2682 =>
 (z199_l12 N z_ v26_159 ag159 n112) (setL' vb5_4_1_168 (w64 ((w64 (v26_159 * (w64 (z_.N+(1:Int)))))+v30_168)) (minI x2680 x2681)) (w64 (v30_168+(1:Int))))
 else z199_k11 v26_159 ag159 vb5_4_1_168
def z199_l10 (N:Nat) (z_:T17):Nat→(List Int)→Int→Option (T17 × Bool)
 | 0,_,_=>none
 | n110+1,vb5_4_1_159,v26_159 =>
 bif (decide (v26_159 < (w64 (z_.N+(1:Int))))) then (z199_l12 N z_ v26_159 (z199_l10 N z_ n110) N vb5_4_1_159 (0:Int))
 else z199_k9 N z_ vb5_4_1_159
def z199 (N:Nat) (z_:T17):Option (T17 × Bool) :=
 (z196 N z_).bind fun x1 =>
 bif (!x1) then (some ((⟨(0:Int),([]:List Int)⟩:T17),false))
 else (z198 N z_.B).bind fun x2 =>
 z199_l10 N z_ N x2 (0:Int)
def z200 (N:Nat) (z_:T17) (i_:Int) (j_:Int):Option Int :=
 (idx z_.B (w64 ((w64 (i_ * (w64 (z_.N+(1:Int)))))+j_))).bind fun x1 =>
 some x1
def z112_k1 (v6_1:(List Int)):Option ((List Int) × Bool) :=
 some (v6_1,true)
def z112_k3 (v6_12:(List Int)) (v21_12:Int) (ag12:(List Int)→Int→Option ((List Int) × Bool)) (v8_19:Int):Option ((List Int) × Bool) :=
 (appL v6_12 ([v8_19]:List Int)).bind fun x157 =>
 ag12 x157 (w64 (v21_12+(1:Int)))
def z112_l4 (N:Nat) (x1:T17 × Bool) (v6_12:(List Int)) (v21_12:Int) (ag12:(List Int)→Int→Option ((List Int) × Bool)):Nat→Int→Int→Option ((List Int) × Bool)
 | 0,_,_=>none
 | n14+1,v8_21,v31_21 =>
 bif (decide (v31_21 < (v6_12.length:Int))) then ((idx v6_12 v31_21).bind fun x166 =>
 (z200 N x1.1 (w64 (v31_21+(1:Int))) (w64 (v21_12+(1:Int)))).bind fun x167 =>
 (z112_l4 N x1 v6_12 v21_12 ag12 n14) (maxI v8_21 (w64 (x166-x167))) (w64 (v31_21+(1:Int))))
 else z112_k3 v6_12 v21_12 ag12 v8_21
def z112_l2 (N:Nat) (z_:T17) (x1:T17 × Bool):Nat→(List Int)→Int→Option ((List Int) × Bool)
 | 0,_,_=>none
 | n12+1,v6_12,v21_12 =>
 bif (decide (v21_12 < z_.N)) then ((z200 N x1.1 (0:Int) (w64 (v21_12+(1:Int)))).bind fun x148 =>
 z112_l4 N x1 v6_12 v21_12 (z112_l2 N z_ x1 n12) N (w64 (0-x148)) (0:Int))
 else z112_k1 v6_12
def z112 (N:Nat) (z_:T17):Option ((List Int) × Bool) :=
 (z199 N z_).bind fun x1 =>
 bif (!x1.2) then (some (([]:List Int),false))
 else z112_l2 N z_ x1 N ([]:List Int) (0:Int)
def repL (l:List UInt8):Nat→List UInt8
 | 0=>[]
 | n+1=>l++repL l n
def z113 (N:Nat) (s_:ByteArray) (count_:Int):Option ByteArray :=
 bif (decide (0≤count_) && decide (count_≤140737488355328)) && decide (s_.size * count_.toNat≤140737488355328) then some ⟨(repL s_.data.toList count_.toNat).toArray⟩ else none
def z115_k1 (vk3_3:(List T12)):Option (List T12) :=
 some vk3_3
def z115_k3 (ag176:(List T12)→(List Bool)→Bool→Option (List T12)) (vk3_291:(List T12)) (v4_291:(List Bool)) (v6_291:Bool):Option (List T12) :=
 ag176 vk3_291 v4_291 v6_291
def z115_k5 (v51_320:Int) (ag320:(List T12)→(List Bool)→Bool→Int→Option (List T12)) (vk3_339:(List T12)) (v4_339:(List Bool)) (v6_339:Bool):Option (List T12) :=
 ag320 vk3_339 v4_339 v6_339 (w64 (v51_320+(1:Int)))
def z115_k7 (vk3_344:(List T12)) (v4_344:(List Bool)) (v6_344:Bool) (v56_344:Int) (ag344:(List T12)→(List Bool)→Bool→Int→Option (List T12)) (x3518:Int) (v11_347:Int):Option (List T12) :=
 (idx v4_344 v11_347).bind fun x3519 =>
 bif x3519 then ((idx v4_344 x3518).bind fun x3520 =>
 bif (!x3520) then ((idx vk3_344 v11_347).bind fun x3521 =>
 (idx vk3_344 x3518).bind fun x3522 =>
 (idx v4_344 x3518).bind fun x3523 =>
 ag344 (setL' vk3_344 x3518 (⟨x3522.Kind,x3522.N,x3521.S⟩:T12)) (setL' v4_344 x3518 true) true (w64 (v56_344+(1:Int))))
 else ag344 vk3_344 v4_344 v6_344 (w64 (v56_344+(1:Int))))
 else ag344 vk3_344 v4_344 v6_344 (w64 (v56_344+(1:Int)))
def z115_l6 (v51_320:Int) (ag320:(List T12)→(List Bool)→Bool→Int→Option (List T12)) (x3471:(Int × Int)):Nat→(List T12)→(List Bool)→Bool→Int→Option (List T12)
 | 0,_,_,_,_=>none
 | n87+1,vk3_344,v4_344,v6_344,v56_344 =>
 bif (decide (v56_344 < (2:Int))) then ((idx ([x3471.1,x3471.2]:List Int) v56_344).bind fun x3518 =>
 bif ((w64 ((1:Int)-v56_344))==(0:Int)) then (z115_k7 vk3_344 v4_344 v6_344 v56_344 (z115_l6 v51_320 ag320 x3471 n87) x3518 x3471.1)
 else bif ((w64 ((1:Int)-v56_344))==(1:Int)) then (z115_k7 vk3_344 v4_344 v6_344 v56_344 (z115_l6 v51_320 ag320 x3471 n87) x3518 x3471.2)
 else none)
 else z115_k5 v51_320 ag320 vk3_344 v4_344 v6_344
def z115_l4 (N:Nat) (d_:T0) (ag176:(List T12)→(List Bool)→Bool→Option (List T12)):Nat→(List T12)→(List Bool)→Bool→Int→Option (List T12)
 | 0,_,_,_,_=>none
 | n85+1,vk3_320,v4_320,v6_320,v51_320 =>
 bif (decide (v51_320 < (d_.Guard.Equals.length:Int))) then ((idx d_.Guard.Equals v51_320).bind fun x3471 =>
 z115_l6 v51_320 (z115_l4 N d_ ag176 n85) x3471 N vk3_320 v4_320 v6_320 (0:Int))
 else z115_k3 ag176 vk3_320 v4_320 v6_320
def z115_l2 (N:Nat) (d_:T0):Nat→(List T12)→(List Bool)→Bool→Option (List T12)
 | 0,_,_,_=>none
 | n73+1,vk3_176,v4_176,v6_176 =>
 bif v6_176 then (z115_l4 N d_ (z115_l2 N d_ n73) N vk3_176 v4_176 false (0:Int))
 else z115_k1 vk3_176
def z115_k8 (N:Nat) (d_:T0) (l_:(List T12)) (v4_1:(List Bool)):Option (List T12) :=
 z115_l2 N d_ N l_ v4_1 true
def z115_l9 (N:Nat) (d_:T0) (l_:(List T12)):Nat→(List Bool)→Int→Option (List T12)
 | 0,_,_=>none
 | n88+1,v4_348,v17_348 =>
 bif (decide (v17_348 < (l_.length:Int))) then (bif (decide (v17_348 < d_.First)) then ((idx l_ v17_348).bind fun x3544 =>
 (idx v4_348 v17_348).bind fun x3545 =>
 (z115_l9 N d_ l_ n88) (setL' v4_348 v17_348 (x3544.Kind != (0:Int))) (w64 (v17_348+(1:Int))))
 else bif (decide (v17_348≥(w64 (d_.First+(d_.Fields.length:Int))))) then ((idx l_ v17_348).bind fun x3546 =>
 (idx v4_348 v17_348).bind fun x3547 =>
 (z115_l9 N d_ l_ n88) (setL' v4_348 v17_348 (x3546.Kind != (0:Int))) (w64 (v17_348+(1:Int))))
 else (idx v4_348 v17_348).bind fun x3548 =>
 (z115_l9 N d_ l_ n88) (setL' v4_348 v17_348 false) (w64 (v17_348+(1:Int))))
 else z115_k8 N d_ l_ v4_348
def z115 (N:Nat) (d_:T0) (l_:(List T12)):Option (List T12) :=
 (mkL false (l_.length:Int) (l_.length:Int)).bind fun x1 =>
 z115_l9 N d_ l_ N x1 (0:Int)
def z54_k1 (N:Nat) (known_:(List T12)) (x2:T0) (v20_36:(List T12)):Option ((List T12) × Bool) :=
 (z114 N x2 v20_36 known_).bind fun x271 =>
 (z115 N x2 x271).bind fun x272 =>
 (lsl x272 (some x2.First) (some (w64 (x2.First+(x2.Fields.length:Int))))).bind fun x273 =>
 (cpL v20_36 none none x273).bind fun x274 =>
 (z116 N x2.Guard x272).bind fun x275 =>
 bif (!x275) then (some (([]:List T12),false))
 else (z117 N x2.Fields x274.1).bind fun x276 =>
 bif (!x276) then (some (([]:List T12),false))
 else some (x274.1,true)
def z54_l2 (N:Nat) (known_:(List T12)) (x2:T0) (x245:(List Int) × Bool):Nat→(List T12)→Int→Option ((List T12) × Bool)
 | 0,_,_=>none
 | n9+1,v20_38,v131_38 =>
 bif (decide (v131_38 < (x2.Fields.length:Int))) then ((idx x2.Fields v131_38).bind fun x301 =>
 (idx x245.1 v131_38).bind fun x302 =>
 (idx v20_38 v131_38).bind fun x303 =>
 bif (x301.Sort'.Kind==(2:Int)) then ((idx x245.1 v131_38).bind fun x304 =>
 (z113 N (str [97]) x304).bind fun x305 =>
 (idx (setL' v20_38 v131_38 (⟨x301.Sort'.Kind,x302,(str [])⟩:T12)) v131_38).bind fun x306 =>
 (z54_l2 N known_ x2 x245 n9) (setL' (setL' v20_38 v131_38 (⟨x301.Sort'.Kind,x302,(str [])⟩:T12)) v131_38 (⟨(2:Int),(0:Int),x305⟩:T12)) (w64 (v131_38+(1:Int))))
 else (z54_l2 N known_ x2 x245 n9) (setL' v20_38 v131_38 (⟨x301.Sort'.Kind,x302,(str [])⟩:T12)) (w64 (v131_38+(1:Int))))
 else z54_k1 N known_ x2 v20_38
def z54_k3 (N:Nat) (known_:(List T12)) (x2:T0) (vb10_8_0_1:Int) (vb10_8_1_1:(List Int)):Option ((List T12) × Bool) :=
 (z112 N (⟨vb10_8_0_1,vb10_8_1_1⟩:T17)).bind fun x245 =>
 bif (!x245.2) then (some (([]:List T12),false))
 else (mkL (⟨(0:Int),(0:Int),(str [])⟩:T12) (x2.Fields.length:Int) (x2.Fields.length:Int)).bind fun x246 =>
 z54_l2 N known_ x2 x245 N x246 (0:Int)
def z54_k5 (N:Nat) (vb10_8_0_39:Int) (vb10_8_1_39:(List Int)) (v44_39:Int) (ag39:Int→(List Int)→Int→Option ((List T12) × Bool)) (v14_62:Int) (vb15_13_0_62:Int) (vb15_13_1_62:Int):Option ((List T12) × Bool) :=
 (z111 N (⟨vb10_8_0_39,vb10_8_1_39⟩:T17) (⟨vb15_13_0_62,vb15_13_1_62,v14_62⟩:T1)).bind fun x583 =>
 ag39 x583.1.N x583.1.B (w64 (v44_39+(1:Int)))
def z54_k7 (N:Nat) (known_:(List T12)) (x2:T0) (v14_68:Int) (vb15_13_0_68:Int) (vb15_13_1_68:Int) (v56_68:Int) (ag68:Int→Int→Int→Int→Option ((List T12) × Bool)) (x613:Int) (v70_72:Bool):Option ((List T12) × Bool) :=
 bif v70_72 then (bif (v56_68==(0:Int)) then (ag68 v14_68 (w64 (x613-x2.First)) vb15_13_1_68 (w64 (v56_68+(1:Int))))
 else bif (v56_68==(1:Int)) then (ag68 v14_68 vb15_13_0_68 (w64 (x613-x2.First)) (w64 (v56_68+(1:Int))))
 else none)
 else (idx known_ x613).bind fun x614 =>
 bif (x614.Kind==(0:Int)) then (some (([]:List T12),false))
 else bif (v56_68==(0:Int)) then ((idx known_ x613).bind fun x615 =>
 (z110 N x615).bind fun x616 =>
 ag68 (w64 (v14_68-x616)) vb15_13_0_68 vb15_13_1_68 (w64 (v56_68+(1:Int))))
 else (idx known_ x613).bind fun x617 =>
 (z110 N x617).bind fun x618 =>
 ag68 (w64 (v14_68+x618)) vb15_13_0_68 vb15_13_1_68 (w64 (v56_68+(1:Int)))
def z54_l6 (N:Nat) (known_:(List T12)) (x2:T0) (vb10_8_0_39:Int) (vb10_8_1_39:(List Int)) (v44_39:Int) (ag39:Int→(List Int)→Int→Option ((List T12) × Bool)) (x553:T1):Nat→Int→Int→Int→Int→Option ((List T12) × Bool)
 | 0,_,_,_,_=>none
 | n16+1,v14_68,vb15_13_0_68,vb15_13_1_68,v56_68 =>
 bif (decide (v56_68 < (2:Int))) then ((idx ([x553.X,x553.Y]:List Int) v56_68).bind fun x613 =>
 bif (decide (x613 < (0:Int))) then ((z54_l6 N known_ x2 vb10_8_0_39 vb10_8_1_39 v44_39 ag39 x553 n16) v14_68 vb15_13_0_68 vb15_13_1_68 (w64 (v56_68+(1:Int))))
 else bif (decide (x613≥x2.First)) then (z54_k7 N known_ x2 v14_68 vb15_13_0_68 vb15_13_1_68 v56_68 (z54_l6 N known_ x2 vb10_8_0_39 vb10_8_1_39 v44_39 ag39 x553 n16) x613 (decide (x613 < (w64 (x2.First+(x2.Fields.length:Int))))))
 else z54_k7 N known_ x2 v14_68 vb15_13_0_68 vb15_13_1_68 v56_68 (z54_l6 N known_ x2 vb10_8_0_39 vb10_8_1_39 v44_39 ag39 x553 n16) x613 false)
 else z54_k5 N vb10_8_0_39 vb10_8_1_39 v44_39 ag39 v14_68 vb15_13_0_68 vb15_13_1_68
def z54_l4 (N:Nat) (known_:(List T12)) (x2:T0) (x4:(List T1)):Nat→Int→(List Int)→Int→Option ((List T12) × Bool)
 | 0,_,_,_=>none
 | n14+1,vb10_8_0_39,vb10_8_1_39,v44_39 =>
 bif (decide (v44_39 < (x4.length:Int))) then ((idx x4 v44_39).bind fun x553 =>
 z54_l6 N known_ x2 vb10_8_0_39 vb10_8_1_39 v44_39 (z54_l4 N known_ x2 x4 n14) x553 N x553.C (-1:Int) (-1:Int) (0:Int))
 else z54_k3 N known_ x2 vb10_8_0_39 vb10_8_1_39
def z54 (N:Nat) (decls_:(List T0)) (label_:Int) (known_:(List T12)):Option ((List T12) × Bool) :=
 (z108 N decls_ label_ known_).bind fun x1 =>
 bif (!x1) then (some (([]:List T12),false))
 else (idx decls_ label_).bind fun x2 =>
 (z109 N (x2.Fields.length:Int)).bind fun x3 =>
 (z72 N x2).bind fun x4 =>
 z54_l4 N known_ x2 x4 N x3.1.N x3.1.B (0:Int)
def z20_k1 (v7_1:(List T3)):Option (List T3) :=
 some v7_1
def z20_k3 (m_:T8) (v7_6:(List T3)) (v23_6:Int) (ag6:(List T3)→Int→Option (List T3)) (x68:T9) (v11_9:(List T12)) (v12_9:Bool):Option (List T3) :=
 bif v12_9 then ((appL v7_6 ([(⟨m_.Role,x68.Send,x68.Peer,x68.Label,v11_9⟩:T3)]:List T3)).bind fun x72 =>
 ag6 x72 (w64 (v23_6+(1:Int))))
 else ag6 v7_6 (w64 (v23_6+(1:Int)))
def z20_l2 (N:Nat) (g_:T5) (m_:T8) (s_:T16) (x2:(List Int)):Nat→(List T3)→Int→Option (List T3)
 | 0,_,_=>none
 | n2+1,v7_6,v23_6 =>
 bif (decide (v23_6 < (x2.length:Int))) then ((idx x2 v23_6).bind fun x67 =>
 (idx m_.Moves x67).bind fun x68 =>
 (z54 N g_.Decls x68.Label s_.Known).bind fun x69 =>
 bif x68.Again then ((z55 N s_.Pending).bind fun x73 =>
 (z56 N g_.Decls x68.Label s_.Pending s_.Known).bind fun x74 =>
 z20_k3 m_ v7_6 v23_6 (z20_l2 N g_ m_ s_ x2 n2) x68 x73 x74)
 else z20_k3 m_ v7_6 v23_6 (z20_l2 N g_ m_ s_ x2 n2) x68 x69.1 x69.2)
 else z20_k1 v7_6
def z20 (N:Nat) (g_:T5) (m_:T8) (s_:T16):Option (List T3) :=
 (z46 N g_ m_ s_).bind fun x1 =>
 bif (!x1) then (some ([]:List T3))
 else (z53 N m_ s_.At).bind fun x2 =>
 z20_l2 N g_ m_ s_ x2 N ([]:List T3) (0:Int)
def z12_k1:Option Bool :=
 some true
def z12_l2 (a_:(List ByteArray)) (b_:(List ByteArray)):Nat→Int→Option Bool
 | 0,_=>none
 | n2+1,v5_3 =>
 bif (decide (v5_3 < (a_.length:Int))) then ((idx a_ v5_3).bind fun x17 =>
 (idx b_ v5_3).bind fun x18 =>
 bif (!(x17.toList==x18.toList)) then (some false)
 else (z12_l2 a_ b_ n2) (w64 (v5_3+(1:Int))))
 else z12_k1
def z12 (N:Nat) (a_:(List ByteArray)) (b_:(List ByteArray)):Option Bool :=
 bif ((a_.length:Int) != (b_.length:Int)) then (some false)
 else z12_l2 a_ b_ N (0:Int)
def z26 (N:Nat) (n_:Int):Option T12 :=
 some (⟨(1:Int),n_,(str [])⟩:T12)
def z25_k1:Option Bool :=
 some true
def z25_l2 (a_:(List T12)) (b_:(List T12)):Nat→Int→Option Bool
 | 0,_=>none
 | n2+1,v5_3 =>
 bif (decide (v5_3 < (a_.length:Int))) then ((idx a_ v5_3).bind fun x17 =>
 (idx b_ v5_3).bind fun x18 =>
 bif (!((x17.Kind==x18.Kind) && ((x17.N==x18.N) && ((x17.S.toList==x18.S.toList) && true)))) then (some false)
 else (z25_l2 a_ b_ n2) (w64 (v5_3+(1:Int))))
 else z25_k1
def z25 (N:Nat) (a_:(List T12)) (b_:(List T12)):Option Bool :=
 bif ((a_.length:Int) != (b_.length:Int)) then (some false)
 else z25_l2 a_ b_ N (0:Int)
def z8 (N:Nat):Option Bool :=
 (z10 N (⟨(str [80]),([(str [97]),(str [98])]:List ByteArray),([(⟨(str [97,115,107]),([(⟨(str [110]),(⟨(1:Int),(0:Int),(9:Int)⟩:T10)⟩:T4)]:List T4),(0:Int),(⟨([]:List T1),([]:List (Int × Int))⟩:T6)⟩:T0)]:List T0),(2:Int),(0:Int),(1:Int),([(⟨(0:Int),(⟨(0:Int),(1:Int),(0:Int)⟩:T7),(1:Int),false⟩:T2)]:List T2),([]:List T11)⟩:T5) (⟨(0:Int),(2:Int),(0:Int),([false,true]:List Bool),([(⟨(0:Int),true,(1:Int),(0:Int),(1:Int),false⟩:T9)]:List T9),([]:List T11)⟩:T8) (0:Int)).bind fun x1 =>
 (z15 N (⟨(str [80]),([(str [97]),(str [98])]:List ByteArray),([(⟨(str [97,115,107]),([(⟨(str [110]),(⟨(1:Int),(0:Int),(9:Int)⟩:T10)⟩:T4)]:List T4),(0:Int),(⟨([]:List T1),([]:List (Int × Int))⟩:T6)⟩:T0)]:List T0),(2:Int),(0:Int),(1:Int),([(⟨(0:Int),(⟨(0:Int),(1:Int),(0:Int)⟩:T7),(1:Int),false⟩:T2)]:List T2),([]:List T11)⟩:T5) (⟨(0:Int),(2:Int),(0:Int),([false,true]:List Bool),([(⟨(0:Int),true,(1:Int),(0:Int),(1:Int),false⟩:T9)]:List T9),([]:List T11)⟩:T8) ([]:List T3) (⟨(0:Int),true,(1:Int),(0:Int),([]:List T12)⟩:T3)).bind fun x2 =>
 (z24 N (⟨(str [80]),([(str [97]),(str [98])]:List ByteArray),([(⟨(str [97,115,107]),([(⟨(str [110]),(⟨(1:Int),(0:Int),(9:Int)⟩:T10)⟩:T4)]:List T4),(0:Int),(⟨([]:List T1),([]:List (Int × Int))⟩:T6)⟩:T0)]:List T0),(2:Int),(0:Int),(1:Int),([(⟨(0:Int),(⟨(0:Int),(1:Int),(0:Int)⟩:T7),(1:Int),false⟩:T2)]:List T2),([]:List T11)⟩:T5) (⟨(0:Int),(2:Int),(0:Int),([false,true]:List Bool),([(⟨(0:Int),true,(1:Int),(0:Int),(1:Int),false⟩:T9)]:List T9),([]:List T11)⟩:T8)).bind fun x3 =>
 (z20 N (⟨(str [80]),([(str [97]),(str [98])]:List ByteArray),([(⟨(str [97,115,107]),([(⟨(str [110]),(⟨(1:Int),(0:Int),(9:Int)⟩:T10)⟩:T4)]:List T4),(0:Int),(⟨([]:List T1),([]:List (Int × Int))⟩:T6)⟩:T0)]:List T0),(2:Int),(0:Int),(1:Int),([(⟨(0:Int),(⟨(0:Int),(1:Int),(0:Int)⟩:T7),(1:Int),false⟩:T2)]:List T2),([]:List T11)⟩:T5) (⟨(0:Int),(2:Int),(0:Int),([false,true]:List Bool),([(⟨(0:Int),true,(1:Int),(0:Int),(1:Int),false⟩:T9)]:List T9),([]:List T11)⟩:T8) x3).bind fun x4 =>
 bif (x1.2==(0:Int)) then (bif (x2.2==(0:Int)) then ((z12 N x1.1 ([(str [115,101,110,100,32,97,115,107,40,110,58,32,105,110,116,32,48,32,46,46,32,57,41,32,116,111,32,98])]:List ByteArray)).bind fun x5 =>
 bif x5 then (bif (x2.1.toList==(str [97,32,115,101,110,100,115,32,97,115,107,40,41,32,116,111,32,98,32,104,97,115,32,48,32,118,97,108,117,101,115,32,105,110,115,116,101,97,100,32,111,102,32,49,59,32,112,101,114,109,105,116,116,101,100,58,32,115,101,110,100,32,97,115,107,40,110,58,32,105,110,116,32,48,32,46,46,32,57,41,32,116,111,32,98]).toList) then (bif ((x4.length:Int)==(1:Int)) then ((idx x4 (0:Int)).bind fun x6 =>
 (z26 N (0:Int)).bind fun x7 =>
 (z25 N x6.Values ([x7]:List T12)).bind fun x8 =>
 some x8)
 else some false)
 else some false)
 else some false)
 else some false)
 else some false
def z62_k1 (l_:(List T0)) (v3_1:Int):Option Bool :=
 bif (decide ((l_.length:Int)≤(60:Int))) then (some (decide (v3_1≤(100:Int))))
 else some false
def z62_l2 (l_:(List T0)):Nat→Int→Int→Option Bool
 | 0,_,_=>none
 | n2+1,v3_3,v4_3 =>
 bif (decide (v4_3 < (l_.length:Int))) then ((idx l_ v4_3).bind fun x25 =>
 (idx l_ v4_3).bind fun x26 =>
 (idx l_ v4_3).bind fun x27 =>
 (z62_l2 l_ n2) (w64 (v3_3+(w64 ((w64 ((x25.Fields.length:Int)+(x26.Guard.Diffs.length:Int)))+(x27.Guard.Equals.length:Int))))) (w64 (v4_3+(1:Int))))
 else z62_k1 l_ v3_3
def z62 (N:Nat) (l_:(List T0)):Option Bool :=
 z62_l2 l_ N (0:Int) (0:Int)
def z27 (N:Nat) (g_:T5):Option Bool :=
 bif (decide (g_.States≤(40:Int))) then (bif (decide ((g_.Edges.length:Int)≤(80:Int))) then (bif (decide ((g_.Timeouts.length:Int)≤(40:Int))) then (bif (decide ((g_.Roles.length:Int)≤(10:Int))) then ((z62 N g_.Decls).bind fun x1 =>
 some x1)
 else some false)
 else some false)
 else some false)
 else some false
def z28 (N:Nat) (m_:T8):Option Bool :=
 bif (decide (m_.States≤(40:Int))) then (bif (decide ((m_.Finals.length:Int)≤(45:Int))) then (bif (decide ((m_.Moves.length:Int)≤(80:Int))) then (some (decide ((m_.Timeouts.length:Int)≤(45:Int))))
 else some false)
 else some false)
 else some false
def z63_k1 (l_:(List T12)):Option Bool :=
 some (decide ((l_.length:Int)≤(40:Int)))
def z63_l2 (l_:(List T12)):Nat→Int→Option Bool
 | 0,_=>none
 | n2+1,v3_3 =>
 bif (decide (v3_3 < (l_.length:Int))) then ((idx l_ v3_3).bind fun x9 =>
 bif (decide ((x9.S.size:Int) > (100:Int))) then (some false)
 else (z63_l2 l_ n2) (w64 (v3_3+(1:Int))))
 else z63_k1 l_
def z63 (N:Nat) (l_:(List T12)):Option Bool :=
 z63_l2 l_ N (0:Int)
def z29_k1 (l_:(List T3)):Option Bool :=
 some (decide ((l_.length:Int)≤(30:Int)))
def z29_l2 (N:Nat) (l_:(List T3)):Nat→Int→Option Bool
 | 0,_=>none
 | n2+1,v3_3 =>
 bif (decide (v3_3 < (l_.length:Int))) then ((idx l_ v3_3).bind fun x17 =>
 (z63 N x17.Values).bind fun x18 =>
 bif (!x18) then (some false)
 else (z29_l2 N l_ n2) (w64 (v3_3+(1:Int))))
 else z29_k1 l_
def z29 (N:Nat) (l_:(List T3)):Option Bool :=
 z29_l2 N l_ N (0:Int)
def z9 (N:Nat) (g_:T5) (m_:T8) (l_:(List T3)):Option Bool :=
 (z27 N g_).bind fun x1 =>
 bif x1 then ((z28 N m_).bind fun x2 =>
 bif x2 then ((z29 N l_).bind fun x3 =>
 some x3)
 else some false)
 else some false
def z225 (N:Nat) (c_:Int):Option Bool :=
 bif (decide (c_≥(97:Int))) then (bif (decide (c_≤(122:Int))) then (some true)
 else bif (decide (c_≥(65:Int))) then (some (decide (c_≤(90:Int))))
 else some false)
 else bif (decide (c_≥(65:Int))) then (some (decide (c_≤(90:Int))))
 else some false
def z265 (N:Nat) (c_:Int):Option Bool :=
 bif (decide (c_≥(48:Int))) then (some (decide (c_≤(57:Int))))
 else some false
def z226 (N:Nat) (c_:Int):Option Bool :=
 (z225 N c_).bind fun x1 =>
 bif x1 then (some true)
 else (z265 N c_).bind fun x2 =>
 bif x2 then (some true)
 else some (c_==(95:Int))
def z155_k1:Option Bool :=
 some true
def z155_l2 (N:Nat) (s_:ByteArray):Nat→Int→Option Bool
 | 0,_=>none
 | n2+1,v3_3 =>
 bif (decide (v3_3 < (s_.size:Int))) then ((sidx s_ v3_3).bind fun x19 =>
 (z226 N x19).bind fun x20 =>
 bif (!x20) then (some false)
 else (z155_l2 N s_ n2) (w64 (v3_3+(1:Int))))
 else z155_k1
def z155 (N:Nat) (s_:ByteArray):Option Bool :=
 bif (s_.toList==(str []).toList) then (some false)
 else (sidx s_ (0:Int)).bind fun x1 =>
 (z225 N x1).bind fun x2 =>
 bif (!x2) then (some false)
 else bif (decide ((s_.size:Int) > (16:Int))) then (some false)
 else z155_l2 N s_ N (0:Int)
def z157 (N:Nat):Option (List ByteArray) :=
 some ([(str [97,103,97,105,110]),(str [97,110,100]),(str [97,115]),(str [97,116]),(str [99,97,108,108]),(str [99,104,111,105,99,101]),(str [101,108,115,101]),(str [102,114,111,109]),(str [105,102]),(str [105,110,116]),(str [108,101,110]),(str [108,111,111,112]),(str [109,101,115,115,97,103,101]),(str [111,102]),(str [111,102,102,101,114]),(str [111,110]),(str [111,114]),(str [112,97,114]),(str [112,108,97,121,115]),(str [112,114,111,116,111,99,111,108]),(str [115,101,114,118,105,99,101]),(str [116,101,120,116]),(str [116,105,109,101,115]),(str [116,111]),(str [118,97,114]),(str [119,104,101,114,101]),(str [119,104,105,108,101]),(str [119,105,116,104,105,110])]:List ByteArray)
def z156_k1:Option Bool :=
 some false
def z156_l2 (l_:(List ByteArray)) (s_:ByteArray):Nat→Int→Option Bool
 | 0,_=>none
 | n2+1,v5_3 =>
 bif (decide (v5_3 < (l_.length:Int))) then ((idx l_ v5_3).bind fun x9 =>
 bif (x9.toList==s_.toList) then (some true)
 else (z156_l2 l_ s_ n2) (w64 (v5_3+(1:Int))))
 else z156_k1
def z156 (N:Nat) (l_:(List ByteArray)) (s_:ByteArray):Option Bool :=
 z156_l2 l_ s_ N (0:Int)
def z80 (N:Nat) (s_:ByteArray):Option Bool :=
 (z155 N s_).bind fun x1 =>
 bif x1 then ((z157 N).bind fun x2 =>
 (z156 N x2 s_).bind fun x3 =>
 some (!x3))
 else some false
def z235_k1:Option Int :=
 some (-1:Int)
def z235_l2 (l_:(List ByteArray)) (s_:ByteArray):Nat→Int→Option Int
 | 0,_=>none
 | n2+1,v5_3 =>
 bif (decide (v5_3 < (l_.length:Int))) then ((idx l_ v5_3).bind fun x9 =>
 bif (x9.toList==s_.toList) then (some v5_3)
 else (z235_l2 l_ s_ n2) (w64 (v5_3+(1:Int))))
 else z235_k1
def z235 (N:Nat) (l_:(List ByteArray)) (s_:ByteArray):Option Int :=
 z235_l2 l_ s_ N (0:Int)
def z78_k1 (v3_1:Int):Option Int :=
 some v3_1
def z78_l2 (decls_:(List T0)):Nat→Int→Int→Option Int
 | 0,_,_=>none
 | n2+1,v3_3,v4_3 =>
 bif (decide (v4_3 < (decls_.length:Int))) then ((idx decls_ v4_3).bind fun x9 =>
 (z78_l2 decls_ n2) (w64 (v3_3+(x9.Fields.length:Int))) (w64 (v4_3+(1:Int))))
 else z78_k1 v3_3
def z78 (N:Nat) (decls_:(List T0)):Option Int :=
 z78_l2 decls_ N (0:Int) (0:Int)
def z79_k1 (s_:T10) (v3_1:Int) (v4_1:Int):Option Bool :=
 bif (s_.Kind==(1:Int)) then (bif (decide (s_.Lo≥v3_1)) then (bif (decide (s_.Hi≤v4_1)) then (some (decide (s_.Lo≤s_.Hi)))
 else some false)
 else some false)
 else bif (s_.Kind==(2:Int)) then (bif (decide (s_.Lo≥v3_1)) then (bif (decide (s_.Hi≤v4_1)) then (some (decide (s_.Lo≤s_.Hi)))
 else some false)
 else some false)
 else some false
def z79 (N:Nat) (s_:T10):Option Bool :=
 bif (s_.Kind==(2:Int)) then (z79_k1 s_ (0:Int) (40:Int))
 else z79_k1 s_ (-1000:Int) (1000:Int)
def z158 (N:Nat) (s_:ByteArray):Option Bool :=
 (z80 N s_).bind fun x1 =>
 some x1
def z81_k1 (s_:ByteArray):Option Bool :=
 some (decide ((s_.size:Int)≤(50:Int)))
def z81_k3 (N:Nat) (s_:ByteArray) (v3_6:Int) (v4_6:Int) (ag6:Int→Int→Option Bool) (v20_9:Bool):Option Bool :=
 bif v20_9 then ((ssl s_ (some v3_6) (some v4_6)).bind fun x34 =>
 (z158 N x34).bind fun x35 =>
 bif (!x35) then (some false)
 else ag6 (w64 (v4_6+(1:Int))) (w64 (v4_6+(1:Int))))
 else ag6 v3_6 (w64 (v4_6+(1:Int)))
def z81_l2 (N:Nat) (s_:ByteArray):Nat→Int→Int→Option Bool
 | 0,_,_=>none
 | n2+1,v3_6,v4_6 =>
 bif (decide (v4_6≤(s_.size:Int))) then (bif (v4_6==(s_.size:Int)) then (z81_k3 N s_ v3_6 v4_6 (z81_l2 N s_ n2) true)
 else (sidx s_ v4_6).bind fun x36 =>
 z81_k3 N s_ v3_6 v4_6 (z81_l2 N s_ n2) (x36==(46:Int)))
 else z81_k1 s_
def z81 (N:Nat) (s_:ByteArray):Option Bool :=
 z81_l2 N s_ N (0:Int) (0:Int)
def z140_k1:Option T4 :=
 some (⟨(str []),(⟨(0:Int),(0:Int),(0:Int)⟩:T10)⟩:T4)
def z140_l2 (decls_:(List T0)):Nat→Int→Int→Option T4
 | 0,_,_=>none
 | n2+1,v1_3,v5_3 =>
 bif (decide (v5_3 < (decls_.length:Int))) then ((idx decls_ v5_3).bind fun x33 =>
 bif (decide (v1_3 < (x33.Fields.length:Int))) then ((idx decls_ v5_3).bind fun x34 =>
 (idx x34.Fields v1_3).bind fun x35 =>
 some x35)
 else (idx decls_ v5_3).bind fun x36 =>
 (z140_l2 decls_ n2) (w64 (v1_3-(x36.Fields.length:Int))) (w64 (v5_3+(1:Int))))
 else z140_k1
def z140 (N:Nat) (decls_:(List T0)) (x_:Int):Option T4 :=
 z140_l2 decls_ N x_ (0:Int)
def z159 (N:Nat) (decls_:(List T0)) (x_:Int):Option Bool :=
 bif (decide (x_≥(0:Int))) then ((z78 N decls_).bind fun x1 =>
 bif (decide (x_ < x1)) then ((z140 N decls_ x_).bind fun x2 =>
 some (x2.Sort'.Kind==(2:Int)))
 else some false)
 else some false
def z82_k1 (g_:T6):Option Bool :=
 bif (decide ((g_.Diffs.length:Int)≤(20:Int))) then (some (decide ((g_.Equals.length:Int)≤(20:Int))))
 else some false
def z82_l2 (N:Nat) (decls_:(List T0)) (g_:T6):Nat→Int→Option Bool
 | 0,_=>none
 | n3+1,v8_5 =>
 bif (decide (v8_5 < (g_.Equals.length:Int))) then ((idx g_.Equals v8_5).bind fun x38 =>
 (z159 N decls_ x38.1).bind fun x39 =>
 bif (!x39) then (some false)
 else (idx g_.Equals v8_5).bind fun x40 =>
 (z159 N decls_ x40.2).bind fun x41 =>
 bif (!x41) then (some false)
 else (z82_l2 N decls_ g_ n3) (w64 (v8_5+(1:Int))))
 else z82_k1 g_
def z82_k3 (N:Nat) (decls_:(List T0)) (g_:T6):Option Bool :=
 z82_l2 N decls_ g_ N (0:Int)
def z82_l4 (N:Nat) (decls_:(List T0)) (g_:T6) (x1:Int):Nat→Int→Option Bool
 | 0,_=>none
 | n4+1,v6_6 =>
 bif (decide (v6_6 < (g_.Diffs.length:Int))) then ((idx g_.Diffs v6_6).bind fun x46 =>
 bif (decide (x46.X < (-1:Int))) then (some false)
 else bif (decide (x46.X≥x1)) then (some false)
 else bif (decide (x46.Y < (-1:Int))) then (some false)
 else bif (decide (x46.Y≥x1)) then (some false)
 else bif (decide (x46.C < (-20000:Int))) then (some false)
 else bif (decide (x46.C > (20000:Int))) then (some false)
 else (z82_l4 N decls_ g_ x1 n4) (w64 (v6_6+(1:Int))))
 else z82_k3 N decls_ g_
def z82 (N:Nat) (decls_:(List T0)) (g_:T6):Option Bool :=
 (z78 N decls_).bind fun x1 =>
 z82_l4 N decls_ g_ x1 N (0:Int)
def z41_k1:Option Bool :=
 some true
def z41_k3 (N:Nat) (decls_:(List T0)) (v3_75:Int) (v4_75:Int) (ag75:Int→Int→Option Bool) (x1395:T0):Option Bool :=
 (z81 N x1395.Name).bind fun x1480 =>
 bif (!x1480) then (some false)
 else bif (decide ((x1395.Fields.length:Int) > (4:Int))) then (some false)
 else bif (x1395.First != v3_75) then (some false)
 else (z82 N decls_ x1395.Guard).bind fun x1481 =>
 bif (!x1481) then (some false)
 else ag75 (w64 (v3_75+(x1395.Fields.length:Int))) (w64 (v4_75+(1:Int)))
def z41_k5 (v7_137:Int) (ag137:Int→Option Bool):Option Bool :=
 ag137 (w64 (v7_137+(1:Int)))
def z41_l6 (x1395:T0) (v7_137:Int) (ag137:Int→Option Bool):Nat→Int→Option Bool
 | 0,_=>none
 | n97+1,v8_146 =>
 bif (decide (v8_146 < v7_137)) then ((idx x1395.Fields v8_146).bind fun x1584 =>
 (idx x1395.Fields v7_137).bind fun x1585 =>
 bif (x1584.Name.toList==x1585.Name.toList) then (some false)
 else (z41_l6 x1395 v7_137 ag137 n97) (w64 (v8_146+(1:Int))))
 else z41_k5 v7_137 ag137
def z41_l4 (N:Nat) (decls_:(List T0)) (v3_75:Int) (v4_75:Int) (ag75:Int→Int→Option Bool) (x1395:T0):Nat→Int→Option Bool
 | 0,_=>none
 | n95+1,v7_137 =>
 bif (decide (v7_137 < (x1395.Fields.length:Int))) then ((idx x1395.Fields v7_137).bind fun x1564 =>
 (z79 N x1564.Sort').bind fun x1565 =>
 bif (!x1565) then (some false)
 else (idx x1395.Fields v7_137).bind fun x1566 =>
 (z80 N x1566.Name).bind fun x1567 =>
 bif (!x1567) then (some false)
 else z41_l6 x1395 v7_137 (z41_l4 N decls_ v3_75 v4_75 ag75 x1395 n95) N (0:Int))
 else z41_k3 N decls_ v3_75 v4_75 ag75 x1395
def z41_k7 (N:Nat) (decls_:(List T0)) (v3_75:Int) (v4_75:Int) (ag75:Int→Int→Option Bool) (x1395:T0):Option Bool :=
 z41_l4 N decls_ v3_75 v4_75 ag75 x1395 N (0:Int)
def z41_l8 (N:Nat) (decls_:(List T0)) (v3_75:Int) (v4_75:Int) (ag75:Int→Int→Option Bool) (x1395:T0):Nat→Int→Option Bool
 | 0,_=>none
 | n98+1,v6_147 =>
 bif (decide (v6_147 < v4_75)) then ((idx decls_ v6_147).bind fun x1590 =>
 bif (x1590.Name.toList==x1395.Name.toList) then (some false)
 else (z41_l8 N decls_ v3_75 v4_75 ag75 x1395 n98) (w64 (v6_147+(1:Int))))
 else z41_k7 N decls_ v3_75 v4_75 ag75 x1395
def z41_l2 (N:Nat) (decls_:(List T0)):Nat→Int→Int→Option Bool
 | 0,_,_=>none
 | n82+1,v3_75,v4_75 =>
 bif (decide (v4_75 < (decls_.length:Int))) then ((idx decls_ v4_75).bind fun x1395 =>
 z41_l8 N decls_ v3_75 v4_75 (z41_l2 N decls_ n82) x1395 N (0:Int))
 else z41_k1
def z41 (N:Nat) (decls_:(List T0)):Option Bool :=
 bif (decide ((decls_.length:Int) > (40:Int))) then (some false)
 else (z78 N decls_).bind fun x1 =>
 bif (decide (x1 > (24:Int))) then (some false)
 else z41_l2 N decls_ N (0:Int) (0:Int)
def z178_k1 (N:Nat) (g_:T5):Option Bool :=
 (z80 N g_.Name).bind fun x17 =>
 bif x17 then (bif (decide ((g_.Roles.length:Int)≥(1:Int))) then (bif (decide ((g_.Roles.length:Int)≤(6:Int))) then ((z41 N g_.Decls).bind fun x18 =>
 some x18)
 else some false)
 else some false)
 else some false
def z178_l2 (N:Nat) (g_:T5):Nat→Int→Option Bool
 | 0,_=>none
 | n2+1,v3_3 =>
 bif (decide (v3_3 < (g_.Roles.length:Int))) then ((idx g_.Roles v3_3).bind fun x35 =>
 (z80 N x35).bind fun x36 =>
 bif (!x36) then (some false)
 else (idx g_.Roles v3_3).bind fun x37 =>
 (z235 N g_.Roles x37).bind fun x38 =>
 bif (decide (x38 < v3_3)) then (some false)
 else (z178_l2 N g_ n2) (w64 (v3_3+(1:Int))))
 else z178_k1 N g_
def z178 (N:Nat) (g_:T5):Option Bool :=
 z178_l2 N g_ N (0:Int)
def z236 (N:Nat) (g_:T5) (s_:Int):Option Bool :=
 bif (decide (s_≥(0:Int))) then (some (decide (s_ < g_.States)))
 else some false
def z179_k1 (N:Nat) (g_:T5):Option Bool :=
 bif (decide (g_.States≥(1:Int))) then (bif (decide (g_.States≤(200:Int))) then ((z236 N g_ g_.Start).bind fun x13 =>
 bif x13 then ((z236 N g_ g_.End).bind fun x14 =>
 bif x14 then (some (decide ((g_.Edges.length:Int)≤(400:Int))))
 else some false)
 else some false)
 else some false)
 else some false
def z179_l2 (N:Nat) (g_:T5):Nat→Int→Option Bool
 | 0,_=>none
 | n2+1,v3_3 =>
 bif (decide (v3_3 < (g_.Edges.length:Int))) then ((idx g_.Edges v3_3).bind fun x27 =>
 (z236 N g_ x27.From).bind fun x28 =>
 bif (!x28) then (some false)
 else (z236 N g_ x27.To).bind fun x29 =>
 bif (!x29) then (some false)
 else bif (decide (x27.Act.From < (0:Int))) then (some false)
 else bif (decide (x27.Act.From≥(g_.Roles.length:Int))) then (some false)
 else bif (decide (x27.Act.To < (0:Int))) then (some false)
 else bif (decide (x27.Act.To≥(g_.Roles.length:Int))) then (some false)
 else bif (x27.Act.From==x27.Act.To) then (some false)
 else bif (decide (x27.Act.Label < (0:Int))) then (some false)
 else bif (decide (x27.Act.Label≥(g_.Decls.length:Int))) then (some false)
 else (z179_l2 N g_ n2) (w64 (v3_3+(1:Int))))
 else z179_k1 N g_
def z179 (N:Nat) (g_:T5):Option Bool :=
 z179_l2 N g_ N (0:Int)
def z180_k1:Option Bool :=
 some true
def z180_k3 (v3_33:Int) (ag33:Int→Option Bool):Option Bool :=
 ag33 (w64 (v3_33+(1:Int)))
def z180_k5 (x74:T2) (v5_60:Int) (ag60:Int→Option Bool) (x83:T2) (v69_63:Bool):Option Bool :=
 bif v69_63 then (some false)
 else bif x74.Again then (bif (x83.To==x74.From) then (bif (x83.Act.From != x74.Act.From) then (some false)
 else bif (x83.Act.Label != x74.Act.Label) then (some false)
 else ag60 (w64 (v5_60+(1:Int))))
 else ag60 (w64 (v5_60+(1:Int))))
 else ag60 (w64 (v5_60+(1:Int)))
def z180_l4 (g_:T5) (v3_33:Int) (ag33:Int→Option Bool) (x74:T2):Nat→Int→Option Bool
 | 0,_=>none
 | n14+1,v5_60 =>
 bif (decide (v5_60 < (g_.Edges.length:Int))) then ((idx g_.Edges v5_60).bind fun x83 =>
 bif (v5_60 != v3_33) then (bif (x74.From==x83.From) then (bif ((x74.Act.From==x83.Act.From) && ((x74.Act.To==x83.Act.To) && ((x74.Act.Label==x83.Act.Label) && true))) then (z180_k5 x74 v5_60 (z180_l4 g_ v3_33 ag33 x74 n14) x83 true)
 else bif (x74.Act.From != x83.Act.From) then (z180_k5 x74 v5_60 (z180_l4 g_ v3_33 ag33 x74 n14) x83 true)
 else z180_k5 x74 v5_60 (z180_l4 g_ v3_33 ag33 x74 n14) x83 x74.Again)
 else z180_k5 x74 v5_60 (z180_l4 g_ v3_33 ag33 x74 n14) x83 false)
 else z180_k5 x74 v5_60 (z180_l4 g_ v3_33 ag33 x74 n14) x83 false)
 else z180_k3 v3_33 ag33
def z180_k6 (N:Nat) (g_:T5) (v3_33:Int) (ag33:Int→Option Bool) (x74:T2) (v27_54:Bool):Option Bool :=
 bif v27_54 then (some false)
 else z180_l4 g_ v3_33 ag33 x74 N (0:Int)
def z180_l2 (N:Nat) (g_:T5):Nat→Int→Option Bool
 | 0,_=>none
 | n12+1,v3_33 =>
 bif (decide (v3_33 < (g_.Edges.length:Int))) then ((idx g_.Edges v3_33).bind fun x74 =>
 bif x74.Again then (z180_k6 N g_ v3_33 (z180_l2 N g_ n12) x74 (x74.From==g_.Start))
 else z180_k6 N g_ v3_33 (z180_l2 N g_ n12) x74 false)
 else z180_k1
def z180 (N:Nat) (g_:T5):Option Bool :=
 z180_l2 N g_ N (0:Int)
def z237_k1 (v3_3:(List Int)):Option (List Int) :=
 some v3_3
def z237_k3 (v5_14:Int) (ag14:(List Int)→Int→Option (List Int)) (v3_21:(List Int)):Option (List Int) :=
 ag14 v3_21 (w64 (v5_14+(1:Int)))
def z237_l4 (g_:T5) (v5_14:Int) (ag14:(List Int)→Int→Option (List Int)):Nat→(List Int)→Int→Option (List Int)
 | 0,_,_=>none
 | n15+1,v3_23,v6_23 =>
 bif (decide (v6_23 < (g_.Edges.length:Int))) then ((idx g_.Edges v6_23).bind fun x299 =>
 (idx v3_23 x299.To).bind fun x300 =>
 bif (x300==v5_14) then ((idx v3_23 x299.From).bind fun x301 =>
 bif (decide (x301 < (0:Int))) then ((idx v3_23 x299.From).bind fun x302 =>
 (z237_l4 g_ v5_14 ag14 n15) (setL' v3_23 x299.From (w64 (v5_14+(1:Int)))) (w64 (v6_23+(1:Int))))
 else (z237_l4 g_ v5_14 ag14 n15) v3_23 (w64 (v6_23+(1:Int))))
 else (z237_l4 g_ v5_14 ag14 n15) v3_23 (w64 (v6_23+(1:Int))))
 else z237_k3 v5_14 ag14 v3_23
def z237_l2 (N:Nat) (g_:T5):Nat→(List Int)→Int→Option (List Int)
 | 0,_,_=>none
 | n13+1,v3_14,v5_14 =>
 bif (decide (v5_14 < g_.States)) then (z237_l4 g_ v5_14 (z237_l2 N g_ n13) N v3_14 (0:Int))
 else z237_k1 v3_14
def z237_k5 (N:Nat) (g_:T5) (v3_1:(List Int)):Option (List Int) :=
 (idx v3_1 g_.End).bind fun x6 =>
 z237_l2 N g_ N (setL' v3_1 g_.End (0:Int)) (0:Int)
def z237_l6 (N:Nat) (g_:T5):Nat→(List Int)→Int→Option (List Int)
 | 0,_,_=>none
 | n16+1,v3_24,v4_24 =>
 bif (decide (v4_24 < g_.States)) then ((idx v3_24 v4_24).bind fun x307 =>
 (z237_l6 N g_ n16) (setL' v3_24 v4_24 (-1:Int)) (w64 (v4_24+(1:Int))))
 else z237_k5 N g_ v3_24
def z237 (N:Nat) (g_:T5):Option (List Int) :=
 (mkL (0:Int) g_.States g_.States).bind fun x1 =>
 z237_l6 N g_ N x1 (0:Int)
def z272 (N:Nat) (g_:T5) (i_:Int) (k_:Int):Option Bool :=
 (idx g_.Edges i_).bind fun x1 =>
 (idx g_.Edges k_).bind fun x2 =>
 bif (x1.Act.To != x2.Act.To) then (some (decide (x1.Act.To < x2.Act.To)))
 else bif (x1.Act.Label != x2.Act.Label) then (some (decide (x1.Act.Label < x2.Act.Label)))
 else some (decide (i_ < k_))
def z238_k1 (v5_1:(List Int)):Option (List Int) :=
 some v5_1
def z238_k3 (v5_12:(List Int)) (v6_12:Int) (ag12:(List Int)→Int→Option (List Int)) (v7_19:Int):Option (List Int) :=
 (lsl v5_12 none (some v7_19)).bind fun x148 =>
 (lsl v5_12 (some v7_19) none).bind fun x149 =>
 (appL ([v6_12]:List Int) x149).bind fun x150 =>
 (appL x148 x150).bind fun x151 =>
 ag12 x151 (w64 (v6_12+(1:Int)))
def z238_l4 (N:Nat) (g_:T5) (v5_12:(List Int)) (v6_12:Int) (ag12:(List Int)→Int→Option (List Int)):Nat→Int→Option (List Int)
 | 0,_=>none
 | n14+1,v7_21 =>
 bif (decide (v7_21 < (v5_12.length:Int))) then ((idx v5_12 v7_21).bind fun x160 =>
 (z272 N g_ x160 v6_12).bind fun x161 =>
 bif x161 then ((z238_l4 N g_ v5_12 v6_12 ag12 n14) (w64 (v7_21+(1:Int))))
 else z238_k3 v5_12 v6_12 ag12 v7_21)
 else z238_k3 v5_12 v6_12 ag12 v7_21
def z238_l2 (N:Nat) (g_:T5) (s_:Int):Nat→(List Int)→Int→Option (List Int)
 | 0,_,_=>none
 | n12+1,v5_12,v6_12 =>
 bif (decide (v6_12 < (g_.Edges.length:Int))) then ((idx g_.Edges v6_12).bind fun x139 =>
 bif (x139.From != s_) then ((z238_l2 N g_ s_ n12) v5_12 (w64 (v6_12+(1:Int))))
 else z238_l4 N g_ v5_12 v6_12 (z238_l2 N g_ s_ n12) N (0:Int))
 else z238_k1 v5_12
def z238 (N:Nat) (g_:T5) (s_:Int):Option (List Int) :=
 z238_l2 N g_ s_ N ([]:List Int) (0:Int)
def z181_k1 (N:Nat) (g_:T5):Option Bool :=
 (z238 N g_ g_.End).bind fun x236 =>
 some ((x236.length:Int)==(0:Int))
def z181_l2 (N:Nat) (g_:T5) (v3_1:(List Bool)) (x227:(List Int)):Nat→Int→Option Bool
 | 0,_=>none
 | n9+1,v7_14 =>
 bif (decide (v7_14 < g_.States)) then ((idx v3_1 v7_14).bind fun x245 =>
 bif (!x245) then (some false)
 else (idx x227 v7_14).bind fun x246 =>
 bif (decide (x246 < (0:Int))) then (some false)
 else (z181_l2 N g_ v3_1 x227 n9) (w64 (v7_14+(1:Int))))
 else z181_k1 N g_
def z181_k3 (N:Nat) (g_:T5) (v3_1:(List Bool)):Option Bool :=
 (z237 N g_).bind fun x227 =>
 z181_l2 N g_ v3_1 x227 N (0:Int)
def z181_k5 (v4_15:Int) (ag15:(List Bool)→Int→Option Bool) (v3_22:(List Bool)):Option Bool :=
 ag15 v3_22 (w64 (v4_15+(1:Int)))
def z181_l6 (g_:T5) (v4_15:Int) (ag15:(List Bool)→Int→Option Bool):Nat→(List Bool)→Int→Option Bool
 | 0,_,_=>none
 | n16+1,v3_24,v5_24 =>
 bif (decide (v5_24 < (g_.Edges.length:Int))) then ((idx g_.Edges v5_24).bind fun x534 =>
 (idx g_.Edges v5_24).bind fun x535 =>
 (idx v3_24 x535.To).bind fun x536 =>
 bif x536 then ((idx v3_24 x534.To).bind fun x537 =>
 (z181_l6 g_ v4_15 ag15 n16) (setL' v3_24 x534.To true) (w64 (v5_24+(1:Int))))
 else (idx g_.Edges v5_24).bind fun x538 =>
 (idx v3_24 x538.From).bind fun x539 =>
 (idx v3_24 x534.To).bind fun x540 =>
 (z181_l6 g_ v4_15 ag15 n16) (setL' v3_24 x534.To x539) (w64 (v5_24+(1:Int))))
 else z181_k5 v4_15 ag15 v3_24
def z181_l4 (N:Nat) (g_:T5):Nat→(List Bool)→Int→Option Bool
 | 0,_,_=>none
 | n14+1,v3_15,v4_15 =>
 bif (decide (v4_15 < g_.States)) then (z181_l6 g_ v4_15 (z181_l4 N g_ n14) N v3_15 (0:Int))
 else z181_k3 N g_ v3_15
def z181 (N:Nat) (g_:T5):Option Bool :=
 (mkL false g_.States g_.States).bind fun x1 =>
 (idx x1 g_.Start).bind fun x2 =>
 z181_l4 N g_ N (setL' x1 g_.Start true) (0:Int)
def z182_k1:Option Bool :=
 some true
def z182_l2 (N:Nat) (g_:T5):Nat→Int→Option Bool
 | 0,_=>none
 | n2+1,v3_3 =>
 bif (decide (v3_3 < (g_.Timeouts.length:Int))) then ((idx g_.Timeouts v3_3).bind fun x57 =>
 (z236 N g_ x57.State).bind fun x58 =>
 bif (!x58) then (some false)
 else bif (decide (v3_3 > (0:Int))) then ((idx g_.Timeouts (w64 (v3_3-(1:Int)))).bind fun x59 =>
 bif (decide (x57.State≤x59.State)) then (some false)
 else bif (decide (x57.Ticks < (1:Int))) then (some false)
 else bif (decide (x57.Ticks > (1000:Int))) then (some false)
 else bif (decide (x57.Else < (0:Int))) then (some false)
 else bif (decide (x57.Else≥(g_.Edges.length:Int))) then (some false)
 else (idx g_.Edges x57.Else).bind fun x60 =>
 bif (x60.From != x57.State) then (some false)
 else (idx g_.Edges x57.Else).bind fun x61 =>
 bif x61.Again then (some false)
 else (z182_l2 N g_ n2) (w64 (v3_3+(1:Int))))
 else bif (decide (x57.Ticks < (1:Int))) then (some false)
 else bif (decide (x57.Ticks > (1000:Int))) then (some false)
 else bif (decide (x57.Else < (0:Int))) then (some false)
 else bif (decide (x57.Else≥(g_.Edges.length:Int))) then (some false)
 else (idx g_.Edges x57.Else).bind fun x62 =>
 bif (x62.From != x57.State) then (some false)
 else (idx g_.Edges x57.Else).bind fun x63 =>
 bif x63.Again then (some false)
 else (z182_l2 N g_ n2) (w64 (v3_3+(1:Int))))
 else z182_k1
def z182 (N:Nat) (g_:T5):Option Bool :=
 z182_l2 N g_ N (0:Int)
def z102 (N:Nat) (g_:T5):Option Bool :=
 (z178 N g_).bind fun x1 =>
 bif x1 then ((z179 N g_).bind fun x2 =>
 bif x2 then ((z180 N g_).bind fun x3 =>
 bif x3 then ((z181 N g_).bind fun x4 =>
 bif x4 then ((z182 N g_).bind fun x5 =>
 some x5)
 else some false)
 else some false)
 else some false)
 else some false
def z183_k1:Option Bool :=
 some true
def z183_l2 (m_:T8):Nat→Int→Option Bool
 | 0,_=>none
 | n2+1,v3_3 =>
 bif (decide (v3_3 < (m_.Moves.length:Int))) then ((idx m_.Moves v3_3).bind fun x9 =>
 bif (decide (x9.From < (0:Int))) then (some false)
 else bif (decide (x9.From≥m_.States)) then (some false)
 else bif (decide (x9.To < (0:Int))) then (some false)
 else bif (decide (x9.To≥m_.States)) then (some false)
 else bif (decide (x9.Peer < (0:Int))) then (some false)
 else bif (decide (x9.Peer≥(6:Int))) then (some false)
 else bif (x9.Peer==m_.Role) then (some false)
 else bif (decide (x9.Label < (0:Int))) then (some false)
 else bif (decide (x9.Label≥(40:Int))) then (some false)
 else (z183_l2 m_ n2) (w64 (v3_3+(1:Int))))
 else z183_k1
def z183 (N:Nat) (m_:T8):Option Bool :=
 bif (decide (m_.Role < (0:Int))) then (some false)
 else bif (decide (m_.Role≥(6:Int))) then (some false)
 else bif (decide (m_.States < (1:Int))) then (some false)
 else bif (decide (m_.States > (200:Int))) then (some false)
 else bif (decide (m_.Start < (0:Int))) then (some false)
 else bif (decide (m_.Start≥m_.States)) then (some false)
 else bif ((m_.Finals.length:Int) != m_.States) then (some false)
 else bif (decide ((m_.Moves.length:Int) > (400:Int))) then (some false)
 else z183_l2 m_ N (0:Int)
def z184_k1:Option Bool :=
 some true
def z184_k3 (v3_33:Int) (ag33:Int→Option Bool):Option Bool :=
 ag33 (w64 (v3_33+(1:Int)))
def z184_k5 (x90:T9) (v5_60:Int) (ag60:Int→Option Bool) (x100:T9) (v87_63:Bool):Option Bool :=
 bif v87_63 then (some false)
 else bif x90.Again then (bif (x100.To==x90.From) then (bif (!x100.Send) then (some false)
 else bif (x100.Label != x90.Label) then (some false)
 else ag60 (w64 (v5_60+(1:Int))))
 else ag60 (w64 (v5_60+(1:Int))))
 else ag60 (w64 (v5_60+(1:Int)))
def z184_l4 (m_:T8) (v3_33:Int) (ag33:Int→Option Bool) (x90:T9):Nat→Int→Option Bool
 | 0,_=>none
 | n14+1,v5_60 =>
 bif (decide (v5_60 < (m_.Moves.length:Int))) then ((idx m_.Moves v5_60).bind fun x100 =>
 bif (v5_60 != v3_33) then (bif (x90.From==x100.From) then (bif (!(x90.Send==x100.Send)) then (z184_k5 x90 v5_60 (z184_l4 m_ v3_33 ag33 x90 n14) x100 true)
 else bif (x90.Peer==x100.Peer) then (bif (x90.Label==x100.Label) then (z184_k5 x90 v5_60 (z184_l4 m_ v3_33 ag33 x90 n14) x100 true)
 else z184_k5 x90 v5_60 (z184_l4 m_ v3_33 ag33 x90 n14) x100 x90.Again)
 else z184_k5 x90 v5_60 (z184_l4 m_ v3_33 ag33 x90 n14) x100 x90.Again)
 else z184_k5 x90 v5_60 (z184_l4 m_ v3_33 ag33 x90 n14) x100 false)
 else z184_k5 x90 v5_60 (z184_l4 m_ v3_33 ag33 x90 n14) x100 false)
 else z184_k3 v3_33 ag33
def z184_k6 (N:Nat) (m_:T8) (v3_33:Int) (ag33:Int→Option Bool) (x90:T9) (v40_54:Bool):Option Bool :=
 bif v40_54 then (some false)
 else z184_l4 m_ v3_33 ag33 x90 N (0:Int)
def z184_l2 (N:Nat) (m_:T8):Nat→Int→Option Bool
 | 0,_=>none
 | n12+1,v3_33 =>
 bif (decide (v3_33 < (m_.Moves.length:Int))) then ((idx m_.Moves v3_33).bind fun x90 =>
 bif x90.Again then (bif (!x90.Send) then (z184_k6 N m_ v3_33 (z184_l2 N m_ n12) x90 true)
 else bif (x90.From==m_.Start) then (z184_k6 N m_ v3_33 (z184_l2 N m_ n12) x90 true)
 else (idx m_.Finals x90.From).bind fun x101 =>
 z184_k6 N m_ v3_33 (z184_l2 N m_ n12) x90 x101)
 else z184_k6 N m_ v3_33 (z184_l2 N m_ n12) x90 false)
 else z184_k1
def z184 (N:Nat) (m_:T8):Option Bool :=
 z184_l2 N m_ N (0:Int)
def z185_k1:Option Bool :=
 some true
def z185_k3 (m_:T8) (v3_6:Int) (ag6:Int→Option Bool) (x33:T11) (v54_9:Bool):Option Bool :=
 bif v54_9 then (some false)
 else (idx m_.Moves x33.Else).bind fun x35 =>
 bif (x35.From != x33.State) then (some false)
 else bif (!x35.Send) then (some false)
 else bif x35.Again then (some false)
 else ag6 (w64 (v3_6+(1:Int)))
def z185_l2 (m_:T8):Nat→Int→Option Bool
 | 0,_=>none
 | n2+1,v3_6 =>
 bif (decide (v3_6 < (m_.Timeouts.length:Int))) then ((idx m_.Timeouts v3_6).bind fun x33 =>
 bif (decide (x33.Ticks < (1:Int))) then (z185_k3 m_ v3_6 (z185_l2 m_ n2) x33 true)
 else bif (decide (x33.Ticks > (1000:Int))) then (z185_k3 m_ v3_6 (z185_l2 m_ n2) x33 true)
 else bif (decide (x33.Else < (0:Int))) then (z185_k3 m_ v3_6 (z185_l2 m_ n2) x33 true)
 else bif (decide (x33.Else≥(m_.Moves.length:Int))) then (z185_k3 m_ v3_6 (z185_l2 m_ n2) x33 true)
 else bif (decide (v3_6 > (0:Int))) then ((idx m_.Timeouts (w64 (v3_6-(1:Int)))).bind fun x36 =>
 z185_k3 m_ v3_6 (z185_l2 m_ n2) x33 (decide (x33.State≤x36.State)))
 else z185_k3 m_ v3_6 (z185_l2 m_ n2) x33 false)
 else z185_k1
def z185 (N:Nat) (m_:T8):Option Bool :=
 z185_l2 m_ N (0:Int)
def z239_k1:Option Bool :=
 some false
def z239_l2 (l_:(List Int)) (n_:Int):Nat→Int→Option Bool
 | 0,_=>none
 | n2+1,v5_3 =>
 bif (decide (v5_3 < (l_.length:Int))) then ((idx l_ v5_3).bind fun x9 =>
 bif (x9==n_) then (some true)
 else (z239_l2 l_ n_ n2) (w64 (v5_3+(1:Int))))
 else z239_k1
def z239 (N:Nat) (l_:(List Int)) (n_:Int):Option Bool :=
 z239_l2 l_ n_ N (0:Int)
def z240_k1 (n_:Int) (v5_1:(List Int)) (v6_1:Bool):Option (List Int) :=
 bif (!v6_1) then ((appL v5_1 ([n_]:List Int)).bind fun x43 =>
 some x43)
 else some v5_1
def z240_l2 (l_:(List Int)) (n_:Int):Nat→(List Int)→Bool→Int→Option (List Int)
 | 0,_,_,_=>none
 | n2+1,v5_3,v6_3,v7_3 =>
 bif (decide (v7_3 < (l_.length:Int))) then (bif (!v6_3) then ((idx l_ v7_3).bind fun x86 =>
 bif (decide (x86≥n_)) then ((idx l_ v7_3).bind fun x87 =>
 bif (decide (x87 > n_)) then ((appL v5_3 ([n_]:List Int)).bind fun x88 =>
 (idx l_ v7_3).bind fun x89 =>
 (appL x88 ([x89]:List Int)).bind fun x90 =>
 (z240_l2 l_ n_ n2) x90 true (w64 (v7_3+(1:Int))))
 else (idx l_ v7_3).bind fun x91 =>
 (appL v5_3 ([x91]:List Int)).bind fun x92 =>
 (z240_l2 l_ n_ n2) x92 true (w64 (v7_3+(1:Int))))
 else (idx l_ v7_3).bind fun x93 =>
 (appL v5_3 ([x93]:List Int)).bind fun x94 =>
 (z240_l2 l_ n_ n2) x94 v6_3 (w64 (v7_3+(1:Int))))
 else (idx l_ v7_3).bind fun x95 =>
 (appL v5_3 ([x95]:List Int)).bind fun x96 =>
 (z240_l2 l_ n_ n2) x96 v6_3 (w64 (v7_3+(1:Int))))
 else z240_k1 n_ v5_3 v6_3
def z240 (N:Nat) (l_:(List Int)) (n_:Int):Option (List Int) :=
 z240_l2 l_ n_ N ([]:List Int) false (0:Int)
def z186_k1 (v3_1:(List Int)):Option (List Int) :=
 some v3_1
def z186_k3 (v4_12:Int) (ag12:(List Int)→Int→Option (List Int)) (v3_19:(List Int)):Option (List Int) :=
 ag12 v3_19 (w64 (v4_12+(1:Int)))
def z186_l4 (N:Nat) (m_:T8) (v4_12:Int) (ag12:(List Int)→Int→Option (List Int)):Nat→(List Int)→Int→Option (List Int)
 | 0,_,_=>none
 | n14+1,v3_21,v5_21 =>
 bif (decide (v5_21 < (m_.Moves.length:Int))) then ((idx m_.Moves v5_21).bind fun x293 =>
 (z239 N v3_21 x293.From).bind fun x294 =>
 bif x294 then ((idx m_.Moves v5_21).bind fun x295 =>
 (z240 N v3_21 x295.To).bind fun x296 =>
 (z186_l4 N m_ v4_12 ag12 n14) x296 (w64 (v5_21+(1:Int))))
 else (z186_l4 N m_ v4_12 ag12 n14) v3_21 (w64 (v5_21+(1:Int))))
 else z186_k3 v4_12 ag12 v3_21
def z186_l2 (N:Nat) (m_:T8):Nat→(List Int)→Int→Option (List Int)
 | 0,_,_=>none
 | n12+1,v3_12,v4_12 =>
 bif (decide (v4_12 < m_.States)) then (z186_l4 N m_ v4_12 (z186_l2 N m_ n12) N v3_12 (0:Int))
 else z186_k1 v3_12
def z186 (N:Nat) (m_:T8):Option (List Int) :=
 z186_l2 N m_ N ([m_.Start]:List Int) (0:Int)
def z103 (N:Nat) (m_:T8):Option Bool :=
 (z183 N m_).bind fun x1 =>
 bif x1 then ((z184 N m_).bind fun x2 =>
 bif x2 then ((z185 N m_).bind fun x3 =>
 bif x3 then ((z186 N m_).bind fun x4 =>
 some ((x4.length:Int)==m_.States))
 else some false)
 else some false)
 else some false
def z51_k1:Option Bool :=
 some true
def z51_l2 (g_:T5) (m_:T8):Nat→Int→Option Bool
 | 0,_=>none
 | n2+1,v5_3 =>
 bif (decide (v5_3 < (m_.Moves.length:Int))) then ((idx m_.Moves v5_3).bind fun x19 =>
 bif (decide (x19.Peer≥(g_.Roles.length:Int))) then (some false)
 else (idx m_.Moves v5_3).bind fun x20 =>
 bif (decide (x20.Label≥(g_.Decls.length:Int))) then (some false)
 else (z51_l2 g_ m_ n2) (w64 (v5_3+(1:Int))))
 else z51_k1
def z51 (N:Nat) (g_:T5) (m_:T8):Option Bool :=
 (z102 N g_).bind fun x1 =>
 bif (!x1) then (some false)
 else (z103 N m_).bind fun x2 =>
 bif (!x2) then (some false)
 else bif (decide (m_.Role≥(g_.Roles.length:Int))) then (some false)
 else z51_l2 g_ m_ N (0:Int)
def z67 (N:Nat) (decls_:(List T0)):Option (List T12) :=
 (z78 N decls_).bind fun x1 =>
 (mkL (⟨(0:Int),(0:Int),(str [])⟩:T12) x1 x1).bind fun x2 =>
 some x2
def z33 (N:Nat) (g_:T5) (m_:T8):Option T16 :=
 (z51 N g_ m_).bind fun x1 =>
 bif (!x1) then (some (⟨(0:Int),([]:List T12),([]:List T12)⟩:T16))
 else (z67 N g_.Decls).bind fun x2 =>
 some (⟨m_.Start,x2,([]:List T12)⟩:T16)
def z128 (N:Nat) (v_:T12):Option Int :=
 bif (v_.Kind==(2:Int)) then (some (v_.S.size:Int))
 else some v_.N
def z139_k1 (N:Nat) (s_:T10) (v_:T12) (v42_3:Bool):Option Bool :=
 bif v42_3 then (some false)
 else bif (v_.Kind==s_.Kind) then ((z128 N v_).bind fun x9 =>
 bif (decide (x9≥s_.Lo)) then ((z128 N v_).bind fun x10 =>
 some (decide (x10≤s_.Hi)))
 else some false)
 else some false
def z139_k2 (N:Nat) (s_:T10) (v_:T12):Option Bool :=
 bif (v_.Kind==(2:Int)) then (bif (v_.N != (0:Int)) then (z139_k1 N s_ v_ true)
 else bif (v_.Kind==(1:Int)) then (z139_k1 N s_ v_ (!(v_.S.toList==(str []).toList)))
 else z139_k1 N s_ v_ false)
 else bif (v_.Kind==(1:Int)) then (z139_k1 N s_ v_ (!(v_.S.toList==(str []).toList)))
 else z139_k1 N s_ v_ false
def z139_l3 (N:Nat) (s_:T10) (v_:T12):Nat→Int→Option Bool
 | 0,_=>none
 | n2+1,v5_4 =>
 bif (decide (v5_4 < (v_.S.size:Int))) then ((sidx v_.S v5_4).bind fun x19 =>
 bif (decide (x19 < (32:Int))) then (some false)
 else (sidx v_.S v5_4).bind fun x20 =>
 bif (decide (x20 > (126:Int))) then (some false)
 else (z139_l3 N s_ v_ n2) (w64 (v5_4+(1:Int))))
 else z139_k2 N s_ v_
def z139 (N:Nat) (s_:T10) (v_:T12):Option Bool :=
 z139_l3 N s_ v_ N (0:Int)
def z66_k1:Option Bool :=
 some true
def z66_l2 (N:Nat) (decls_:(List T0)) (known_:(List T12)):Nat→Int→Option Bool
 | 0,_=>none
 | n2+1,v5_3 =>
 bif (decide (v5_3 < (known_.length:Int))) then ((idx known_ v5_3).bind fun x34 =>
 bif (!((x34.Kind==(0:Int)) && ((x34.N==(0:Int)) && ((x34.S.toList==(str []).toList) && true)))) then ((z140 N decls_ v5_3).bind fun x35 =>
 (idx known_ v5_3).bind fun x36 =>
 (z139 N x35.Sort' x36).bind fun x37 =>
 bif (!x37) then (some false)
 else (z66_l2 N decls_ known_ n2) (w64 (v5_3+(1:Int))))
 else (z66_l2 N decls_ known_ n2) (w64 (v5_3+(1:Int))))
 else z66_k1
def z66 (N:Nat) (decls_:(List T0)) (known_:(List T12)):Option Bool :=
 (z78 N decls_).bind fun x1 =>
 bif ((known_.length:Int) != x1) then (some false)
 else z66_l2 N decls_ known_ N (0:Int)
def z32 (N:Nat) (g_:T5) (m_:T8) (s_:T16):Option Bool :=
 (z51 N g_ m_).bind fun x1 =>
 bif x1 then (bif (decide (s_.At≥(0:Int))) then (bif (decide (s_.At < m_.States)) then ((z66 N g_.Decls s_.Known).bind fun x2 =>
 some x2)
 else some false)
 else some false)
 else some false
def z68 (N:Nat) (m_:T8) (state_:Int):Option Bool :=
 (z103 N m_).bind fun x1 =>
 bif x1 then (bif (decide (state_≥(0:Int))) then (some (decide (state_ < m_.States)))
 else some false)
 else some false
def z141 (N:Nat) (x_:T9) (y_:T9):Option Bool :=
 bif (!(x_.Send==y_.Send)) then (some x_.Send)
 else bif (x_.Peer != y_.Peer) then (some (decide (x_.Peer < y_.Peer)))
 else some (decide (x_.Label < y_.Label))
def z69_k1 (v5_1:(List Int)):Option (List Int) :=
 some v5_1
def z69_k3 (v5_12:(List Int)) (v6_12:Int) (ag12:(List Int)→Int→Option (List Int)) (v7_19:Int):Option (List Int) :=
 (lsl v5_12 none (some v7_19)).bind fun x274 =>
 (appL ([]:List Int) x274).bind fun x275 =>
 (appL x275 ([v6_12]:List Int)).bind fun x276 =>
 (lsl v5_12 (some v7_19) none).bind fun x277 =>
 (appL x276 x277).bind fun x278 =>
 ag12 x278 (w64 (v6_12+(1:Int)))
def z69_l4 (N:Nat) (m_:T8) (v5_12:(List Int)) (v6_12:Int) (ag12:(List Int)→Int→Option (List Int)):Nat→Int→Option (List Int)
 | 0,_=>none
 | n14+1,v7_21 =>
 bif (decide (v7_21 < (v5_12.length:Int))) then ((idx m_.Moves v6_12).bind fun x295 =>
 (idx v5_12 v7_21).bind fun x296 =>
 (idx m_.Moves x296).bind fun x297 =>
 (z141 N x295 x297).bind fun x298 =>
 bif (!x298) then ((z69_l4 N m_ v5_12 v6_12 ag12 n14) (w64 (v7_21+(1:Int))))
 else z69_k3 v5_12 v6_12 ag12 v7_21)
 else z69_k3 v5_12 v6_12 ag12 v7_21
def z69_l2 (N:Nat) (m_:T8) (state_:Int):Nat→(List Int)→Int→Option (List Int)
 | 0,_,_=>none
 | n12+1,v5_12,v6_12 =>
 bif (decide (v6_12 < (m_.Moves.length:Int))) then ((idx m_.Moves v6_12).bind fun x257 =>
 bif (x257.From != state_) then ((z69_l2 N m_ state_ n12) v5_12 (w64 (v6_12+(1:Int))))
 else z69_l4 N m_ v5_12 v6_12 (z69_l2 N m_ state_ n12) N (0:Int))
 else z69_k1 v5_12
def z69 (N:Nat) (m_:T8) (state_:Int):Option (List Int) :=
 z69_l2 N m_ state_ N ([]:List Int) (0:Int)
def z34 (N:Nat) (m_:T8) (state_:Int):Option (List Int) :=
 (z68 N m_ state_).bind fun x1 =>
 bif (!x1) then (some ([]:List Int))
 else (z69 N m_ state_).bind fun x2 =>
 some x2
def z36_b (N:Nat) (rc:Int→Option ByteArray) (n_:Int):Option ByteArray :=
 bif (decide (n_ < (-9:Int))) then ((rc (w64 (n_.tdiv (10:Int)))).bind fun x1 =>
 (catS x1 (Utf8.encode (wk .i32 ((w64 ((48:Int)-(n_.tmod (10:Int)))))))).bind fun x2 =>
 some x2)
 else bif (decide (n_ < (0:Int))) then ((catS (str [45]) (Utf8.encode (wk .i32 ((w64 ((48:Int)-n_)))))).bind fun x3 =>
 some x3)
 else bif (decide (n_ < (10:Int))) then (some (Utf8.encode (wk .i32 ((w64 ((48:Int)+n_))))))
 else (rc (w64 (n_.tdiv (10:Int)))).bind fun x4 =>
 (catS x4 (Utf8.encode (wk .i32 ((w64 ((48:Int)+(n_.tmod (10:Int)))))))).bind fun x5 =>
 some x5
def z36_r:Nat→Int→Option ByteArray
 | 0,_=>none
 | N+1,a0=>z36_b N (z36_r N) a0
def z36 (N:Nat) (n_:Int):Option ByteArray:=z36_r N n_
def z42 (N:Nat) (d_:T0):Option Int :=
 some (w64 ((d_.Guard.Diffs.length:Int)+(d_.Guard.Equals.length:Int)))
def z83_k1:Option (ByteArray × Bool) :=
 some ((str []),false)
def z83_l2 (decls_:(List T0)) (x_:Int):Nat→Int→Option (ByteArray × Bool)
 | 0,_=>none
 | n2+1,v6_3 =>
 bif (decide (v6_3 < (decls_.length:Int))) then ((idx decls_ v6_3).bind fun x33 =>
 bif (decide (x_≥x33.First)) then (bif (decide (x_ < (w64 (x33.First+(x33.Fields.length:Int))))) then ((idx x33.Fields (w64 (x_-x33.First))).bind fun x34 =>
 (catS x33.Name (str [46])).bind fun x35 =>
 (catS x35 x34.Name).bind fun x36 =>
 some (x36,(x34.Sort'.Kind==(2:Int))))
 else (z83_l2 decls_ x_ n2) (w64 (v6_3+(1:Int))))
 else (z83_l2 decls_ x_ n2) (w64 (v6_3+(1:Int))))
 else z83_k1
def z83 (N:Nat) (decls_:(List T0)) (x_:Int):Option (ByteArray × Bool) :=
 z83_l2 decls_ x_ N (0:Int)
def z84 (N:Nat) (decls_:(List T0)) (x_:Int):Option ByteArray :=
 (z83 N decls_ x_).bind fun x1 =>
 bif x1.2 then ((catS (str [108,101,110,40]) x1.1).bind fun x2 =>
 (catS x2 (str [41])).bind fun x3 =>
 some x3)
 else some x1.1
def z43 (N:Nat) (decls_:(List T0)) (at_:Int) (part_:Int):Option ByteArray :=
 (z41 N decls_).bind fun x1 =>
 bif (!x1) then (some (str []))
 else bif (decide (at_ < (0:Int))) then (some (str []))
 else bif (decide (at_≥(decls_.length:Int))) then (some (str []))
 else bif (decide (part_ < (0:Int))) then (some (str []))
 else (idx decls_ at_).bind fun x2 =>
 (z42 N x2).bind fun x3 =>
 bif (decide (part_≥x3)) then (some (str []))
 else (idx decls_ at_).bind fun x4 =>
 bif (decide (part_≥(x4.Guard.Diffs.length:Int))) then ((idx decls_ at_).bind fun x5 =>
 (idx x5.Guard.Equals (w64 (part_-(x4.Guard.Diffs.length:Int)))).bind fun x6 =>
 (z83 N decls_ x6.1).bind fun x7 =>
 (z83 N decls_ x6.2).bind fun x8 =>
 (catS x7.1 (str [32,61,61,32])).bind fun x9 =>
 (catS x9 x8.1).bind fun x10 =>
 some x10)
 else (idx decls_ at_).bind fun x11 =>
 (idx x11.Guard.Diffs part_).bind fun x12 =>
 bif (decide (x12.X < (0:Int))) then (bif (decide (x12.Y < (0:Int))) then ((z36 N x12.C).bind fun x13 =>
 (catS (str [48,32,60,61,32]) x13).bind fun x14 =>
 some x14)
 else bif (decide (x12.Y < (0:Int))) then ((z84 N decls_ x12.X).bind fun x15 =>
 (catS x15 (str [32,60,61,32])).bind fun x16 =>
 (z36 N x12.C).bind fun x17 =>
 (catS x16 x17).bind fun x18 =>
 some x18)
 else bif (decide (x12.X < (0:Int))) then ((z84 N decls_ x12.Y).bind fun x19 =>
 (catS x19 (str [32,62,61,32])).bind fun x20 =>
 (z36 N (w64 (0-x12.C))).bind fun x21 =>
 (catS x20 x21).bind fun x22 =>
 some x22)
 else (z84 N decls_ x12.X).bind fun x23 =>
 (catS x23 (str [32,60,61,32])).bind fun x24 =>
 (z84 N decls_ x12.Y).bind fun x25 =>
 (catS x24 x25).bind fun x26 =>
 bif (decide (x12.C > (0:Int))) then ((catS x26 (str [32,43,32])).bind fun x27 =>
 (z36 N x12.C).bind fun x28 =>
 (catS x27 x28).bind fun x29 =>
 some x29)
 else bif (decide (x12.C < (0:Int))) then ((catS x26 (str [32,45,32])).bind fun x30 =>
 (z36 N (w64 (0-x12.C))).bind fun x31 =>
 (catS x30 x31).bind fun x32 =>
 some x32)
 else some x26)
 else bif (decide (x12.Y < (0:Int))) then ((z84 N decls_ x12.X).bind fun x33 =>
 (catS x33 (str [32,60,61,32])).bind fun x34 =>
 (z36 N x12.C).bind fun x35 =>
 (catS x34 x35).bind fun x36 =>
 some x36)
 else bif (decide (x12.X < (0:Int))) then ((z84 N decls_ x12.Y).bind fun x37 =>
 (catS x37 (str [32,62,61,32])).bind fun x38 =>
 (z36 N (w64 (0-x12.C))).bind fun x39 =>
 (catS x38 x39).bind fun x40 =>
 some x40)
 else (z84 N decls_ x12.X).bind fun x41 =>
 (catS x41 (str [32,60,61,32])).bind fun x42 =>
 (z84 N decls_ x12.Y).bind fun x43 =>
 (catS x42 x43).bind fun x44 =>
 bif (decide (x12.C > (0:Int))) then ((catS x44 (str [32,43,32])).bind fun x45 =>
 (z36 N x12.C).bind fun x46 =>
 (catS x45 x46).bind fun x47 =>
 some x47)
 else bif (decide (x12.C < (0:Int))) then ((catS x44 (str [32,45,32])).bind fun x48 =>
 (z36 N (w64 (0-x12.C))).bind fun x49 =>
 (catS x48 x49).bind fun x50 =>
 some x50)
 else some x44
def z14_k1 (v6_9:ByteArray):Option ByteArray :=
 some v6_9
def z14_l2 (N:Nat) (decls_:(List T0)) (label_:Int) (x2:T0):Nat→ByteArray→Int→Option ByteArray
 | 0,_,_=>none
 | n3+1,v6_11,v9_11 =>
 (z42 N x2).bind fun x117 =>
 bif (decide (v9_11 < x117)) then (bif (v9_11==(0:Int)) then ((catS v6_11 (str [32,119,104,101,114,101,32])).bind fun x118 =>
 (z43 N decls_ label_ v9_11).bind fun x119 =>
 (catS x118 x119).bind fun x120 =>
 (z14_l2 N decls_ label_ x2 n3) x120 (w64 (v9_11+(1:Int))))
 else (catS v6_11 (str [32,97,110,100,32])).bind fun x121 =>
 (z43 N decls_ label_ v9_11).bind fun x122 =>
 (catS x121 x122).bind fun x123 =>
 (z14_l2 N decls_ label_ x2 n3) x123 (w64 (v9_11+(1:Int))))
 else z14_k1 v6_11
def z14_k3 (N:Nat) (decls_:(List T0)) (label_:Int) (x2:T0) (v6_1:ByteArray):Option ByteArray :=
 (catS v6_1 (str [41])).bind fun x60 =>
 z14_l2 N decls_ label_ x2 N x60 (0:Int)
def z14_k5 (N:Nat) (v7_12:Int) (ag12:ByteArray→Int→Option ByteArray) (x180:T4) (v6_18:ByteArray):Option ByteArray :=
 (z36 N x180.Sort'.Lo).bind fun x186 =>
 (catS x186 (str [32,46,46,32])).bind fun x187 =>
 (z36 N x180.Sort'.Hi).bind fun x188 =>
 (catS x187 x188).bind fun x189 =>
 (catS v6_18 x189).bind fun x190 =>
 ag12 x190 (w64 (v7_12+(1:Int)))
def z14_k6 (N:Nat) (v7_12:Int) (ag12:ByteArray→Int→Option ByteArray) (x180:T4) (v6_17:ByteArray):Option ByteArray :=
 (catS x180.Name (str [58,32])).bind fun x182 =>
 (catS v6_17 x182).bind fun x183 =>
 bif (x180.Sort'.Kind==(2:Int)) then ((catS x183 (str [116,101,120,116,32])).bind fun x191 =>
 z14_k5 N v7_12 ag12 x180 x191)
 else (catS x183 (str [105,110,116,32])).bind fun x192 =>
 z14_k5 N v7_12 ag12 x180 x192
def z14_l4 (N:Nat) (decls_:(List T0)) (label_:Int) (x2:T0):Nat→ByteArray→Int→Option ByteArray
 | 0,_,_=>none
 | n4+1,v6_12,v7_12 =>
 bif (decide (v7_12 < (x2.Fields.length:Int))) then ((idx x2.Fields v7_12).bind fun x180 =>
 bif (decide (v7_12 > (0:Int))) then ((catS v6_12 (str [44,32])).bind fun x193 =>
 z14_k6 N v7_12 (z14_l4 N decls_ label_ x2 n4) x180 x193)
 else z14_k6 N v7_12 (z14_l4 N decls_ label_ x2 n4) x180 v6_12)
 else z14_k3 N decls_ label_ x2 v6_12
def z14 (N:Nat) (decls_:(List T0)) (label_:Int):Option ByteArray :=
 (z41 N decls_).bind fun x1 =>
 bif (!x1) then (some (str []))
 else bif (decide (label_ < (0:Int))) then (some (str []))
 else bif (decide (label_≥(decls_.length:Int))) then (some (str []))
 else (idx decls_ label_).bind fun x2 =>
 (catS x2.Name (str [40])).bind fun x3 =>
 z14_l4 N decls_ label_ x2 N x3 (0:Int)
def z70_k1:Option Int :=
 some (-1:Int)
def z70_l2 (m_:T8) (state_:Int):Nat→Int→Option Int
 | 0,_=>none
 | n2+1,v5_3 =>
 bif (decide (v5_3 < (m_.Timeouts.length:Int))) then ((idx m_.Timeouts v5_3).bind fun x9 =>
 bif (x9.State==state_) then (some v5_3)
 else (z70_l2 m_ state_ n2) (w64 (v5_3+(1:Int))))
 else z70_k1
def z70 (N:Nat) (m_:T8) (state_:Int):Option Int :=
 z70_l2 m_ state_ N (0:Int)
def z35 (N:Nat) (m_:T8) (state_:Int):Option (T11 × Bool) :=
 (z68 N m_ state_).bind fun x1 =>
 bif (!x1) then (some ((⟨(0:Int),(0:Int),(0:Int)⟩:T11),false))
 else (z70 N m_ state_).bind fun x2 =>
 bif (decide (x2≥(0:Int))) then ((idx m_.Timeouts x2).bind fun x3 =>
 some (x3,true))
 else some ((⟨(0:Int),(0:Int),(0:Int)⟩:T11),false)
def z11_k1 (N:Nat) (g_:T5) (m_:T8) (state_:Int) (v8_1:(List ByteArray)):Option ((List ByteArray) × Int) :=
 (z35 N m_ state_).bind fun x84 =>
 bif x84.2 then ((idx m_.Moves x84.1.Else).bind fun x85 =>
 (z36 N x84.1.Ticks).bind fun x86 =>
 (catS (str [119,105,116,104,105,110,32]) x86).bind fun x87 =>
 (catS x87 (str [32,116,105,99,107,115,44,32,111,116,104,101,114,119,105,115,101,32])).bind fun x88 =>
 (idx g_.Decls x85.Label).bind fun x89 =>
 (catS x88 x89.Name).bind fun x90 =>
 (catS x90 (str [32,116,111,32])).bind fun x91 =>
 (idx g_.Roles x85.Peer).bind fun x92 =>
 (catS x91 x92).bind fun x93 =>
 (appL v8_1 ([x93]:List ByteArray)).bind fun x94 =>
 (idx m_.Finals state_).bind fun x95 =>
 bif x95 then ((appL x94 ([(str [116,104,101,32,101,110,100])]:List ByteArray)).bind fun x96 =>
 some (x96,(0:Int)))
 else some (x94,(0:Int)))
 else (idx m_.Finals state_).bind fun x97 =>
 bif x97 then ((appL v8_1 ([(str [116,104,101,32,101,110,100])]:List ByteArray)).bind fun x98 =>
 some (x98,(0:Int)))
 else some (v8_1,(0:Int))
def z11_l2 (N:Nat) (g_:T5) (m_:T8) (state_:Int) (x3:(List Int)):Nat→(List ByteArray)→Int→Option ((List ByteArray) × Int)
 | 0,_,_=>none
 | n2+1,v8_3,v10_3 =>
 bif (decide (v10_3 < (x3.length:Int))) then ((idx x3 v10_3).bind fun x179 =>
 (idx m_.Moves x179).bind fun x180 =>
 bif x180.Again then ((idx g_.Decls x180.Label).bind fun x181 =>
 (catS (str [115,101,110,100,32]) x181.Name).bind fun x182 =>
 (catS x182 (str [32,97,103,97,105,110,32,116,111,32])).bind fun x183 =>
 (idx g_.Roles x180.Peer).bind fun x184 =>
 (catS x183 x184).bind fun x185 =>
 (appL v8_3 ([x185]:List ByteArray)).bind fun x186 =>
 (z11_l2 N g_ m_ state_ x3 n2) x186 (w64 (v10_3+(1:Int))))
 else bif x180.Send then ((z14 N g_.Decls x180.Label).bind fun x187 =>
 (catS (str [115,101,110,100,32]) x187).bind fun x188 =>
 (catS x188 (str [32,116,111,32])).bind fun x189 =>
 (idx g_.Roles x180.Peer).bind fun x190 =>
 (catS x189 x190).bind fun x191 =>
 (appL v8_3 ([x191]:List ByteArray)).bind fun x192 =>
 (z11_l2 N g_ m_ state_ x3 n2) x192 (w64 (v10_3+(1:Int))))
 else (z14 N g_.Decls x180.Label).bind fun x193 =>
 (catS (str [114,101,99,101,105,118,101,32]) x193).bind fun x194 =>
 (catS x194 (str [32,102,114,111,109,32])).bind fun x195 =>
 (idx g_.Roles x180.Peer).bind fun x196 =>
 (catS x195 x196).bind fun x197 =>
 (appL v8_3 ([x197]:List ByteArray)).bind fun x198 =>
 (z11_l2 N g_ m_ state_ x3 n2) x198 (w64 (v10_3+(1:Int))))
 else z11_k1 N g_ m_ state_ v8_3
def z11 (N:Nat) (g_:T5) (m_:T8) (state_:Int):Option ((List ByteArray) × Int) :=
 (z33 N g_ m_).bind fun x1 =>
 (z32 N g_ m_ x1).bind fun x2 =>
 bif (!x2) then (some (([]:List ByteArray),(1:Int)))
 else bif (decide (state_ < (0:Int))) then (some (([]:List ByteArray),(1:Int)))
 else bif (decide (state_≥m_.States)) then (some (([]:List ByteArray),(1:Int)))
 else (z34 N m_ state_).bind fun x3 =>
 z11_l2 N g_ m_ state_ x3 N ([]:List ByteArray) (0:Int)
def law43_ExplainPermitted (N:Nat) (g_:T5) (m_:T8) (at_:(Int × Int)):Option Bool :=
 (z8 N).bind fun x1 =>
 bif (!x1) then (some false)
 else (z9 N g_ m_ ([]:List T3)).bind fun x2 =>
 bif (!x2) then (some true)
 else (z10 N g_ m_ at_.1).bind fun x3 =>
 (z11 N g_ m_ at_.1).bind fun x4 =>
 (z12 N x3.1 x4.1).bind fun x5 =>
 bif x5 then (bif (x3.2==x4.2) then ((z13 N g_.Decls at_.2).bind fun x6 =>
 (z14 N g_.Decls at_.2).bind fun x7 =>
 some (x6.toList==x7.toList))
 else some false)
 else some false
def ref15_digits_b (N:Nat) (rc_ref15_digits:Int→Option ByteArray) (n_:Int):Option ByteArray :=
 bif (decide (n_ < (-9:Int))) then ((rc_ref15_digits (w64 (n_.tdiv (10:Int)))).bind fun x1 =>
 (catS x1 (Utf8.encode (wk .i32 ((w64 ((48:Int)-(n_.tmod (10:Int)))))))).bind fun x2 =>
 some x2)
 else bif (decide (n_ < (0:Int))) then ((catS (str [45]) (Utf8.encode (wk .i32 ((w64 ((48:Int)-n_)))))).bind fun x3 =>
 some x3)
 else bif (decide (n_ < (10:Int))) then (some (Utf8.encode (wk .i32 ((w64 ((48:Int)+n_))))))
 else (rc_ref15_digits (w64 (n_.tdiv (10:Int)))).bind fun x4 =>
 (catS x4 (Utf8.encode (wk .i32 ((w64 ((48:Int)+(n_.tmod (10:Int)))))))).bind fun x5 =>
 some x5
def ref15_digits_r:Nat→Int→Option ByteArray
 | 0,_=>none
 | N+1,a0=>ref15_digits_b N (ref15_digits_r N) a0
def ref15_digits (N:Nat) (n_:Int):Option ByteArray:=ref15_digits_r N n_
end Gx
end
