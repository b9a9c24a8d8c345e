/- What each function of the statement computes, as plain definitions. -/
import Derived.Test.YtenajajnbmfijaaGreatDoorGlobalSearchCore3
set_option linter.all false
section
set_option linter.unusedVariables false
open Go Go.Kx
namespace Gx
structure T_api_Sort where
  Kind : Int
  Lo : Int
  Hi : Int
structure T_api_Field where
  Name : ByteArray
  Sort' : T_api_Sort
structure T_api_Diff where
  X : Int
  Y : Int
  C : Int
structure T_api_Guard where
  Diffs : (List T_api_Diff)
  Equals : (List (Int × Int))
structure T_api_Decl where
  Name : ByteArray
  Fields : (List T_api_Field)
  First : Int
  Guard : T_api_Guard
structure T_api_Interaction where
  From : Int
  To : Int
  Label : Int
structure T_api_Edge where
  From : Int
  Act : T_api_Interaction
  To : Int
  Again : Bool
structure T_api_Timeout where
  State : Int
  Ticks : Int
  Else : Int
structure T_api_Global where
  Name : ByteArray
  Roles : (List ByteArray)
  Decls : (List T_api_Decl)
  States : Int
  Start : Int
  End : Int
  Edges : (List T_api_Edge)
  Timeouts : (List T_api_Timeout)
structure T_law18_Query where
  State : Int
  Act : T_api_Interaction
  Name : ByteArray
structure T_wire_Reader where
  b' : (List Int)
  at' : Int
  failed' : Bool
structure T_ref01_Reader where
  B : (List Int)
  At : Int
  Failed : Bool
structure T_law18_Change where
  At : Int
  To : Int
def law18_small (N : Nat) : Option T_api_Global :=
 some (⟨(str [80]), ([(str [65]), (str [66])] : List ByteArray), ([(⟨(str [120]), ([] : List T_api_Field), (0 : Int), (⟨([] : List T_api_Diff), ([] : List (Int × Int))⟩ : T_api_Guard)⟩ : T_api_Decl)] : List T_api_Decl), (2 : Int), (0 : Int), (1 : Int), ([(⟨(0 : Int), (⟨(0 : Int), (1 : Int), (0 : Int)⟩ : T_api_Interaction), (1 : Int), false⟩ : T_api_Edge)] : List T_api_Edge), ([] : List T_api_Timeout)⟩ : T_api_Global)
def lex_letter (N : Nat) (c_ : Int) : Option Bool :=
 bif (decide ((97 : Int) ≤ c_)) then (bif (decide (c_ ≤ (122 : Int))) then (some true)
 else bif (decide ((65 : Int) ≤ c_)) then (some (decide (c_ ≤ (90 : Int))))
 else some false)
 else bif (decide ((65 : Int) ≤ c_)) then (some (decide (c_ ≤ (90 : Int))))
 else some false
def lex_digit (N : Nat) (c_ : Int) : Option Bool :=
 bif (decide ((48 : Int) ≤ c_)) then (some (decide (c_ ≤ (57 : Int))))
 else some false
def lex_inner (N : Nat) (c_ : Int) : Option Bool :=
 (lex_letter N c_).bind fun x1 =>
 bif x1 then (some true)
 else (lex_digit N c_).bind fun x2 =>
 bif x2 then (some true)
 else some (c_ == (95 : Int))
def lex_IsName_k1 : Option Bool :=
 some true
def lex_IsName_l2 (N : Nat) (s_ : ByteArray) : Nat → Int → Option Bool
 | 0, _ => none
 | n2 + 1, v19_3 =>
 bif (decide (v19_3 < (s_.size : Int))) then ((sidx s_ v19_3).bind fun x19 =>
 (lex_inner N x19).bind fun x20 =>
 bif (!x20) then (some false)
 else (lex_IsName_l2 N s_ n2) (w64 (v19_3 + (1 : Int))))
 else lex_IsName_k1
def lex_IsName (N : Nat) (s_ : ByteArray) : Option Bool :=
 bif (s_.toList == (str []).toList) then (some false)
 else bif (decide ((s_.size : Int) > (16 : Int))) then (some false)
 else (sidx s_ (0 : Int)).bind fun x1 =>
 (lex_letter N x1).bind fun x2 =>
 bif (!x2) then (some false)
 else lex_IsName_l2 N s_ N (0 : Int)
def slices_Index_string_string_k1 : Option Int :=
 some (-1 : Int)
def slices_Index_string_string_l2 (s_ : (List ByteArray)) (v_ : ByteArray) : Nat → Int → Option Int
 | 0, _ => none
 | n2 + 1, v8_3 =>
 bif (decide (v8_3 < (s_.length : Int))) then ((idx s_ v8_3).bind fun x9 =>
 bif (v_.toList == x9.toList) then (some v8_3)
 else (slices_Index_string_string_l2 s_ v_ n2) (w64 (v8_3 + (1 : Int))))
 else slices_Index_string_string_k1
def slices_Index_string_string (N : Nat) (s_ : (List ByteArray)) (v_ : ByteArray) : Option Int :=
 slices_Index_string_string_l2 s_ v_ N (0 : Int)
def slices_Contains_string_string (N : Nat) (s_ : (List ByteArray)) (v_ : ByteArray) : Option Bool :=
 (slices_Index_string_string N s_ v_).bind fun x1 =>
 some (decide (x1 ≥ (0 : Int)))
def lex_IsWord (N : Nat) (s_ : ByteArray) : Option Bool :=
 (lex_IsName N s_).bind fun x1 =>
 bif x1 then ((slices_Contains_string_string N ([(str [97, 103, 97, 105, 110]), (str [97, 110, 100]), (str [97, 115]), (str [97, 116]), (str [99, 97, 108, 108]), (str [99, 104, 111, 105, 99, 101]), (str [101, 108, 115, 101]), (str [102, 114, 111, 109]), (str [105, 102]), (str [105, 110, 116]), (str [108, 101, 110]), (str [108, 111, 111, 112]), (str [109, 101, 115, 115, 97, 103, 101]), (str [111, 102]), (str [111, 102, 102, 101, 114]), (str [111, 110]), (str [111, 114]), (str [112, 97, 114]), (str [112, 108, 97, 121, 115]), (str [112, 114, 111, 116, 111, 99, 111, 108]), (str [115, 101, 114, 118, 105, 99, 101]), (str [116, 101, 120, 116]), (str [116, 105, 109, 101, 115]), (str [116, 111]), (str [118, 97, 114]), (str [119, 104, 101, 114, 101]), (str [119, 104, 105, 108, 101]), (str [119, 105, 116, 104, 105, 110])] : List ByteArray) s_).bind fun x2 =>
 some (!x2))
 else some false
def global_named_k1 : Option Bool :=
 some true
def global_named_l2 (N : Nat) (g_ : T_api_Global) : Nat → Int → Option Bool
 | 0, _ => none
 | n2 + 1, v24_3 =>
 bif (decide (v24_3 < (g_.Roles.length : Int))) then ((idx g_.Roles v24_3).bind fun x34 =>
 (lex_IsWord N x34).bind fun x35 =>
 bif (!x35) then (some false)
 else (lsl g_.Roles none (some v24_3)).bind fun x36 =>
 (slices_Contains_string_string N x36 x34).bind fun x37 =>
 bif x37 then (some false)
 else (global_named_l2 N g_ n2) (w64 (v24_3 + (1 : Int))))
 else global_named_k1
def global_named (N : Nat) (g_ : T_api_Global) : Option Bool :=
 (lex_IsWord N g_.Name).bind fun x1 =>
 bif (!x1) then (some false)
 else bif (decide ((g_.Roles.length : Int) < (1 : Int))) then (some false)
 else bif (decide ((g_.Roles.length : Int) > (6 : Int))) then (some false)
 else global_named_l2 N g_ N (0 : Int)
def global_numbered_k1 : Option Bool :=
 some true
def global_numbered_l2 (g_ : T_api_Global) : Nat → Int → Option Bool
 | 0, _ => none
 | n2 + 1, v41_3 =>
 bif (decide (v41_3 < (g_.Edges.length : Int))) then ((idx g_.Edges v41_3).bind fun x9 =>
 bif (decide ((minI (minI (minI (minI x9.From x9.To) x9.Act.From) x9.Act.To) x9.Act.Label) < (0 : Int))) then (some false)
 else bif (decide ((maxI x9.From x9.To) ≥ g_.States)) then (some false)
 else bif (decide ((maxI x9.Act.From x9.Act.To) ≥ (g_.Roles.length : Int))) then (some false)
 else bif (x9.Act.From == x9.Act.To) then (some false)
 else bif (decide (x9.Act.Label ≥ (g_.Decls.length : Int))) then (some false)
 else (global_numbered_l2 g_ n2) (w64 (v41_3 + (1 : Int))))
 else global_numbered_k1
def global_numbered (N : Nat) (g_ : T_api_Global) : Option Bool :=
 bif (decide (g_.States < (1 : Int))) then (some false)
 else bif (decide (g_.States > (200 : Int))) then (some false)
 else bif (decide ((minI g_.Start g_.End) < (0 : Int))) then (some false)
 else bif (decide ((maxI g_.Start g_.End) ≥ g_.States)) then (some false)
 else bif (decide ((g_.Edges.length : Int) > (400 : Int))) then (some false)
 else global_numbered_l2 g_ N (0 : Int)
def guard_fields_k1 (v3_1 : (List T_api_Field)) : Option (List T_api_Field) :=
 some v3_1
def guard_fields_l2 (l_ : (List T_api_Decl)) : Nat → (List T_api_Field) → Int → Option (List T_api_Field)
 | 0, _, _ => none
 | n2 + 1, v3_3, v8_3 =>
 bif (decide (v8_3 < (l_.length : Int))) then ((idx l_ v8_3).bind fun x17 =>
 (appL v3_3 x17.Fields).bind fun x18 =>
 (guard_fields_l2 l_ n2) x18 (w64 (v8_3 + (1 : Int))))
 else guard_fields_k1 v3_3
def guard_fields (N : Nat) (l_ : (List T_api_Decl)) : Option (List T_api_Field) :=
 guard_fields_l2 l_ N ([] : List T_api_Field) (0 : Int)
def unicode_utf8_RuneCountInString (N : Nat) (s_ : ByteArray) : Option Int :=
 dead 0
def unicode_utf8_decodeRuneInStringSlow (N : Nat) (s_ : ByteArray) : Option (Int × Int) :=
 bif (decide ((s_.size : Int) < (1 : Int))) then (some ((65533 : Int), (0 : Int)))
 else (sidx s_ (0 : Int)).bind fun x1 =>
 dead 0
def unicode_utf8_DecodeRuneInString (N : Nat) (s_ : ByteArray) : Option (Int × Int) :=
 bif (!(s_.toList == (str []).toList)) then ((sidx s_ (0 : Int)).bind fun x1 =>
 bif (decide (x1 < (128 : Int))) then ((sidx s_ (0 : Int)).bind fun x2 =>
 some ((wk .i32 (x2)), (1 : Int)))
 else (unicode_utf8_decodeRuneInStringSlow N s_).bind fun x3 =>
 some (x3.1, x3.2))
 else (unicode_utf8_decodeRuneInStringSlow N s_).bind fun x4 =>
 some (x4.1, x4.2)
def strings_explode_k1 (v1_2 : Int) (v0_3 : ByteArray) (v6_3 : (List ByteArray)) : Option (List ByteArray) :=
 bif (decide (v1_2 > (0 : Int))) then ((idx v6_3 (w64 (v1_2 - (1 : Int)))).bind fun x19 =>
 some (setL' v6_3 (w64 (v1_2 - (1 : Int))) v0_3))
 else some v6_3
def strings_explode_l2 (N : Nat) (v1_2 : Int) : Nat → ByteArray → (List ByteArray) → Int → Option (List ByteArray)
 | 0, _, _, _ => none
 | n2 + 1, v0_5, v6_5, v7_5 =>
 bif (decide (v7_5 < (w64 (v1_2 - (1 : Int))))) then ((unicode_utf8_DecodeRuneInString N v0_5).bind fun x36 =>
 (ssl v0_5 none (some x36.2)).bind fun x37 =>
 (idx v6_5 v7_5).bind fun x38 =>
 (ssl v0_5 (some x36.2) none).bind fun x39 =>
 (strings_explode_l2 N v1_2 n2) x39 (setL' v6_5 v7_5 x37) (w64 (v7_5 + (1 : Int))))
 else strings_explode_k1 v1_2 v0_5 v6_5
def strings_explode_k3 (N : Nat) (s_ : ByteArray) (v1_2 : Int) : Option (List ByteArray) :=
 (mkL (str []) v1_2 v1_2).bind fun x2 =>
 strings_explode_l2 N v1_2 N s_ x2 (0 : Int)
def strings_explode_k4 (N : Nat) (s_ : ByteArray) (n_ : Int) (x1 : Int) (v18_1 : Bool) : Option (List ByteArray) :=
 bif v18_1 then (strings_explode_k3 N s_ x1)
 else strings_explode_k3 N s_ n_
def strings_explode (N : Nat) (s_ : ByteArray) (n_ : Int) : Option (List ByteArray) :=
 (unicode_utf8_RuneCountInString N s_).bind fun x1 =>
 bif (decide (n_ < (0 : Int))) then (strings_explode_k4 N s_ n_ x1 true)
 else strings_explode_k4 N s_ n_ x1 (decide (n_ > x1))
def internal_stringslite_IndexByte (N : Nat) (s_ : ByteArray) (c_ : Int) : Option Int :=
 some (firstB s_ c_)
def internal_stringslite_Index (N : Nat) (s_ : ByteArray) (substr_ : ByteArray) : Option Int :=
 bif ((substr_.size : Int) == (0 : Int)) then (some (0 : Int))
 else bif (substr_.toList == s_.toList) then (some (0 : Int))
 else bif ((substr_.size : Int) == (1 : Int)) then ((sidx substr_ (0 : Int)).bind fun x1 =>
 (internal_stringslite_IndexByte N s_ x1).bind fun x2 =>
 some x2)
 else bif (decide ((substr_.size : Int) ≥ (s_.size : Int))) then (some (-1 : Int))
 else dead 0
def strings_Index (N : Nat) (s_ : ByteArray) (substr_ : ByteArray) : Option Int :=
 (internal_stringslite_Index N s_ substr_).bind fun x1 =>
 some x1
def strings_Count_l1 (N : Nat) (substr_ : ByteArray) : Nat → ByteArray → Int → Option Int
 | 0, _, _ => none
 | n1 + 1, v0_1, v5_1 =>
 (strings_Index N v0_1 substr_).bind fun x11 =>
 bif (x11 == (-1 : Int)) then (some v5_1)
 else (ssl v0_1 (some (w64 (x11 + (substr_.size : Int)))) none).bind fun x12 =>
 (strings_Count_l1 N substr_ n1) x12 (w64 (v5_1 + (1 : Int)))
def strings_Count (N : Nat) (s_ : ByteArray) (substr_ : ByteArray) : Option Int :=
 bif ((substr_.size : Int) == (0 : Int)) then ((unicode_utf8_RuneCountInString N s_).bind fun x1 =>
 some (w64 (x1 + (1 : Int))))
 else bif ((substr_.size : Int) == (1 : Int)) then ((sidx substr_ (0 : Int)).bind fun x2 =>
 some (countB s_ x2))
 else strings_Count_l1 N substr_ N s_ (0 : Int)
def strings_genSplit_k1 (v0_2 : ByteArray) (v9_2 : (List ByteArray)) (v10_2 : Int) : Option (List ByteArray) :=
 (idx v9_2 v10_2).bind fun x20 =>
 (lsl (setL' v9_2 v10_2 v0_2) none (some (w64 (v10_2 + (1 : Int))))).bind fun x21 =>
 some x21
def strings_genSplit_l2 (N : Nat) (s_ : ByteArray) (sep_ : ByteArray) (sepSave_ : Int) (v3_1 : Int) : Nat → ByteArray → (List ByteArray) → Int → Option (List ByteArray)
 | 0, _, _, _ => none
 | n2 + 1, v0_4, v9_4, v10_4 =>
 bif (decide (v10_4 < (w64 ((minI v3_1 (w64 ((s_.size : Int) + (1 : Int)))) - (1 : Int))))) then ((strings_Index N v0_4 sep_).bind fun x38 =>
 bif (decide (x38 < (0 : Int))) then (strings_genSplit_k1 v0_4 v9_4 v10_4)
 else (ssl v0_4 none (some (w64 (x38 + sepSave_)))).bind fun x39 =>
 (idx v9_4 v10_4).bind fun x40 =>
 (ssl v0_4 (some (w64 (x38 + (sep_.size : Int)))) none).bind fun x41 =>
 (strings_genSplit_l2 N s_ sep_ sepSave_ v3_1 n2) x41 (setL' v9_4 v10_4 x39) (w64 (v10_4 + (1 : Int))))
 else strings_genSplit_k1 v0_4 v9_4 v10_4
def strings_genSplit_k3 (N : Nat) (s_ : ByteArray) (sep_ : ByteArray) (sepSave_ : Int) (v3_1 : Int) : Option (List ByteArray) :=
 (mkL (str []) (minI v3_1 (w64 ((s_.size : Int) + (1 : Int)))) (minI v3_1 (w64 ((s_.size : Int) + (1 : Int))))).bind fun x3 =>
 strings_genSplit_l2 N s_ sep_ sepSave_ v3_1 N s_ x3 (0 : Int)
def strings_genSplit (N : Nat) (s_ : ByteArray) (sep_ : ByteArray) (sepSave_ : Int) (n_ : Int) : Option (List ByteArray) :=
 bif (n_ == (0 : Int)) then (some ([] : List ByteArray))
 else bif (sep_.toList == (str []).toList) then ((strings_explode N s_ n_).bind fun x1 =>
 some x1)
 else bif (decide (n_ < (0 : Int))) then ((strings_Count N s_ sep_).bind fun x42 =>
 strings_genSplit_k3 N s_ sep_ sepSave_ (w64 (x42 + (1 : Int))))
 else strings_genSplit_k3 N s_ sep_ sepSave_ n_
def strings_Split (N : Nat) (s_ : ByteArray) (sep_ : ByteArray) : Option (List ByteArray) :=
 (strings_genSplit N s_ sep_ (0 : Int) (-1 : Int)).bind fun x1 =>
 some x1
def syntax_IsPath_1 (N : Nat) (w_ : ByteArray) : Option Bool :=
 (lex_IsWord N w_).bind fun x1 =>
 some (!x1)
def slices_IndexFunc_string_string_of_syntax_IsPath_1_k1 : Option Int :=
 some (-1 : Int)
def slices_IndexFunc_string_string_of_syntax_IsPath_1_l2 (N : Nat) (s_ : (List ByteArray)) : Nat → Int → Option Int
 | 0, _ => none
 | n2 + 1, v8_3 =>
 bif (decide (v8_3 < (s_.length : Int))) then ((idx s_ v8_3).bind fun x17 =>
 (syntax_IsPath_1 N x17).bind fun x18 =>
 bif x18 then (some v8_3)
 else (slices_IndexFunc_string_string_of_syntax_IsPath_1_l2 N s_ n2) (w64 (v8_3 + (1 : Int))))
 else slices_IndexFunc_string_string_of_syntax_IsPath_1_k1
def slices_IndexFunc_string_string_of_syntax_IsPath_1 (N : Nat) (s_ : (List ByteArray)) : Option Int :=
 slices_IndexFunc_string_string_of_syntax_IsPath_1_l2 N s_ N (0 : Int)
def slices_ContainsFunc_string_string_of_syntax_IsPath_1 (N : Nat) (s_ : (List ByteArray)) : Option Bool :=
 (slices_IndexFunc_string_string_of_syntax_IsPath_1 N s_).bind fun x1 =>
 some (decide (x1 ≥ (0 : Int)))
def syntax_IsPath (N : Nat) (s_ : ByteArray) : Option Bool :=
 bif (decide ((s_.size : Int) ≤ (50 : Int))) then ((strings_Split N s_ (str [46])).bind fun x1 =>
 (slices_ContainsFunc_string_string_of_syntax_IsPath_1 N x1).bind fun x2 =>
 some (!x2))
 else some false
def guard_valid_1_al (N : Nat) (x_ : T_api_Decl) (c0_ : T_api_Decl) : Option Bool :=
 some (x_.Name.toList == c0_.Name.toList)
def slices_IndexFunc_api_Decl_api_Decl_of_guard_valid_1_k1 : Option Int :=
 some (-1 : Int)
def slices_IndexFunc_api_Decl_api_Decl_of_guard_valid_1_l2 (N : Nat) (s_ : (List T_api_Decl)) (c0_ : T_api_Decl) : Nat → Int → Option Int
 | 0, _ => none
 | n2 + 1, v8_3 =>
 bif (decide (v8_3 < (s_.length : Int))) then ((idx s_ v8_3).bind fun x17 =>
 (guard_valid_1_al N x17 c0_).bind fun x18 =>
 bif x18 then (some v8_3)
 else (slices_IndexFunc_api_Decl_api_Decl_of_guard_valid_1_l2 N s_ c0_ n2) (w64 (v8_3 + (1 : Int))))
 else slices_IndexFunc_api_Decl_api_Decl_of_guard_valid_1_k1
def slices_IndexFunc_api_Decl_api_Decl_of_guard_valid_1 (N : Nat) (s_ : (List T_api_Decl)) (c0_ : T_api_Decl) : Option Int :=
 slices_IndexFunc_api_Decl_api_Decl_of_guard_valid_1_l2 N s_ c0_ N (0 : Int)
def slices_ContainsFunc_api_Decl_api_Decl_of_guard_valid_1 (N : Nat) (s_ : (List T_api_Decl)) (c0_ : T_api_Decl) : Option Bool :=
 (slices_IndexFunc_api_Decl_api_Decl_of_guard_valid_1 N s_ c0_).bind fun x1 =>
 some (decide (x1 ≥ (0 : Int)))
def guard_sorted (N : Nat) (s_ : T_api_Sort) : Option Bool :=
 bif (s_.Kind == (1 : Int)) then (bif (decide (s_.Lo ≥ (-1000 : Int))) then (bif (decide (s_.Lo ≤ s_.Hi)) then (some (decide (s_.Hi ≤ (1000 : Int))))
 else some false)
 else some false)
 else bif (s_.Kind == (2 : Int)) then (bif (decide (s_.Lo ≥ (0 : Int))) then (bif (decide (s_.Lo ≤ s_.Hi)) then (some (decide (s_.Hi ≤ (40 : Int))))
 else some false)
 else some false)
 else some false
def guard_valid_2_al (N : Nat) (x_ : T_api_Field) (c0_ : T_api_Field) : Option Bool :=
 some (x_.Name.toList == c0_.Name.toList)
def slices_IndexFunc_api_Field_api_Field_of_guard_valid_2_k1 : Option Int :=
 some (-1 : Int)
def slices_IndexFunc_api_Field_api_Field_of_guard_valid_2_l2 (N : Nat) (s_ : (List T_api_Field)) (c0_ : T_api_Field) : Nat → Int → Option Int
 | 0, _ => none
 | n2 + 1, v8_3 =>
 bif (decide (v8_3 < (s_.length : Int))) then ((idx s_ v8_3).bind fun x17 =>
 (guard_valid_2_al N x17 c0_).bind fun x18 =>
 bif x18 then (some v8_3)
 else (slices_IndexFunc_api_Field_api_Field_of_guard_valid_2_l2 N s_ c0_ n2) (w64 (v8_3 + (1 : Int))))
 else slices_IndexFunc_api_Field_api_Field_of_guard_valid_2_k1
def slices_IndexFunc_api_Field_api_Field_of_guard_valid_2 (N : Nat) (s_ : (List T_api_Field)) (c0_ : T_api_Field) : Option Int :=
 slices_IndexFunc_api_Field_api_Field_of_guard_valid_2_l2 N s_ c0_ N (0 : Int)
def slices_ContainsFunc_api_Field_api_Field_of_guard_valid_2 (N : Nat) (s_ : (List T_api_Field)) (c0_ : T_api_Field) : Option Bool :=
 (slices_IndexFunc_api_Field_api_Field_of_guard_valid_2 N s_ c0_).bind fun x1 =>
 some (decide (x1 ≥ (0 : Int)))
def guard_guarded_k1 : Option Bool :=
 some true
def guard_guarded_k3 (v58_14 : Int) (ag14 : Int → Option Bool) : Option Bool :=
 ag14 (w64 (v58_14 + (1 : Int)))
def guard_guarded_l4 (all_ : (List T_api_Field)) (v58_14 : Int) (ag14 : Int → Option Bool) (x127 : (Int × Int)) : Nat → Int → Option Bool
 | 0, _ => none
 | n15 + 1, v63_23 =>
 bif (decide (v63_23 < (2 : Int))) then ((idx ([x127.1, x127.2] : List Int) v63_23).bind fun x142 =>
 bif (decide (x142 < (0 : Int))) then (some false)
 else bif (decide (x142 ≥ (all_.length : Int))) then (some false)
 else (idx all_ x142).bind fun x143 =>
 bif (x143.Sort'.Kind != (2 : Int)) then (some false)
 else (guard_guarded_l4 all_ v58_14 ag14 x127 n15) (w64 (v63_23 + (1 : Int))))
 else guard_guarded_k3 v58_14 ag14
def guard_guarded_l2 (N : Nat) (g_ : T_api_Guard) (all_ : (List T_api_Field)) : Nat → Int → Option Bool
 | 0, _ => none
 | n13 + 1, v58_14 =>
 bif (decide (v58_14 < (g_.Equals.length : Int))) then ((idx g_.Equals v58_14).bind fun x127 =>
 guard_guarded_l4 all_ v58_14 (guard_guarded_l2 N g_ all_ n13) x127 N (0 : Int))
 else guard_guarded_k1
def guard_guarded_k5 (N : Nat) (g_ : T_api_Guard) (all_ : (List T_api_Field)) : Option Bool :=
 guard_guarded_l2 N g_ all_ N (0 : Int)
def guard_guarded_l6 (N : Nat) (g_ : T_api_Guard) (all_ : (List T_api_Field)) : Nat → Int → Option Bool
 | 0, _ => none
 | n16 + 1, v24_24 =>
 bif (decide (v24_24 < (g_.Diffs.length : Int))) then ((idx g_.Diffs v24_24).bind fun x148 =>
 bif (decide ((minI x148.X x148.Y) < (-1 : Int))) then (some false)
 else bif (decide ((maxI x148.X x148.Y) ≥ (all_.length : Int))) then (some false)
 else bif (decide (x148.C < (-20000 : Int))) then (some false)
 else bif (decide (x148.C > (20000 : Int))) then (some false)
 else (guard_guarded_l6 N g_ all_ n16) (w64 (v24_24 + (1 : Int))))
 else guard_guarded_k5 N g_ all_
def guard_guarded (N : Nat) (g_ : T_api_Guard) (all_ : (List T_api_Field)) : Option Bool :=
 bif (decide ((g_.Diffs.length : Int) > (20 : Int))) then (some false)
 else bif (decide ((g_.Equals.length : Int) > (20 : Int))) then (some false)
 else guard_guarded_l6 N g_ all_ N (0 : Int)
def guard_valid_k1 : Option Bool :=
 some true
def guard_valid_k3 (N : Nat) (x1 : (List T_api_Field)) (v4_12 : Int) (v19_12 : Int) (ag12 : Int → Int → Option Bool) (x367 : T_api_Decl) : Option Bool :=
 (guard_guarded N x367.Guard x1).bind fun x391 =>
 bif (!x391) then (some false)
 else ag12 (w64 (v4_12 + (x367.Fields.length : Int))) (w64 (v19_12 + (1 : Int)))
def guard_valid_l4 (N : Nat) (x1 : (List T_api_Field)) (v4_12 : Int) (v19_12 : Int) (ag12 : Int → Int → Option Bool) (x367 : T_api_Decl) : Nat → Int → Option Bool
 | 0, _ => none
 | n14 + 1, v55_21 =>
 bif (decide (v55_21 < (x367.Fields.length : Int))) then ((idx x367.Fields v55_21).bind fun x412 =>
 (lex_IsWord N x412.Name).bind fun x413 =>
 bif (!x413) then (some false)
 else (guard_sorted N x412.Sort').bind fun x414 =>
 bif (!x414) then (some false)
 else (lsl x367.Fields none (some v55_21)).bind fun x415 =>
 (slices_ContainsFunc_api_Field_api_Field_of_guard_valid_2 N x415 x412).bind fun x416 =>
 bif x416 then (some false)
 else (guard_valid_l4 N x1 v4_12 v19_12 ag12 x367 n14) (w64 (v55_21 + (1 : Int))))
 else guard_valid_k3 N x1 v4_12 v19_12 ag12 x367
def guard_valid_l2 (N : Nat) (l_ : (List T_api_Decl)) (x1 : (List T_api_Field)) : Nat → Int → Int → Option Bool
 | 0, _, _ => none
 | n12 + 1, v4_12, v19_12 =>
 bif (decide (v19_12 < (l_.length : Int))) then ((idx l_ v19_12).bind fun x367 =>
 (syntax_IsPath N x367.Name).bind fun x368 =>
 bif (!x368) then (some false)
 else bif (decide ((x367.Fields.length : Int) > (4 : Int))) then (some false)
 else bif (x367.First != v4_12) then (some false)
 else (lsl l_ none (some v19_12)).bind fun x369 =>
 (slices_ContainsFunc_api_Decl_api_Decl_of_guard_valid_1 N x369 x367).bind fun x370 =>
 bif x370 then (some false)
 else guard_valid_l4 N x1 v4_12 v19_12 (guard_valid_l2 N l_ x1 n12) x367 N (0 : Int))
 else guard_valid_k1
def guard_valid (N : Nat) (l_ : (List T_api_Decl)) : Option Bool :=
 bif (decide ((l_.length : Int) > (40 : Int))) then (some false)
 else (guard_fields N l_).bind fun x1 =>
 bif (decide ((x1.length : Int) > (24 : Int))) then (some false)
 else guard_valid_l2 N l_ x1 N (0 : Int) (0 : Int)
def guard_bounds_k1 (v3_3 : (List T_api_Diff)) : Option (List T_api_Diff) :=
 some v3_3
def guard_bounds_l2 (d_ : T_api_Decl) : Nat → (List T_api_Diff) → Int → Option (List T_api_Diff)
 | 0, _, _ => none
 | n3 + 1, v3_5, v46_5 =>
 bif (decide (v46_5 < (d_.Guard.Equals.length : Int))) then ((idx d_.Guard.Equals v46_5).bind fun x26 =>
 (appL v3_5 ([(⟨x26.1, x26.2, (0 : Int)⟩ : T_api_Diff), (⟨x26.2, x26.1, (0 : Int)⟩ : T_api_Diff)] : List T_api_Diff)).bind fun x27 =>
 (guard_bounds_l2 d_ n3) x27 (w64 (v46_5 + (1 : Int))))
 else guard_bounds_k1 v3_5
def guard_bounds_k3 (N : Nat) (d_ : T_api_Decl) (v3_1 : (List T_api_Diff)) : Option (List T_api_Diff) :=
 (appL v3_1 d_.Guard.Diffs).bind fun x9 =>
 guard_bounds_l2 d_ N x9 (0 : Int)
def guard_bounds_l4 (N : Nat) (d_ : T_api_Decl) : Nat → (List T_api_Diff) → Int → Option (List T_api_Diff)
 | 0, _, _ => none
 | n4 + 1, v3_6, v11_6 =>
 bif (decide (v11_6 < (d_.Fields.length : Int))) then ((idx d_.Fields v11_6).bind fun x36 =>
 (appL v3_6 ([(⟨(w64 (d_.First + v11_6)), (-1 : Int), x36.Sort'.Hi⟩ : T_api_Diff), (⟨(-1 : Int), (w64 (d_.First + v11_6)), (w64 (0 - x36.Sort'.Lo))⟩ : T_api_Diff)] : List T_api_Diff)).bind fun x37 =>
 (guard_bounds_l4 N d_ n4) x37 (w64 (v11_6 + (1 : Int))))
 else guard_bounds_k3 N d_ v3_6
def guard_bounds (N : Nat) (d_ : T_api_Decl) : Option (List T_api_Diff) :=
 guard_bounds_l4 N d_ N ([] : List T_api_Diff) (0 : Int)
def guard_Bounds (N : Nat) (decls_ : (List T_api_Decl)) (label_ : Int) : Option ((List T_api_Diff) × Int) :=
 bif (decide (label_ < (0 : Int))) then (some (([] : List T_api_Diff), (1 : Int)))
 else bif (decide (label_ ≥ (decls_.length : Int))) then (some (([] : List T_api_Diff), (1 : Int)))
 else (guard_valid N decls_).bind fun x1 =>
 bif (!x1) then (some (([] : List T_api_Diff), (1 : Int)))
 else (idx decls_ label_).bind fun x2 =>
 (guard_bounds N x2).bind fun x3 =>
 some (x3, (0 : Int))
def global_declared (N : Nat) (l_ : (List T_api_Decl)) : Option Bool :=
 bif ((l_.length : Int) == (0 : Int)) then (some true)
 else (guard_Bounds N l_ (0 : Int)).bind fun x1 =>
 some (x1.2 == (0 : Int))
def global_ordered_k1 : Option Bool :=
 some true
def global_ordered_k3 (v10_33 : Int) (ag33 : Int → Option Bool) : Option Bool :=
 ag33 (w64 (v10_33 + (1 : Int)))
def global_ordered_k5 (x74 : T_api_Edge) (v34_60 : Int) (ag60 : Int → Option Bool) (x83 : T_api_Edge) (v68_63 : Bool) : Option Bool :=
 bif v68_63 then (some false)
 else bif x74.Again then (bif (x83.To == x74.From) then (bif (x74.Act.From != x83.Act.From) then (some false)
 else bif (x74.Act.Label != x83.Act.Label) then (some false)
 else ag60 (w64 (v34_60 + (1 : Int))))
 else ag60 (w64 (v34_60 + (1 : Int))))
 else ag60 (w64 (v34_60 + (1 : Int)))
def global_ordered_l4 (g_ : T_api_Global) (v10_33 : Int) (ag33 : Int → Option Bool) (x74 : T_api_Edge) : Nat → Int → Option Bool
 | 0, _ => none
 | n14 + 1, v34_60 =>
 bif (decide (v34_60 < (g_.Edges.length : Int))) then ((idx g_.Edges v34_60).bind fun x83 =>
 bif (v10_33 != v34_60) then (bif (x74.From == x83.From) then (bif ((x74.Act.From == x83.Act.From) && ((x74.Act.To == x83.Act.To) && ((x74.Act.Label == x83.Act.Label) && true))) then (global_ordered_k5 x74 v34_60 (global_ordered_l4 g_ v10_33 ag33 x74 n14) x83 true)
 else bif (x74.Act.From != x83.Act.From) then (global_ordered_k5 x74 v34_60 (global_ordered_l4 g_ v10_33 ag33 x74 n14) x83 true)
 else global_ordered_k5 x74 v34_60 (global_ordered_l4 g_ v10_33 ag33 x74 n14) x83 x74.Again)
 else global_ordered_k5 x74 v34_60 (global_ordered_l4 g_ v10_33 ag33 x74 n14) x83 false)
 else global_ordered_k5 x74 v34_60 (global_ordered_l4 g_ v10_33 ag33 x74 n14) x83 false)
 else global_ordered_k3 v10_33 ag33
def global_ordered_k6 (N : Nat) (g_ : T_api_Global) (v10_33 : Int) (ag33 : Int → Option Bool) (x74 : T_api_Edge) (v30_54 : Bool) : Option Bool :=
 bif v30_54 then (some false)
 else global_ordered_l4 g_ v10_33 ag33 x74 N (0 : Int)
def global_ordered_l2 (N : Nat) (g_ : T_api_Global) : Nat → Int → Option Bool
 | 0, _ => none
 | n12 + 1, v10_33 =>
 bif (decide (v10_33 < (g_.Edges.length : Int))) then ((idx g_.Edges v10_33).bind fun x74 =>
 bif (x74.From == g_.End) then (global_ordered_k6 N g_ v10_33 (global_ordered_l2 N g_ n12) x74 true)
 else bif x74.Again then (global_ordered_k6 N g_ v10_33 (global_ordered_l2 N g_ n12) x74 (x74.From == g_.Start))
 else global_ordered_k6 N g_ v10_33 (global_ordered_l2 N g_ n12) x74 false)
 else global_ordered_k1
def global_ordered (N : Nat) (g_ : T_api_Global) : Option Bool :=
 global_ordered_l2 N g_ N (0 : Int)
def global_timed_k1 : Option Bool :=
 some true
def global_timed_l2 (g_ : T_api_Global) : Nat → Int → Int → Option Bool
 | 0, _, _ => none
 | n2 + 1, v3_3, v9_3 =>
 bif (decide (v9_3 < (g_.Timeouts.length : Int))) then ((idx g_.Timeouts v9_3).bind fun x41 =>
 bif (decide (x41.State ≤ v3_3)) then (some false)
 else bif (decide (x41.Ticks < (1 : Int))) then (some false)
 else bif (decide (x41.Ticks > (1000 : Int))) then (some false)
 else bif (decide (x41.Else < (0 : Int))) then (some false)
 else bif (decide (x41.Else ≥ (g_.Edges.length : Int))) then (some false)
 else (idx g_.Edges x41.Else).bind fun x44 =>
 bif (x44.From != x41.State) then (some false)
 else (idx g_.Edges x41.Else).bind fun x45 =>
 bif x45.Again then (some false)
 else (global_timed_l2 g_ n2) x41.State (w64 (v9_3 + (1 : Int))))
 else global_timed_k1
def global_timed (N : Nat) (g_ : T_api_Global) : Option Bool :=
 global_timed_l2 g_ N (-1 : Int) (0 : Int)
def math_bits_Mul64 (N : Nat) (x_ : Int) (y_ : Int) : Option (Int × Int) :=
 (binO .and .u64 x_ (4294967295 : Int)).bind fun x1 =>
 (binO .shr .u64 x_ (32 : Int)).bind fun x2 =>
 (binO .and .u64 y_ (4294967295 : Int)).bind fun x3 =>
 (binO .shr .u64 y_ (32 : Int)).bind fun x4 =>
 (binO .shr .u64 (wk .u64 (x1 * x3)) (32 : Int)).bind fun x5 =>
 (binO .and .u64 (wk .u64 ((wk .u64 (x2 * x3)) + x5)) (4294967295 : Int)).bind fun x6 =>
 (binO .shr .u64 (wk .u64 ((wk .u64 (x2 * x3)) + x5)) (32 : Int)).bind fun x7 =>
 (binO .shr .u64 (wk .u64 (x6 + (wk .u64 (x1 * x4)))) (32 : Int)).bind fun x8 =>
 some ((wk .u64 ((wk .u64 ((wk .u64 (x2 * x4)) + x7)) + x8)), (wk .u64 (x_ * y_)))
def math_bits_Mul (N : Nat) (x_ : Int) (y_ : Int) : Option (Int × Int) :=
 (math_bits_Mul64 N x_ y_).bind fun x1 =>
 some (x1.1, x1.2)
def slices_Repeat_int_int_k1 (v7_4 : (List Int)) : Option (List Int) :=
 some v7_4
def slices_Repeat_int_int_l2 : Nat → (List Int) → Int → Option (List Int)
 | 0, _, _ => none
 | n2 + 1, v7_6, v8_6 =>
 bif (decide (v8_6 < (v7_6.length : Int))) then ((lsl v7_6 (some v8_6) none).bind fun x111 =>
 (lsl v7_6 none (some v8_6)).bind fun x115 =>
 (cpL v7_6 (some v8_6) none x115).bind fun x117 =>
 (slices_Repeat_int_int_l2 n2) x117.1 (w64 (v8_6 + x117.2)))
 else slices_Repeat_int_int_k1 v7_6
def slices_Repeat_int_int_k3 (N : Nat) (x_ : (List Int)) (x1 : Int × Int) (v26_2 : Bool) : Option (List Int) :=
 bif v26_2 then (dead 0)
 else (mkL (0 : Int) (w64 (x1.2)) (w64 (x1.2))).bind fun x2 =>
 (cpL x2 none none x_).bind fun x3 =>
 slices_Repeat_int_int_l2 N x3.1 x3.2
def slices_Repeat_int_int (N : Nat) (x_ : (List Int)) (count_ : Int) : Option (List Int) :=
 bif (decide (count_ < (0 : Int))) then (dead 0)
 else (math_bits_Mul N (wk .u64 ((x_.length : Int))) (wk .u64 (count_))).bind fun x1 =>
 bif (decide (x1.1 > (0 : Int))) then (slices_Repeat_int_int_k3 N x_ x1 true)
 else slices_Repeat_int_int_k3 N x_ x1 (decide (x1.2 > (9223372036854775807 : Int)))
def global_spread_k1 (v7_1 : (List Int)) : Option (List Int) :=
 some v7_1
def global_spread_k3 (ag30 : (List Int) → (List Int) → Option (List Int)) (v7_49 : (List Int)) (v8_49 : (List Int)) : Option (List Int) :=
 (lsl v8_49 (some (1 : Int)) none).bind fun x425 =>
 ag30 v7_49 x425
def global_spread_k5 (v7_54 : (List Int)) (v8_54 : (List Int)) (v30_54 : Int) (ag54 : (List Int) → (List Int) → Int → Option (List Int)) (v11_57 : Int) (v12_57 : Int) : Option (List Int) :=
 (idx v8_54 (0 : Int)).bind fun x451 =>
 bif (v11_57 == x451) then ((idx v7_54 v12_57).bind fun x452 =>
 bif (decide (x452 < (0 : Int))) then ((idx v7_54 v11_57).bind fun x453 =>
 (idx v7_54 v12_57).bind fun x454 =>
 (appL v8_54 ([v12_57] : List Int)).bind fun x455 =>
 ag54 (setL' v7_54 v12_57 (w64 (x453 + (1 : Int)))) x455 (w64 (v30_54 + (1 : Int))))
 else ag54 v7_54 v8_54 (w64 (v30_54 + (1 : Int))))
 else ag54 v7_54 v8_54 (w64 (v30_54 + (1 : Int)))
def global_spread_l4 (g_ : T_api_Global) (back_ : Bool) (ag30 : (List Int) → (List Int) → Option (List Int)) : Nat → (List Int) → (List Int) → Int → Option (List Int)
 | 0, _, _, _ => none
 | n14 + 1, v7_54, v8_54, v30_54 =>
 bif (decide (v30_54 < (g_.Edges.length : Int))) then ((idx g_.Edges v30_54).bind fun x450 =>
 bif back_ then (global_spread_k5 v7_54 v8_54 v30_54 (global_spread_l4 g_ back_ ag30 n14) x450.To x450.From)
 else global_spread_k5 v7_54 v8_54 v30_54 (global_spread_l4 g_ back_ ag30 n14) x450.From x450.To)
 else global_spread_k3 ag30 v7_54 v8_54
def global_spread_l2 (N : Nat) (g_ : T_api_Global) (back_ : Bool) : Nat → (List Int) → (List Int) → Option (List Int)
 | 0, _, _ => none
 | n12 + 1, v7_30, v8_30 =>
 bif (decide ((v8_30.length : Int) > (0 : Int))) then (global_spread_l4 g_ back_ (global_spread_l2 N g_ back_ n12) N v7_30 v8_30 (0 : Int))
 else global_spread_k1 v7_30
def global_spread (N : Nat) (g_ : T_api_Global) (from_ : Int) (back_ : Bool) : Option (List Int) :=
 (slices_Repeat_int_int N ([(-1 : Int)] : List Int) g_.States).bind fun x1 =>
 (idx x1 from_).bind fun x2 =>
 global_spread_l2 N g_ back_ N (setL' x1 from_ (0 : Int)) ([from_] : List Int)
def slices_Index_int_int_k1 : Option Int :=
 some (-1 : Int)
def slices_Index_int_int_l2 (s_ : (List Int)) (v_ : Int) : Nat → Int → Option Int
 | 0, _ => none
 | n2 + 1, v8_3 =>
 bif (decide (v8_3 < (s_.length : Int))) then ((idx s_ v8_3).bind fun x9 =>
 bif (v_ == x9) then (some v8_3)
 else (slices_Index_int_int_l2 s_ v_ n2) (w64 (v8_3 + (1 : Int))))
 else slices_Index_int_int_k1
def slices_Index_int_int (N : Nat) (s_ : (List Int)) (v_ : Int) : Option Int :=
 slices_Index_int_int_l2 s_ v_ N (0 : Int)
def slices_Contains_int_int (N : Nat) (s_ : (List Int)) (v_ : Int) : Option Bool :=
 (slices_Index_int_int N s_ v_).bind fun x1 =>
 some (decide (x1 ≥ (0 : Int)))
def global_Valid (N : Nat) (g_ : T_api_Global) : Option Bool :=
 (global_named N g_).bind fun x1 =>
 bif x1 then ((global_numbered N g_).bind fun x2 =>
 bif x2 then ((global_declared N g_.Decls).bind fun x3 =>
 bif x3 then ((global_ordered N g_).bind fun x4 =>
 bif x4 then ((global_timed N g_).bind fun x5 =>
 bif x5 then ((global_spread N g_ g_.Start false).bind fun x6 =>
 (slices_Contains_int_int N x6 (-1 : Int)).bind fun x7 =>
 bif (!x7) then ((global_spread N g_ g_.End true).bind fun x8 =>
 (slices_Contains_int_int N x8 (-1 : Int)).bind fun x9 =>
 some (!x9))
 else some false)
 else some false)
 else some false)
 else some false)
 else some false)
 else some false
def cmp_isNaN_int (N : Nat) (x_ : Int) : Option Bool :=
 some (x_ != x_)
def cmp_Compare_int (N : Nat) (x_ : Int) (y_ : Int) : Option Int :=
 (cmp_isNaN_int N x_).bind fun x1 =>
 (cmp_isNaN_int N y_).bind fun x2 =>
 bif x1 then (bif x2 then (some (0 : Int))
 else some (-1 : Int))
 else bif x2 then (some (1 : Int))
 else bif (decide (x_ < y_)) then (some (-1 : Int))
 else bif (decide (x_ > y_)) then (some (1 : Int))
 else some (0 : Int)
def cmp_Or_int_k1 : Option Int :=
 some (0 : Int)
def cmp_Or_int_l2 (vals_ : (List Int)) : Nat → Int → Option Int
 | 0, _ => none
 | n2 + 1, v8_3 =>
 bif (decide (v8_3 < (vals_.length : Int))) then ((idx vals_ v8_3).bind fun x9 =>
 bif (x9 != (0 : Int)) then (some x9)
 else (cmp_Or_int_l2 vals_ n2) (w64 (v8_3 + (1 : Int))))
 else cmp_Or_int_k1
def cmp_Or_int (N : Nat) (vals_ : (List Int)) : Option Int :=
 cmp_Or_int_l2 vals_ N (0 : Int)
def global_Edges_1_al (N : Nat) (i_ : Int) (k_ : Int) (c0_ : T_api_Global) : Option Int :=
 (idx c0_.Edges i_).bind fun x4 =>
 (idx c0_.Edges k_).bind fun x11 =>
 (cmp_Compare_int N x4.Act.To x11.Act.To).bind fun x23 =>
 (cmp_Compare_int N x4.Act.Label x11.Act.Label).bind fun x29 =>
 (cmp_Or_int N ([x23, x29] : List Int)).bind fun x32 =>
 some x32
def slices_insertionSortCmpFunc_int_of_global_Edges_1_k1 (vk0_1 : (List Int)) : Option (List Int) :=
 some vk0_1
def slices_insertionSortCmpFunc_int_of_global_Edges_1_k3 (v8_12 : Int) (ag12 : (List Int) → Int → Option (List Int)) (vk0_19 : (List Int)) : Option (List Int) :=
 ag12 vk0_19 (w64 (v8_12 + (1 : Int)))
def slices_insertionSortCmpFunc_int_of_global_Edges_1_l4 (N : Nat) (a_ : Int) (c0_ : T_api_Global) (v8_12 : Int) (ag12 : (List Int) → Int → Option (List Int)) : Nat → (List Int) → Int → Option (List Int)
 | 0, _, _ => none
 | n14 + 1, vk0_21, v9_21 =>
 bif (decide (v9_21 > a_)) then ((idx vk0_21 v9_21).bind fun x4170 =>
 (idx vk0_21 (w64 (v9_21 - (1 : Int)))).bind fun x4176 =>
 (global_Edges_1_al N x4170 x4176 c0_).bind fun x4179 =>
 bif (decide (x4179 < (0 : Int))) then ((idx vk0_21 (w64 (v9_21 - (1 : Int)))).bind fun x4191 =>
 (idx vk0_21 v9_21).bind fun x4196 =>
 (idx vk0_21 v9_21).bind fun x4199 =>
 (idx (setL' vk0_21 v9_21 x4191) (w64 (v9_21 - (1 : Int)))).bind fun x4202 =>
 (slices_insertionSortCmpFunc_int_of_global_Edges_1_l4 N a_ c0_ v8_12 ag12 n14) (setL' (setL' vk0_21 v9_21 x4191) (w64 (v9_21 - (1 : Int))) x4196) (w64 (v9_21 - (1 : Int))))
 else slices_insertionSortCmpFunc_int_of_global_Edges_1_k3 v8_12 ag12 vk0_21)
 else slices_insertionSortCmpFunc_int_of_global_Edges_1_k3 v8_12 ag12 vk0_21
def slices_insertionSortCmpFunc_int_of_global_Edges_1_l2 (N : Nat) (a_ : Int) (b_ : Int) (c0_ : T_api_Global) : Nat → (List Int) → Int → Option (List Int)
 | 0, _, _ => none
 | n12 + 1, vk0_12, v8_12 =>
 bif (decide (v8_12 < b_)) then (slices_insertionSortCmpFunc_int_of_global_Edges_1_l4 N a_ c0_ v8_12 (slices_insertionSortCmpFunc_int_of_global_Edges_1_l2 N a_ b_ c0_ n12) N vk0_12 v8_12)
 else slices_insertionSortCmpFunc_int_of_global_Edges_1_k1 vk0_12
def slices_insertionSortCmpFunc_int_of_global_Edges_1 (N : Nat) (data_ : (List Int)) (a_ : Int) (b_ : Int) (c0_ : T_api_Global) : Option (List Int) :=
 slices_insertionSortCmpFunc_int_of_global_Edges_1_l2 N a_ b_ c0_ N data_ (w64 (a_ + (1 : Int)))
def slices_swapRangeCmpFunc_int_of_global_Edges_1_k1 (vk0_1 : (List Int)) : Option (List Int) :=
 some vk0_1
def slices_swapRangeCmpFunc_int_of_global_Edges_1_l2 (a_ : Int) (b_ : Int) (n_ : Int) : Nat → (List Int) → Int → Option (List Int)
 | 0, _, _ => none
 | n2 + 1, vk0_3, v10_3 =>
 bif (decide (v10_3 < n_)) then ((idx vk0_3 (w64 (b_ + v10_3))).bind fun x237 =>
 (idx vk0_3 (w64 (a_ + v10_3))).bind fun x244 =>
 (idx vk0_3 (w64 (a_ + v10_3))).bind fun x247 =>
 (idx (setL' vk0_3 (w64 (a_ + v10_3)) x237) (w64 (b_ + v10_3))).bind fun x250 =>
 (slices_swapRangeCmpFunc_int_of_global_Edges_1_l2 a_ b_ n_ n2) (setL' (setL' vk0_3 (w64 (a_ + v10_3)) x237) (w64 (b_ + v10_3)) x244) (w64 (v10_3 + (1 : Int))))
 else slices_swapRangeCmpFunc_int_of_global_Edges_1_k1 vk0_3
def slices_swapRangeCmpFunc_int_of_global_Edges_1 (N : Nat) (data_ : (List Int)) (a_ : Int) (b_ : Int) (n_ : Int) (c0_ : T_api_Global) : Option (List Int) :=
 slices_swapRangeCmpFunc_int_of_global_Edges_1_l2 a_ b_ n_ N data_ (0 : Int)
def slices_rotateCmpFunc_int_of_global_Edges_1_k1 (N : Nat) (m_ : Int) (c0_ : T_api_Global) (vk0_1 : (List Int)) (v10_1 : Int) : Option (List Int) :=
 (slices_swapRangeCmpFunc_int_of_global_Edges_1 N vk0_1 (w64 (m_ - v10_1)) m_ v10_1 c0_).bind fun x9 =>
 some x9
def slices_rotateCmpFunc_int_of_global_Edges_1_l2 (N : Nat) (m_ : Int) (c0_ : T_api_Global) : Nat → (List Int) → Int → Int → Option (List Int)
 | 0, _, _, _ => none
 | n2 + 1, vk0_3, v10_3, v11_3 =>
 bif (v10_3 != v11_3) then (bif (decide (v10_3 > v11_3)) then ((slices_swapRangeCmpFunc_int_of_global_Edges_1 N vk0_3 (w64 (m_ - v10_3)) m_ v11_3 c0_).bind fun x18 =>
 (slices_rotateCmpFunc_int_of_global_Edges_1_l2 N m_ c0_ n2) x18 (w64 (v10_3 - v11_3)) v11_3)
 else (slices_swapRangeCmpFunc_int_of_global_Edges_1 N vk0_3 (w64 (m_ - v10_3)) (w64 ((w64 (m_ + v11_3)) - v10_3)) v10_3 c0_).bind fun x19 =>
 (slices_rotateCmpFunc_int_of_global_Edges_1_l2 N m_ c0_ n2) x19 v10_3 (w64 (v11_3 - v10_3)))
 else slices_rotateCmpFunc_int_of_global_Edges_1_k1 N m_ c0_ vk0_3 v10_3
def slices_rotateCmpFunc_int_of_global_Edges_1 (N : Nat) (data_ : (List Int)) (a_ : Int) (m_ : Int) (b_ : Int) (c0_ : T_api_Global) : Option (List Int) :=
 slices_rotateCmpFunc_int_of_global_Edges_1_l2 N m_ c0_ N data_ (w64 (m_ - a_)) (w64 (b_ - m_))
def slices_symMergeCmpFunc_int_of_global_Edges_1_k1 (vk0_3 : (List Int)) : Option (List Int) :=
 some vk0_3
def slices_symMergeCmpFunc_int_of_global_Edges_1_l2 (v10_1 : Int) : Nat → (List Int) → Int → Option (List Int)
 | 0, _, _ => none
 | n3 + 1, vk0_5, v13_5 =>
 bif (decide (v13_5 < (w64 (v10_1 - (1 : Int))))) then ((idx vk0_5 (w64 (v13_5 + (1 : Int)))).bind fun x245 =>
 (idx vk0_5 v13_5).bind fun x250 =>
 (idx vk0_5 v13_5).bind fun x253 =>
 (idx (setL' vk0_5 v13_5 x245) (w64 (v13_5 + (1 : Int)))).bind fun x256 =>
 (slices_symMergeCmpFunc_int_of_global_Edges_1_l2 v10_1 n3) (setL' (setL' vk0_5 v13_5 x245) (w64 (v13_5 + (1 : Int))) x250) (w64 (v13_5 + (1 : Int))))
 else slices_symMergeCmpFunc_int_of_global_Edges_1_k1 vk0_5
def slices_symMergeCmpFunc_int_of_global_Edges_1_k3 (N : Nat) (data_ : (List Int)) (a_ : Int) (v10_1 : Int) : Option (List Int) :=
 slices_symMergeCmpFunc_int_of_global_Edges_1_l2 v10_1 N data_ a_
def slices_symMergeCmpFunc_int_of_global_Edges_1_l4 (N : Nat) (data_ : (List Int)) (a_ : Int) (c0_ : T_api_Global) : Nat → Int → Int → Option (List Int)
 | 0, _, _ => none
 | n4 + 1, v10_6, v11_6 =>
 bif (decide (v10_6 < v11_6)) then ((binO .shr .u64 (wk .u64 ((w64 (v10_6 + v11_6)))) (1 : Int)).bind fun x319 =>
 (idx data_ (w64 (x319))).bind fun x323 =>
 (idx data_ a_).bind fun x328 =>
 (global_Edges_1_al N x323 x328 c0_).bind fun x331 =>
 bif (decide (x331 < (0 : Int))) then ((slices_symMergeCmpFunc_int_of_global_Edges_1_l4 N data_ a_ c0_ n4) (w64 ((w64 (x319)) + (1 : Int))) v11_6)
 else (slices_symMergeCmpFunc_int_of_global_Edges_1_l4 N data_ a_ c0_ n4) v10_6 (w64 (x319)))
 else slices_symMergeCmpFunc_int_of_global_Edges_1_k3 N data_ a_ v10_6
def slices_symMergeCmpFunc_int_of_global_Edges_1_k5 (vk0_9 : (List Int)) : Option (List Int) :=
 some vk0_9
def slices_symMergeCmpFunc_int_of_global_Edges_1_l6 (v14_7 : Int) : Nat → (List Int) → Int → Option (List Int)
 | 0, _, _ => none
 | n7 + 1, vk0_11, v17_11 =>
 bif (decide (v17_11 > v14_7)) then ((idx vk0_11 (w64 (v17_11 - (1 : Int)))).bind fun x582 =>
 (idx vk0_11 v17_11).bind fun x587 =>
 (idx vk0_11 v17_11).bind fun x590 =>
 (idx (setL' vk0_11 v17_11 x582) (w64 (v17_11 - (1 : Int)))).bind fun x593 =>
 (slices_symMergeCmpFunc_int_of_global_Edges_1_l6 v14_7 n7) (setL' (setL' vk0_11 v17_11 x582) (w64 (v17_11 - (1 : Int))) x587) (w64 (v17_11 - (1 : Int))))
 else slices_symMergeCmpFunc_int_of_global_Edges_1_k5 vk0_11
def slices_symMergeCmpFunc_int_of_global_Edges_1_k7 (N : Nat) (data_ : (List Int)) (m_ : Int) (v14_7 : Int) : Option (List Int) :=
 slices_symMergeCmpFunc_int_of_global_Edges_1_l6 v14_7 N data_ m_
def slices_symMergeCmpFunc_int_of_global_Edges_1_l8 (N : Nat) (data_ : (List Int)) (m_ : Int) (c0_ : T_api_Global) : Nat → Int → Int → Option (List Int)
 | 0, _, _ => none
 | n8 + 1, v14_12, v15_12 =>
 bif (decide (v14_12 < v15_12)) then ((binO .shr .u64 (wk .u64 ((w64 (v14_12 + v15_12)))) (1 : Int)).bind fun x660 =>
 (idx data_ m_).bind fun x664 =>
 (idx data_ (w64 (x660))).bind fun x669 =>
 (global_Edges_1_al N x664 x669 c0_).bind fun x672 =>
 bif (!(decide (x672 < (0 : Int)))) then ((slices_symMergeCmpFunc_int_of_global_Edges_1_l8 N data_ m_ c0_ n8) (w64 ((w64 (x660)) + (1 : Int))) v15_12)
 else (slices_symMergeCmpFunc_int_of_global_Edges_1_l8 N data_ m_ c0_ n8) v14_12 (w64 (x660)))
 else slices_symMergeCmpFunc_int_of_global_Edges_1_k7 N data_ m_ v14_12
def slices_symMergeCmpFunc_int_of_global_Edges_1_k9 (rc_slices_symMergeCmpFunc_int_of_global_Edges_1 : (List Int) → Int → Int → Int → T_api_Global → Option (List Int)) (m_ : Int) (b_ : Int) (c0_ : T_api_Global) (x676 : Int) (v20_14 : Int) (vk0_19 : (List Int)) : Option (List Int) :=
 bif (decide ((w64 (x676)) < (w64 ((w64 ((w64 (x676)) + m_)) - v20_14)))) then (bif (decide ((w64 ((w64 ((w64 (x676)) + m_)) - v20_14)) < b_)) then ((rc_slices_symMergeCmpFunc_int_of_global_Edges_1 vk0_19 (w64 (x676)) (w64 ((w64 ((w64 (x676)) + m_)) - v20_14)) b_ c0_).bind fun x751 =>
 some x751)
 else some vk0_19)
 else some vk0_19
def slices_symMergeCmpFunc_int_of_global_Edges_1_k10 (rc_slices_symMergeCmpFunc_int_of_global_Edges_1 : (List Int) → Int → Int → Int → T_api_Global → Option (List Int)) (a_ : Int) (m_ : Int) (b_ : Int) (c0_ : T_api_Global) (x676 : Int) (v20_14 : Int) (vk0_17 : (List Int)) (v199_18 : Bool) : Option (List Int) :=
 bif v199_18 then ((rc_slices_symMergeCmpFunc_int_of_global_Edges_1 vk0_17 a_ v20_14 (w64 (x676)) c0_).bind fun x752 =>
 slices_symMergeCmpFunc_int_of_global_Edges_1_k9 rc_slices_symMergeCmpFunc_int_of_global_Edges_1 m_ b_ c0_ x676 v20_14 x752)
 else slices_symMergeCmpFunc_int_of_global_Edges_1_k9 rc_slices_symMergeCmpFunc_int_of_global_Edges_1 m_ b_ c0_ x676 v20_14 vk0_17
def slices_symMergeCmpFunc_int_of_global_Edges_1_k11 (rc_slices_symMergeCmpFunc_int_of_global_Edges_1 : (List Int) → Int → Int → Int → T_api_Global → Option (List Int)) (a_ : Int) (m_ : Int) (b_ : Int) (c0_ : T_api_Global) (x676 : Int) (v20_14 : Int) (vk0_17 : (List Int)) : Option (List Int) :=
 bif (decide (a_ < v20_14)) then (slices_symMergeCmpFunc_int_of_global_Edges_1_k10 rc_slices_symMergeCmpFunc_int_of_global_Edges_1 a_ m_ b_ c0_ x676 v20_14 vk0_17 (decide (v20_14 < (w64 (x676)))))
 else slices_symMergeCmpFunc_int_of_global_Edges_1_k10 rc_slices_symMergeCmpFunc_int_of_global_Edges_1 a_ m_ b_ c0_ x676 v20_14 vk0_17 false
def slices_symMergeCmpFunc_int_of_global_Edges_1_k12 (N : Nat) (rc_slices_symMergeCmpFunc_int_of_global_Edges_1 : (List Int) → Int → Int → Int → T_api_Global → Option (List Int)) (data_ : (List Int)) (a_ : Int) (m_ : Int) (b_ : Int) (c0_ : T_api_Global) (x676 : Int) (v20_14 : Int) (v185_16 : Bool) : Option (List Int) :=
 bif v185_16 then ((slices_rotateCmpFunc_int_of_global_Edges_1 N data_ v20_14 m_ (w64 ((w64 ((w64 (x676)) + m_)) - v20_14)) c0_).bind fun x753 =>
 slices_symMergeCmpFunc_int_of_global_Edges_1_k11 rc_slices_symMergeCmpFunc_int_of_global_Edges_1 a_ m_ b_ c0_ x676 v20_14 x753)
 else slices_symMergeCmpFunc_int_of_global_Edges_1_k11 rc_slices_symMergeCmpFunc_int_of_global_Edges_1 a_ m_ b_ c0_ x676 v20_14 data_
def slices_symMergeCmpFunc_int_of_global_Edges_1_k13 (N : Nat) (rc_slices_symMergeCmpFunc_int_of_global_Edges_1 : (List Int) → Int → Int → Int → T_api_Global → Option (List Int)) (data_ : (List Int)) (a_ : Int) (m_ : Int) (b_ : Int) (c0_ : T_api_Global) (x676 : Int) (v20_14 : Int) : Option (List Int) :=
 bif (decide (v20_14 < m_)) then (slices_symMergeCmpFunc_int_of_global_Edges_1_k12 N rc_slices_symMergeCmpFunc_int_of_global_Edges_1 data_ a_ m_ b_ c0_ x676 v20_14 (decide (m_ < (w64 ((w64 ((w64 (x676)) + m_)) - v20_14)))))
 else slices_symMergeCmpFunc_int_of_global_Edges_1_k12 N rc_slices_symMergeCmpFunc_int_of_global_Edges_1 data_ a_ m_ b_ c0_ x676 v20_14 false
def slices_symMergeCmpFunc_int_of_global_Edges_1_l14 (N : Nat) (rc_slices_symMergeCmpFunc_int_of_global_Edges_1 : (List Int) → Int → Int → Int → T_api_Global → Option (List Int)) (data_ : (List Int)) (a_ : Int) (m_ : Int) (b_ : Int) (c0_ : T_api_Global) (x676 : Int) : Nat → Int → Int → Option (List Int)
 | 0, _, _ => none
 | n10 + 1, v20_20, v21_20 =>
 bif (decide (v20_20 < v21_20)) then ((binO .shr .u64 (wk .u64 ((w64 (v20_20 + v21_20)))) (1 : Int)).bind fun x826 =>
 (idx data_ (w64 ((w64 ((w64 ((w64 (x676)) + m_)) - (1 : Int))) - (w64 (x826))))).bind fun x832 =>
 (idx data_ (w64 (x826))).bind fun x837 =>
 (global_Edges_1_al N x832 x837 c0_).bind fun x840 =>
 bif (!(decide (x840 < (0 : Int)))) then ((slices_symMergeCmpFunc_int_of_global_Edges_1_l14 N rc_slices_symMergeCmpFunc_int_of_global_Edges_1 data_ a_ m_ b_ c0_ x676 n10) (w64 ((w64 (x826)) + (1 : Int))) v21_20)
 else (slices_symMergeCmpFunc_int_of_global_Edges_1_l14 N rc_slices_symMergeCmpFunc_int_of_global_Edges_1 data_ a_ m_ b_ c0_ x676 n10) v20_20 (w64 (x826)))
 else slices_symMergeCmpFunc_int_of_global_Edges_1_k13 N rc_slices_symMergeCmpFunc_int_of_global_Edges_1 data_ a_ m_ b_ c0_ x676 v20_20
def slices_symMergeCmpFunc_int_of_global_Edges_1_k15 (N : Nat) (rc_slices_symMergeCmpFunc_int_of_global_Edges_1 : (List Int) → Int → Int → Int → T_api_Global → Option (List Int)) (data_ : (List Int)) (a_ : Int) (m_ : Int) (b_ : Int) (c0_ : T_api_Global) (x676 : Int) (v20_13 : Int) (v21_13 : Int) : Option (List Int) :=
 slices_symMergeCmpFunc_int_of_global_Edges_1_l14 N rc_slices_symMergeCmpFunc_int_of_global_Edges_1 data_ a_ m_ b_ c0_ x676 N v20_13 v21_13
def slices_symMergeCmpFunc_int_of_global_Edges_1_b (N : Nat) (rc_slices_symMergeCmpFunc_int_of_global_Edges_1 : (List Int) → Int → Int → Int → T_api_Global → Option (List Int)) (data_ : (List Int)) (a_ : Int) (m_ : Int) (b_ : Int) (c0_ : T_api_Global) : Option (List Int) :=
 bif ((w64 (m_ - a_)) == (1 : Int)) then (slices_symMergeCmpFunc_int_of_global_Edges_1_l4 N data_ a_ c0_ N m_ b_)
 else bif ((w64 (b_ - m_)) == (1 : Int)) then (slices_symMergeCmpFunc_int_of_global_Edges_1_l8 N data_ m_ c0_ N a_ m_)
 else (binO .shr .u64 (wk .u64 ((w64 (a_ + b_)))) (1 : Int)).bind fun x676 =>
 bif (decide (m_ > (w64 (x676)))) then (slices_symMergeCmpFunc_int_of_global_Edges_1_k15 N rc_slices_symMergeCmpFunc_int_of_global_Edges_1 data_ a_ m_ b_ c0_ x676 (w64 ((w64 ((w64 (x676)) + m_)) - b_)) (w64 (x676)))
 else slices_symMergeCmpFunc_int_of_global_Edges_1_k15 N rc_slices_symMergeCmpFunc_int_of_global_Edges_1 data_ a_ m_ b_ c0_ x676 a_ m_
def slices_symMergeCmpFunc_int_of_global_Edges_1_r : Nat → (List Int) → Int → Int → Int → T_api_Global → Option (List Int)
 | 0, _, _, _, _, _ => none
 | N + 1, a0, a1, a2, a3, a4 => slices_symMergeCmpFunc_int_of_global_Edges_1_b N (slices_symMergeCmpFunc_int_of_global_Edges_1_r N) a0 a1 a2 a3 a4
def slices_symMergeCmpFunc_int_of_global_Edges_1 (N : Nat) (data_ : (List Int)) (a_ : Int) (m_ : Int) (b_ : Int) (c0_ : T_api_Global) : Option (List Int) := slices_symMergeCmpFunc_int_of_global_Edges_1_r N data_ a_ m_ b_ c0_
def slices_stableCmpFunc_int_of_global_Edges_1_k1 (vk0_3 : (List Int)) : Option (List Int) :=
 some vk0_3
def slices_stableCmpFunc_int_of_global_Edges_1_k3 (N : Nat) (n_ : Int) (c0_ : T_api_Global) (v6_14 : Int) (ag14 : (List Int) → Int → Option (List Int)) (vk0_21 : (List Int)) (v7_21 : Int) : Option (List Int) :=
 bif (decide ((w64 (v7_21 + v6_14)) < n_)) then ((slices_symMergeCmpFunc_int_of_global_Edges_1 N vk0_21 v7_21 (w64 (v7_21 + v6_14)) n_ c0_).bind fun x83 =>
 ag14 x83 (w64 (v6_14 * (2 : Int))))
 else ag14 vk0_21 (w64 (v6_14 * (2 : Int)))
def slices_stableCmpFunc_int_of_global_Edges_1_l4 (N : Nat) (n_ : Int) (c0_ : T_api_Global) (v6_14 : Int) (ag14 : (List Int) → Int → Option (List Int)) : Nat → (List Int) → Int → Int → Option (List Int)
 | 0, _, _, _ => none
 | n15 + 1, vk0_23, v7_23, v8_23 =>
 bif (decide (v8_23 ≤ n_)) then ((slices_symMergeCmpFunc_int_of_global_Edges_1 N vk0_23 v7_23 (w64 (v7_23 + v6_14)) v8_23 c0_).bind fun x88 =>
 (slices_stableCmpFunc_int_of_global_Edges_1_l4 N n_ c0_ v6_14 ag14 n15) x88 v8_23 (w64 (v8_23 + (w64 ((2 : Int) * v6_14)))))
 else slices_stableCmpFunc_int_of_global_Edges_1_k3 N n_ c0_ v6_14 ag14 vk0_23 v7_23
def slices_stableCmpFunc_int_of_global_Edges_1_l2 (N : Nat) (n_ : Int) (c0_ : T_api_Global) : Nat → (List Int) → Int → Option (List Int)
 | 0, _, _ => none
 | n13 + 1, vk0_14, v6_14 =>
 bif (decide (v6_14 < n_)) then (slices_stableCmpFunc_int_of_global_Edges_1_l4 N n_ c0_ v6_14 (slices_stableCmpFunc_int_of_global_Edges_1_l2 N n_ c0_ n13) N vk0_14 (0 : Int) (w64 ((2 : Int) * v6_14)))
 else slices_stableCmpFunc_int_of_global_Edges_1_k1 vk0_14
def slices_stableCmpFunc_int_of_global_Edges_1_k5 (N : Nat) (n_ : Int) (c0_ : T_api_Global) (vk0_1 : (List Int)) (v7_1 : Int) : Option (List Int) :=
 (slices_insertionSortCmpFunc_int_of_global_Edges_1 N vk0_1 v7_1 n_ c0_).bind fun x5 =>
 slices_stableCmpFunc_int_of_global_Edges_1_l2 N n_ c0_ N x5 (20 : Int)
def slices_stableCmpFunc_int_of_global_Edges_1_l6 (N : Nat) (n_ : Int) (c0_ : T_api_Global) : Nat → (List Int) → Int → Int → Option (List Int)
 | 0, _, _, _ => none
 | n16 + 1, vk0_24, v7_24, v8_24 =>
 bif (decide (v8_24 ≤ n_)) then ((slices_insertionSortCmpFunc_int_of_global_Edges_1 N vk0_24 v7_24 v8_24 c0_).bind fun x93 =>
 (slices_stableCmpFunc_int_of_global_Edges_1_l6 N n_ c0_ n16) x93 v8_24 (w64 (v8_24 + (20 : Int))))
 else slices_stableCmpFunc_int_of_global_Edges_1_k5 N n_ c0_ vk0_24 v7_24
def slices_stableCmpFunc_int_of_global_Edges_1 (N : Nat) (data_ : (List Int)) (n_ : Int) (c0_ : T_api_Global) : Option (List Int) :=
 slices_stableCmpFunc_int_of_global_Edges_1_l6 N n_ c0_ N data_ (0 : Int) (20 : Int)
def slices_SortStableFunc_int_int_of_global_Edges_1 (N : Nat) (x_ : (List Int)) (c0_ : T_api_Global) : Option (List Int) :=
 (slices_stableCmpFunc_int_of_global_Edges_1 N x_ (x_.length : Int) c0_).bind fun x1 =>
 some x1
def global_Edges_k1 (N : Nat) (g_ : T_api_Global) (v5_1 : (List Int)) : Option (List Int) :=
 (slices_SortStableFunc_int_int_of_global_Edges_1 N v5_1 g_).bind fun x9 =>
 some x9
def global_Edges_l2 (N : Nat) (g_ : T_api_Global) (state_ : Int) : Nat → (List Int) → Int → Option (List Int)
 | 0, _, _ => none
 | n2 + 1, v5_3, v11_3 =>
 bif (decide (v11_3 < (g_.Edges.length : Int))) then ((idx g_.Edges v11_3).bind fun x18 =>
 bif (x18.From == state_) then ((appL v5_3 ([v11_3] : List Int)).bind fun x19 =>
 (global_Edges_l2 N g_ state_ n2) x19 (w64 (v11_3 + (1 : Int))))
 else (global_Edges_l2 N g_ state_ n2) v5_3 (w64 (v11_3 + (1 : Int))))
 else global_Edges_k1 N g_ v5_3
def global_Edges (N : Nat) (g_ : T_api_Global) (state_ : Int) : Option (List Int) :=
 global_Edges_l2 N g_ state_ N ([] : List Int) (0 : Int)
def slices_Clone_api_Interaction_api_Interaction (N : Nat) (s_ : (List T_api_Interaction)) : Option (List T_api_Interaction) :=
 (appL ([] : List T_api_Interaction) s_).bind fun x1 =>
 some x1
def global_Words_k1 (v6_1 : (List (List T_api_Interaction))) : Option ((List (List T_api_Interaction)) × Int) :=
 some (v6_1, (0 : Int))
def global_Words_k3 (v8_12 : Int) (ag12 : (List (List T_api_Interaction)) → (List Int) → Int → Option ((List (List T_api_Interaction)) × Int)) (v6_19 : (List (List T_api_Interaction))) (v7_19 : (List Int)) : Option ((List (List T_api_Interaction)) × Int) :=
 bif (decide ((v6_19.length : Int) > (3000 : Int))) then (some (([] : List (List T_api_Interaction)), (6 : Int)))
 else ag12 v6_19 v7_19 (w64 (v8_12 + (1 : Int)))
def global_Words_l4 (N : Nat) (g_ : T_api_Global) (v8_12 : Int) (ag12 : (List (List T_api_Interaction)) → (List Int) → Int → Option ((List (List T_api_Interaction)) × Int)) (x1722 : (List Int)) : Nat → (List (List T_api_Interaction)) → (List Int) → Int → Option ((List (List T_api_Interaction)) × Int)
 | 0, _, _, _ => none
 | n14 + 1, v6_21, v7_21, v44_21 =>
 bif (decide (v44_21 < (x1722.length : Int))) then ((idx x1722 v44_21).bind fun x1926 =>
 (idx v6_21 v8_12).bind fun x1930 =>
 (slices_Clone_api_Interaction_api_Interaction N x1930).bind fun x1933 =>
 (idx g_.Edges x1926).bind fun x1938 =>
 (appL x1933 ([x1938.Act] : List T_api_Interaction)).bind fun x1943 =>
 (appL v6_21 ([x1943] : List (List T_api_Interaction))).bind fun x1946 =>
 (idx g_.Edges x1926).bind fun x1949 =>
 (appL v7_21 ([x1949.To] : List Int)).bind fun x1950 =>
 (global_Words_l4 N g_ v8_12 ag12 x1722 n14) x1946 x1950 (w64 (v44_21 + (1 : Int))))
 else global_Words_k3 v8_12 ag12 v6_21 v7_21
def global_Words_l2 (N : Nat) (g_ : T_api_Global) (n_ : Int) : Nat → (List (List T_api_Interaction)) → (List Int) → Int → Option ((List (List T_api_Interaction)) × Int)
 | 0, _, _, _ => none
 | n12 + 1, v6_12, v7_12, v8_12 =>
 bif (decide (v8_12 < (v6_12.length : Int))) then ((idx v6_12 v8_12).bind fun x1715 =>
 bif ((x1715.length : Int) == n_) then ((global_Words_l2 N g_ n_ n12) v6_12 v7_12 (w64 (v8_12 + (1 : Int))))
 else (idx v7_12 v8_12).bind fun x1719 =>
 (global_Edges N g_ x1719).bind fun x1722 =>
 global_Words_l4 N g_ v8_12 (global_Words_l2 N g_ n_ n12) x1722 N v6_12 v7_12 (0 : Int))
 else global_Words_k1 v6_12
def global_Words (N : Nat) (g_ : T_api_Global) (n_ : Int) : Option ((List (List T_api_Interaction)) × Int) :=
 (global_Valid N g_).bind fun x1 =>
 bif (!x1) then (some (([] : List (List T_api_Interaction)), (1 : Int)))
 else bif (decide (n_ < (0 : Int))) then (some (([] : List (List T_api_Interaction)), (2 : Int)))
 else bif (decide (n_ > (12 : Int))) then (some (([] : List (List T_api_Interaction)), (2 : Int)))
 else global_Words_l2 N g_ n_ N ([([] : List T_api_Interaction)] : List (List T_api_Interaction)) ([g_.Start] : List Int) (0 : Int)
def global_Next_k1 : Option (Int × Bool) :=
 some ((0 : Int), false)
def global_Next_l2 (g_ : T_api_Global) (state_ : Int) (act_ : T_api_Interaction) : Nat → Int → Option (Int × Bool)
 | 0, _ => none
 | n2 + 1, v13_3 =>
 bif (decide (v13_3 < (g_.Edges.length : Int))) then ((idx g_.Edges v13_3).bind fun x9 =>
 bif (x9.From == state_) then (bif ((x9.Act.From == act_.From) && ((x9.Act.To == act_.To) && ((x9.Act.Label == act_.Label) && true))) then (some (x9.To, true))
 else (global_Next_l2 g_ state_ act_ n2) (w64 (v13_3 + (1 : Int))))
 else (global_Next_l2 g_ state_ act_ n2) (w64 (v13_3 + (1 : Int))))
 else global_Next_k1
def global_Next (N : Nat) (g_ : T_api_Global) (state_ : Int) (act_ : T_api_Interaction) : Option (Int × Bool) :=
 global_Next_l2 g_ state_ act_ N (0 : Int)
def slices_Equal_string_string_k1 : Option Bool :=
 some true
def slices_Equal_string_string_l2 (s1_ : (List ByteArray)) (s2_ : (List ByteArray)) : Nat → Int → Option Bool
 | 0, _ => none
 | n2 + 1, v13_3 =>
 bif (decide (v13_3 < (s1_.length : Int))) then ((idx s1_ v13_3).bind fun x35 =>
 (idx s2_ v13_3).bind fun x36 =>
 bif (!(x35.toList == x36.toList)) then (some false)
 else (slices_Equal_string_string_l2 s1_ s2_ n2) (w64 (v13_3 + (1 : Int))))
 else slices_Equal_string_string_k1
def slices_Equal_string_string (N : Nat) (s1_ : (List ByteArray)) (s2_ : (List ByteArray)) : Option Bool :=
 bif ((s1_.length : Int) != (s2_.length : Int)) then (some false)
 else slices_Equal_string_string_l2 s1_ s2_ N (0 : Int)
def slices_Equal_api_Field_api_Field_k1 : Option Bool :=
 some true
def slices_Equal_api_Field_api_Field_l2 (s1_ : (List T_api_Field)) (s2_ : (List T_api_Field)) : Nat → Int → Option Bool
 | 0, _ => none
 | n2 + 1, v13_3 =>
 bif (decide (v13_3 < (s1_.length : Int))) then ((idx s1_ v13_3).bind fun x35 =>
 (idx s2_ v13_3).bind fun x36 =>
 bif (!((x35.Name.toList == x36.Name.toList) && (((x35.Sort'.Kind == x36.Sort'.Kind) && ((x35.Sort'.Lo == x36.Sort'.Lo) && ((x35.Sort'.Hi == x36.Sort'.Hi) && true))) && true))) then (some false)
 else (slices_Equal_api_Field_api_Field_l2 s1_ s2_ n2) (w64 (v13_3 + (1 : Int))))
 else slices_Equal_api_Field_api_Field_k1
def slices_Equal_api_Field_api_Field (N : Nat) (s1_ : (List T_api_Field)) (s2_ : (List T_api_Field)) : Option Bool :=
 bif ((s1_.length : Int) != (s2_.length : Int)) then (some false)
 else slices_Equal_api_Field_api_Field_l2 s1_ s2_ N (0 : Int)
def slices_Equal_api_Diff_api_Diff_k1 : Option Bool :=
 some true
def slices_Equal_api_Diff_api_Diff_l2 (s1_ : (List T_api_Diff)) (s2_ : (List T_api_Diff)) : Nat → Int → Option Bool
 | 0, _ => none
 | n2 + 1, v13_3 =>
 bif (decide (v13_3 < (s1_.length : Int))) then ((idx s1_ v13_3).bind fun x35 =>
 (idx s2_ v13_3).bind fun x36 =>
 bif (!((x35.X == x36.X) && ((x35.Y == x36.Y) && ((x35.C == x36.C) && true)))) then (some false)
 else (slices_Equal_api_Diff_api_Diff_l2 s1_ s2_ n2) (w64 (v13_3 + (1 : Int))))
 else slices_Equal_api_Diff_api_Diff_k1
def slices_Equal_api_Diff_api_Diff (N : Nat) (s1_ : (List T_api_Diff)) (s2_ : (List T_api_Diff)) : Option Bool :=
 bif ((s1_.length : Int) != (s2_.length : Int)) then (some false)
 else slices_Equal_api_Diff_api_Diff_l2 s1_ s2_ N (0 : Int)
def slices_Equal_2_int_2_int_k1 : Option Bool :=
 some true
def slices_Equal_2_int_2_int_l2 (s1_ : (List (Int × Int))) (s2_ : (List (Int × Int))) : Nat → Int → Option Bool
 | 0, _ => none
 | n2 + 1, v13_3 =>
 bif (decide (v13_3 < (s1_.length : Int))) then ((idx s1_ v13_3).bind fun x35 =>
 (idx s2_ v13_3).bind fun x36 =>
 bif (!((x35.1 == x36.1) && ((x35.2 == x36.2) && true))) then (some false)
 else (slices_Equal_2_int_2_int_l2 s1_ s2_ n2) (w64 (v13_3 + (1 : Int))))
 else slices_Equal_2_int_2_int_k1
def slices_Equal_2_int_2_int (N : Nat) (s1_ : (List (Int × Int))) (s2_ : (List (Int × Int))) : Option Bool :=
 bif ((s1_.length : Int) != (s2_.length : Int)) then (some false)
 else slices_Equal_2_int_2_int_l2 s1_ s2_ N (0 : Int)
def global_sameDecl (N : Nat) (a_ : T_api_Decl) (b_ : T_api_Decl) : Option Bool :=
 bif (a_.Name.toList == b_.Name.toList) then (bif (a_.First == b_.First) then ((slices_Equal_api_Field_api_Field N a_.Fields b_.Fields).bind fun x1 =>
 bif x1 then ((slices_Equal_api_Diff_api_Diff N a_.Guard.Diffs b_.Guard.Diffs).bind fun x2 =>
 bif x2 then ((slices_Equal_2_int_2_int N a_.Guard.Equals b_.Guard.Equals).bind fun x3 =>
 some x3)
 else some false)
 else some false)
 else some false)
 else some false
def slices_EqualFunc_api_Decl_api_Decl_api_Decl_api_Decl_of_global_sameDecl_k1 : Option Bool :=
 some true
def slices_EqualFunc_api_Decl_api_Decl_api_Decl_api_Decl_of_global_sameDecl_l2 (N : Nat) (s1_ : (List T_api_Decl)) (s2_ : (List T_api_Decl)) : Nat → Int → Option Bool
 | 0, _ => none
 | n2 + 1, v17_3 =>
 bif (decide (v17_3 < (s1_.length : Int))) then ((idx s1_ v17_3).bind fun x25 =>
 (idx s2_ v17_3).bind fun x26 =>
 (global_sameDecl N x25 x26).bind fun x27 =>
 bif (!x27) then (some false)
 else (slices_EqualFunc_api_Decl_api_Decl_api_Decl_api_Decl_of_global_sameDecl_l2 N s1_ s2_ n2) (w64 (v17_3 + (1 : Int))))
 else slices_EqualFunc_api_Decl_api_Decl_api_Decl_api_Decl_of_global_sameDecl_k1
def slices_EqualFunc_api_Decl_api_Decl_api_Decl_api_Decl_of_global_sameDecl (N : Nat) (s1_ : (List T_api_Decl)) (s2_ : (List T_api_Decl)) : Option Bool :=
 bif ((s1_.length : Int) != (s2_.length : Int)) then (some false)
 else slices_EqualFunc_api_Decl_api_Decl_api_Decl_api_Decl_of_global_sameDecl_l2 N s1_ s2_ N (0 : Int)
def slices_Equal_api_Edge_api_Edge_k1 : Option Bool :=
 some true
def slices_Equal_api_Edge_api_Edge_l2 (s1_ : (List T_api_Edge)) (s2_ : (List T_api_Edge)) : Nat → Int → Option Bool
 | 0, _ => none
 | n2 + 1, v13_3 =>
 bif (decide (v13_3 < (s1_.length : Int))) then ((idx s1_ v13_3).bind fun x35 =>
 (idx s2_ v13_3).bind fun x36 =>
 bif (!((x35.From == x36.From) && (((x35.Act.From == x36.Act.From) && ((x35.Act.To == x36.Act.To) && ((x35.Act.Label == x36.Act.Label) && true))) && ((x35.To == x36.To) && ((x35.Again == x36.Again) && true))))) then (some false)
 else (slices_Equal_api_Edge_api_Edge_l2 s1_ s2_ n2) (w64 (v13_3 + (1 : Int))))
 else slices_Equal_api_Edge_api_Edge_k1
def slices_Equal_api_Edge_api_Edge (N : Nat) (s1_ : (List T_api_Edge)) (s2_ : (List T_api_Edge)) : Option Bool :=
 bif ((s1_.length : Int) != (s2_.length : Int)) then (some false)
 else slices_Equal_api_Edge_api_Edge_l2 s1_ s2_ N (0 : Int)
def slices_Equal_api_Timeout_api_Timeout_k1 : Option Bool :=
 some true
def slices_Equal_api_Timeout_api_Timeout_l2 (s1_ : (List T_api_Timeout)) (s2_ : (List T_api_Timeout)) : Nat → Int → Option Bool
 | 0, _ => none
 | n2 + 1, v13_3 =>
 bif (decide (v13_3 < (s1_.length : Int))) then ((idx s1_ v13_3).bind fun x35 =>
 (idx s2_ v13_3).bind fun x36 =>
 bif (!((x35.State == x36.State) && ((x35.Ticks == x36.Ticks) && ((x35.Else == x36.Else) && true)))) then (some false)
 else (slices_Equal_api_Timeout_api_Timeout_l2 s1_ s2_ n2) (w64 (v13_3 + (1 : Int))))
 else slices_Equal_api_Timeout_api_Timeout_k1
def slices_Equal_api_Timeout_api_Timeout (N : Nat) (s1_ : (List T_api_Timeout)) (s2_ : (List T_api_Timeout)) : Option Bool :=
 bif ((s1_.length : Int) != (s2_.length : Int)) then (some false)
 else slices_Equal_api_Timeout_api_Timeout_l2 s1_ s2_ N (0 : Int)
def global_Equal (N : Nat) (a_ : T_api_Global) (b_ : T_api_Global) : Option Bool :=
 bif (a_.Name.toList == b_.Name.toList) then ((slices_Equal_string_string N a_.Roles b_.Roles).bind fun x1 =>
 bif x1 then ((slices_EqualFunc_api_Decl_api_Decl_api_Decl_api_Decl_of_global_sameDecl N a_.Decls b_.Decls).bind fun x2 =>
 bif x2 then (bif (a_.States == b_.States) then (bif (a_.Start == b_.Start) then (bif (a_.End == b_.End) then ((slices_Equal_api_Edge_api_Edge N a_.Edges b_.Edges).bind fun x3 =>
 bif x3 then ((slices_Equal_api_Timeout_api_Timeout N a_.Timeouts b_.Timeouts).bind fun x4 =>
 some x4)
 else some false)
 else some false)
 else some false)
 else some false)
 else some false)
 else some false)
 else some false
def global_Label_1_al (N : Nat) (d_ : T_api_Decl) (c0_ : ByteArray) : Option Bool :=
 some (d_.Name.toList == c0_.toList)
def slices_IndexFunc_api_Decl_api_Decl_of_global_Label_1_k1 : Option Int :=
 some (-1 : Int)
def slices_IndexFunc_api_Decl_api_Decl_of_global_Label_1_l2 (N : Nat) (s_ : (List T_api_Decl)) (c0_ : ByteArray) : Nat → Int → Option Int
 | 0, _ => none
 | n2 + 1, v8_3 =>
 bif (decide (v8_3 < (s_.length : Int))) then ((idx s_ v8_3).bind fun x17 =>
 (global_Label_1_al N x17 c0_).bind fun x18 =>
 bif x18 then (some v8_3)
 else (slices_IndexFunc_api_Decl_api_Decl_of_global_Label_1_l2 N s_ c0_ n2) (w64 (v8_3 + (1 : Int))))
 else slices_IndexFunc_api_Decl_api_Decl_of_global_Label_1_k1
def slices_IndexFunc_api_Decl_api_Decl_of_global_Label_1 (N : Nat) (s_ : (List T_api_Decl)) (c0_ : ByteArray) : Option Int :=
 slices_IndexFunc_api_Decl_api_Decl_of_global_Label_1_l2 N s_ c0_ N (0 : Int)
def global_Label (N : Nat) (g_ : T_api_Global) (name_ : ByteArray) : Option Int :=
 (slices_IndexFunc_api_Decl_api_Decl_of_global_Label_1 N g_.Decls name_).bind fun x1 =>
 some x1
def slices_Clone_string_string (N : Nat) (s_ : (List ByteArray)) : Option (List ByteArray) :=
 (appL ([] : List ByteArray) s_).bind fun x1 =>
 some x1
def slices_Clone_api_Field_api_Field (N : Nat) (s_ : (List T_api_Field)) : Option (List T_api_Field) :=
 (appL ([] : List T_api_Field) s_).bind fun x1 =>
 some x1
def slices_Clone_api_Diff_api_Diff (N : Nat) (s_ : (List T_api_Diff)) : Option (List T_api_Diff) :=
 (appL ([] : List T_api_Diff) s_).bind fun x1 =>
 some x1
def slices_Clone_2_int_2_int (N : Nat) (s_ : (List (Int × Int))) : Option (List (Int × Int)) :=
 (appL ([] : List (Int × Int)) s_).bind fun x1 =>
 some x1
def global_Canonical_1_al (N : Nat) (t_ : T_api_Timeout) (c0_ : Int) : Option Bool :=
 some (t_.State == c0_)
def slices_IndexFunc_api_Timeout_api_Timeout_of_global_Canonical_1_k1 : Option Int :=
 some (-1 : Int)
def slices_IndexFunc_api_Timeout_api_Timeout_of_global_Canonical_1_l2 (N : Nat) (s_ : (List T_api_Timeout)) (c0_ : Int) : Nat → Int → Option Int
 | 0, _ => none
 | n2 + 1, v8_3 =>
 bif (decide (v8_3 < (s_.length : Int))) then ((idx s_ v8_3).bind fun x17 =>
 (global_Canonical_1_al N x17 c0_).bind fun x18 =>
 bif x18 then (some v8_3)
 else (slices_IndexFunc_api_Timeout_api_Timeout_of_global_Canonical_1_l2 N s_ c0_ n2) (w64 (v8_3 + (1 : Int))))
 else slices_IndexFunc_api_Timeout_api_Timeout_of_global_Canonical_1_k1
def slices_IndexFunc_api_Timeout_api_Timeout_of_global_Canonical_1 (N : Nat) (s_ : (List T_api_Timeout)) (c0_ : Int) : Option Int :=
 slices_IndexFunc_api_Timeout_api_Timeout_of_global_Canonical_1_l2 N s_ c0_ N (0 : Int)
def global_copied_k1 (g_ : T_api_Global) (x5 : (List ByteArray)) (vb3_7_2_1 : (List T_api_Decl)) : Option T_api_Global :=
 some (⟨g_.Name, x5, vb3_7_2_1, (0 : Int), (0 : Int), (0 : Int), ([] : List T_api_Edge), ([] : List T_api_Timeout)⟩ : T_api_Global)
def global_copied_l2 (N : Nat) (g_ : T_api_Global) (x5 : (List ByteArray)) : Nat → (List T_api_Decl) → Int → Option T_api_Global
 | 0, _, _ => none
 | n2 + 1, vb3_7_2_3, v15_3 =>
 bif (decide (v15_3 < (g_.Decls.length : Int))) then ((idx g_.Decls v15_3).bind fun x138 =>
 (slices_Clone_api_Field_api_Field N x138.Fields).bind fun x139 =>
 (slices_Clone_api_Diff_api_Diff N x138.Guard.Diffs).bind fun x143 =>
 (slices_Clone_2_int_2_int N x138.Guard.Equals).bind fun x148 =>
 (appL vb3_7_2_3 ([(⟨x138.Name, x139, x138.First, (⟨x143, x148⟩ : T_api_Guard)⟩ : T_api_Decl)] : List T_api_Decl)).bind fun x153 =>
 (global_copied_l2 N g_ x5 n2) x153 (w64 (v15_3 + (1 : Int))))
 else global_copied_k1 g_ x5 vb3_7_2_3
def global_copied (N : Nat) (g_ : T_api_Global) : Option T_api_Global :=
 (slices_Clone_string_string N g_.Roles).bind fun x5 =>
 global_copied_l2 N g_ x5 N ([] : List T_api_Decl) (0 : Int)
def global_Canonical_k1 (g_ : T_api_Global) (x2 : T_api_Global) (vb4_10_3_1 : Int) (vb4_10_6_1 : (List T_api_Edge)) (vb4_10_7_1 : (List T_api_Timeout)) (v5_1 : (List Int)) : Option (T_api_Global × Int) :=
 (idx v5_1 g_.End).bind fun x2225 =>
 some ((⟨x2.Name, x2.Roles, x2.Decls, vb4_10_3_1, x2.Start, x2225, vb4_10_6_1, vb4_10_7_1⟩ : T_api_Global), (0 : Int))
def global_Canonical_k3 (vb4_10_3_66 : Int) (ag66 : Int → (List T_api_Edge) → (List T_api_Timeout) → (List Int) → (List Int) → Option (T_api_Global × Int)) (vb4_10_6_109 : (List T_api_Edge)) (vb4_10_7_109 : (List T_api_Timeout)) (v5_109 : (List Int)) (v6_109 : (List Int)) : Option (T_api_Global × Int) :=
 ag66 (w64 (vb4_10_3_66 + (1 : Int))) vb4_10_6_109 vb4_10_7_109 v5_109 v6_109
def global_Canonical_k5 (vb4_10_3_66 : Int) (vb4_10_6_120 : (List T_api_Edge)) (v51_120 : Int) (ag120 : (List T_api_Edge) → (List T_api_Timeout) → (List Int) → (List Int) → Int → Option (T_api_Global × Int)) (x5071 : T_api_Edge) (v5_127 : (List Int)) (v6_127 : (List Int)) (vb4_10_7_129 : (List T_api_Timeout)) : Option (T_api_Global × Int) :=
 (idx v5_127 x5071.To).bind fun x5105 =>
 (appL vb4_10_6_120 ([(⟨vb4_10_3_66, x5071.Act, x5105, x5071.Again⟩ : T_api_Edge)] : List T_api_Edge)).bind fun x5112 =>
 ag120 x5112 vb4_10_7_129 v5_127 v6_127 (w64 (v51_120 + (1 : Int)))
def global_Canonical_k6 (g_ : T_api_Global) (vb4_10_3_66 : Int) (x4516 : Int) (vb4_10_6_120 : (List T_api_Edge)) (vb4_10_7_120 : (List T_api_Timeout)) (v51_120 : Int) (ag120 : (List T_api_Edge) → (List T_api_Timeout) → (List Int) → (List Int) → Int → Option (T_api_Global × Int)) (x5071 : T_api_Edge) (v5_127 : (List Int)) (v6_127 : (List Int)) (v88_128 : Bool) : Option (T_api_Global × Int) :=
 bif v88_128 then ((idx g_.Timeouts x4516).bind fun x5123 =>
 (appL vb4_10_7_120 ([(⟨vb4_10_3_66, x5123.Ticks, (vb4_10_6_120.length : Int)⟩ : T_api_Timeout)] : List T_api_Timeout)).bind fun x5132 =>
 global_Canonical_k5 vb4_10_3_66 vb4_10_6_120 v51_120 ag120 x5071 v5_127 v6_127 x5132)
 else global_Canonical_k5 vb4_10_3_66 vb4_10_6_120 v51_120 ag120 x5071 v5_127 v6_127 vb4_10_7_120
def global_Canonical_k7 (g_ : T_api_Global) (vb4_10_3_66 : Int) (x4516 : Int) (vb4_10_6_120 : (List T_api_Edge)) (vb4_10_7_120 : (List T_api_Timeout)) (v51_120 : Int) (ag120 : (List T_api_Edge) → (List T_api_Timeout) → (List Int) → (List Int) → Int → Option (T_api_Global × Int)) (x5070 : Int) (x5071 : T_api_Edge) (v5_127 : (List Int)) (v6_127 : (List Int)) : Option (T_api_Global × Int) :=
 bif (decide (x4516 ≥ (0 : Int))) then ((idx g_.Timeouts x4516).bind fun x5136 =>
 global_Canonical_k6 g_ vb4_10_3_66 x4516 vb4_10_6_120 vb4_10_7_120 v51_120 ag120 x5071 v5_127 v6_127 (x5136.Else == x5070))
 else global_Canonical_k6 g_ vb4_10_3_66 x4516 vb4_10_6_120 vb4_10_7_120 v51_120 ag120 x5071 v5_127 v6_127 false
def global_Canonical_l4 (g_ : T_api_Global) (vb4_10_3_66 : Int) (ag66 : Int → (List T_api_Edge) → (List T_api_Timeout) → (List Int) → (List Int) → Option (T_api_Global × Int)) (x4516 : Int) (x4517 : (List Int)) : Nat → (List T_api_Edge) → (List T_api_Timeout) → (List Int) → (List Int) → Int → Option (T_api_Global × Int)
 | 0, _, _, _, _, _ => none
 | n14 + 1, vb4_10_6_120, vb4_10_7_120, v5_120, v6_120, v51_120 =>
 bif (decide (v51_120 < (x4517.length : Int))) then ((idx x4517 v51_120).bind fun x5070 =>
 (idx g_.Edges x5070).bind fun x5071 =>
 (idx v5_120 x5071.To).bind fun x5072 =>
 bif (decide (x5072 < (0 : Int))) then ((idx v5_120 x5071.To).bind fun x5137 =>
 (appL v6_120 ([x5071.To] : List Int)).bind fun x5138 =>
 global_Canonical_k7 g_ vb4_10_3_66 x4516 vb4_10_6_120 vb4_10_7_120 v51_120 (global_Canonical_l4 g_ vb4_10_3_66 ag66 x4516 x4517 n14) x5070 x5071 (setL' v5_120 x5071.To (v6_120.length : Int)) x5138)
 else global_Canonical_k7 g_ vb4_10_3_66 x4516 vb4_10_6_120 vb4_10_7_120 v51_120 (global_Canonical_l4 g_ vb4_10_3_66 ag66 x4516 x4517 n14) x5070 x5071 v5_120 v6_120)
 else global_Canonical_k3 vb4_10_3_66 ag66 vb4_10_6_120 vb4_10_7_120 v5_120 v6_120
def global_Canonical_l2 (N : Nat) (g_ : T_api_Global) (x2 : T_api_Global) : Nat → Int → (List T_api_Edge) → (List T_api_Timeout) → (List Int) → (List Int) → Option (T_api_Global × Int)
 | 0, _, _, _, _, _ => none
 | n12 + 1, vb4_10_3_66, vb4_10_6_66, vb4_10_7_66, v5_66, v6_66 =>
 bif (decide (vb4_10_3_66 < (v6_66.length : Int))) then ((idx v6_66 vb4_10_3_66).bind fun x4515 =>
 (slices_IndexFunc_api_Timeout_api_Timeout_of_global_Canonical_1 N g_.Timeouts x4515).bind fun x4516 =>
 (global_Edges N g_ x4515).bind fun x4517 =>
 global_Canonical_l4 g_ vb4_10_3_66 (global_Canonical_l2 N g_ x2 n12) x4516 x4517 N vb4_10_6_66 vb4_10_7_66 v5_66 v6_66 (0 : Int))
 else global_Canonical_k1 g_ x2 vb4_10_3_66 vb4_10_6_66 vb4_10_7_66 v5_66
def global_Canonical (N : Nat) (g_ : T_api_Global) : Option (T_api_Global × Int) :=
 (global_Valid N g_).bind fun x1 =>
 bif (!x1) then (some ((⟨(str []), ([] : List ByteArray), ([] : List T_api_Decl), (0 : Int), (0 : Int), (0 : Int), ([] : List T_api_Edge), ([] : List T_api_Timeout)⟩ : T_api_Global), (1 : Int)))
 else (global_copied N g_).bind fun x2 =>
 (slices_Repeat_int_int N ([(-1 : Int)] : List Int) g_.States).bind fun x3 =>
 (idx x3 g_.Start).bind fun x4 =>
 global_Canonical_l2 N g_ x2 N x2.States x2.Edges x2.Timeouts (setL' x3 g_.Start (0 : Int)) ([g_.Start] : List Int)
def wire_Int_k1 (v0_1 : (List Int)) (v5_1 : Int) : Option (List Int) :=
 (appL v0_1 ([(wk .u8 (v5_1))] : List Int)).bind fun x16 =>
 some x16
def wire_Int_l2 : Nat → (List Int) → Int → Option (List Int)
 | 0, _, _ => none
 | n2 + 1, v0_3, v5_3 =>
 bif (decide (v5_3 ≥ (128 : Int))) then ((binO .or .u8 (wk .u8 (v5_3)) (128 : Int)).bind fun x29 =>
 (appL v0_3 ([x29] : List Int)).bind fun x30 =>
 (binO .shr .u64 v5_3 (7 : Int)).bind fun x31 =>
 (wire_Int_l2 n2) x30 x31)
 else wire_Int_k1 v0_3 v5_3
def wire_Int (N : Nat) (b_ : (List Int)) (n_ : Int) : Option (List Int) :=
 (binO .shl .u64 (wk .u64 (n_)) (1 : Int)).bind fun x1 =>
 (binO .shr .i64 n_ (63 : Int)).bind fun x2 =>
 (binO .xor .u64 x1 (wk .u64 (x2))).bind fun x3 =>
 wire_Int_l2 N b_ x3
def wire_Text (N : Nat) (b_ : (List Int)) (s_ : ByteArray) : Option (List Int) :=
 (wire_Int N b_ (s_.size : Int)).bind fun x1 =>
 (appL x1 (bytesL s_)).bind fun x2 =>
 some x2
def global_ints_k1 (v0_1 : (List Int)) : Option (List Int) :=
 some v0_1
def global_ints_l2 (N : Nat) (l_ : (List Int)) : Nat → (List Int) → Int → Option (List Int)
 | 0, _, _ => none
 | n2 + 1, v0_3, v9_3 =>
 bif (decide (v9_3 < (l_.length : Int))) then ((idx l_ v9_3).bind fun x17 =>
 (wire_Int N v0_3 x17).bind fun x18 =>
 (global_ints_l2 N l_ n2) x18 (w64 (v9_3 + (1 : Int))))
 else global_ints_k1 v0_3
def global_ints (N : Nat) (b_ : (List Int)) (l_ : (List Int)) : Option (List Int) :=
 global_ints_l2 N l_ N b_ (0 : Int)
def global_decl_k1 (v0_5 : (List Int)) : Option (List Int) :=
 some v0_5
def global_decl_l2 (N : Nat) (d_ : T_api_Decl) : Nat → (List Int) → Int → Option (List Int)
 | 0, _, _ => none
 | n4 + 1, v0_7, v79_7 =>
 bif (decide (v79_7 < (d_.Guard.Equals.length : Int))) then ((idx d_.Guard.Equals v79_7).bind fun x114 =>
 (global_ints N v0_7 ([x114.1, x114.2] : List Int)).bind fun x115 =>
 (global_decl_l2 N d_ n4) x115 (w64 (v79_7 + (1 : Int))))
 else global_decl_k1 v0_7
def global_decl_k3 (N : Nat) (d_ : T_api_Decl) (v0_3 : (List Int)) : Option (List Int) :=
 (wire_Int N v0_3 (d_.Guard.Equals.length : Int)).bind fun x97 =>
 global_decl_l2 N d_ N x97 (0 : Int)
def global_decl_l4 (N : Nat) (d_ : T_api_Decl) : Nat → (List Int) → Int → Option (List Int)
 | 0, _, _ => none
 | n5 + 1, v0_8, v55_8 =>
 bif (decide (v55_8 < (d_.Guard.Diffs.length : Int))) then ((idx d_.Guard.Diffs v55_8).bind fun x124 =>
 (global_ints N v0_8 ([x124.X, x124.Y, x124.C] : List Int)).bind fun x125 =>
 (global_decl_l4 N d_ n5) x125 (w64 (v55_8 + (1 : Int))))
 else global_decl_k3 N d_ v0_8
def global_decl_k5 (N : Nat) (d_ : T_api_Decl) (v0_1 : (List Int)) : Option (List Int) :=
 (global_ints N v0_1 ([d_.First, (d_.Guard.Diffs.length : Int)] : List Int)).bind fun x88 =>
 global_decl_l4 N d_ N x88 (0 : Int)
def global_decl_l6 (N : Nat) (d_ : T_api_Decl) : Nat → (List Int) → Int → Option (List Int)
 | 0, _, _ => none
 | n6 + 1, v0_9, v22_9 =>
 bif (decide (v22_9 < (d_.Fields.length : Int))) then ((idx d_.Fields v22_9).bind fun x202 =>
 (wire_Text N v0_9 x202.Name).bind fun x206 =>
 (global_ints N x206 ([x202.Sort'.Kind, x202.Sort'.Lo, x202.Sort'.Hi] : List Int)).bind fun x218 =>
 (global_decl_l6 N d_ n6) x218 (w64 (v22_9 + (1 : Int))))
 else global_decl_k5 N d_ v0_9
def global_decl (N : Nat) (b_ : (List Int)) (d_ : T_api_Decl) : Option (List Int) :=
 (wire_Text N b_ d_.Name).bind fun x4 =>
 (wire_Int N x4 (d_.Fields.length : Int)).bind fun x9 =>
 global_decl_l6 N d_ N x9 (0 : Int)
def wire_Bool (N : Nat) (b_ : (List Int)) (v_ : Bool) : Option (List Int) :=
 bif v_ then ((appL b_ ([(1 : Int)] : List Int)).bind fun x1 =>
 some x1)
 else (appL b_ ([(0 : Int)] : List Int)).bind fun x2 =>
 some x2
def global_Encode_k1 (v3_7 : (List Int)) : Option (List Int) :=
 some v3_7
def global_Encode_l2 (N : Nat) (g_ : T_api_Global) : Nat → (List Int) → Int → Option (List Int)
 | 0, _, _ => none
 | n5 + 1, v3_9, v96_9 =>
 bif (decide (v96_9 < (g_.Timeouts.length : Int))) then ((idx g_.Timeouts v96_9).bind fun x139 =>
 (global_ints N v3_9 ([x139.State, x139.Ticks, x139.Else] : List Int)).bind fun x140 =>
 (global_Encode_l2 N g_ n5) x140 (w64 (v96_9 + (1 : Int))))
 else global_Encode_k1 v3_9
def global_Encode_k3 (N : Nat) (g_ : T_api_Global) (v3_5 : (List Int)) : Option (List Int) :=
 (wire_Int N v3_5 (g_.Timeouts.length : Int)).bind fun x122 =>
 global_Encode_l2 N g_ N x122 (0 : Int)
def global_Encode_l4 (N : Nat) (g_ : T_api_Global) : Nat → (List Int) → Int → Option (List Int)
 | 0, _, _ => none
 | n6 + 1, v3_10, v64_10 =>
 bif (decide (v64_10 < (g_.Edges.length : Int))) then ((idx g_.Edges v64_10).bind fun x233 =>
 (global_ints N v3_10 ([x233.From, x233.Act.From, x233.Act.To, x233.Act.Label, x233.To] : List Int)).bind fun x249 =>
 (wire_Bool N x249 x233.Again).bind fun x253 =>
 (global_Encode_l4 N g_ n6) x253 (w64 (v64_10 + (1 : Int))))
 else global_Encode_k3 N g_ v3_10
def global_Encode_k5 (N : Nat) (g_ : T_api_Global) (v3_3 : (List Int)) : Option (List Int) :=
 (global_ints N v3_3 ([g_.States, g_.Start, g_.End, (g_.Edges.length : Int)] : List Int)).bind fun x29 =>
 global_Encode_l4 N g_ N x29 (0 : Int)
def global_Encode_l6 (N : Nat) (g_ : T_api_Global) : Nat → (List Int) → Int → Option (List Int)
 | 0, _, _ => none
 | n7 + 1, v3_11, v41_11 =>
 bif (decide (v41_11 < (g_.Decls.length : Int))) then ((idx g_.Decls v41_11).bind fun x264 =>
 (global_decl N v3_11 x264).bind fun x265 =>
 (global_Encode_l6 N g_ n7) x265 (w64 (v41_11 + (1 : Int))))
 else global_Encode_k5 N g_ v3_11
def global_Encode_k7 (N : Nat) (g_ : T_api_Global) (v3_1 : (List Int)) : Option (List Int) :=
 (wire_Int N v3_1 (g_.Decls.length : Int)).bind fun x20 =>
 global_Encode_l6 N g_ N x20 (0 : Int)
def global_Encode_l8 (N : Nat) (g_ : T_api_Global) : Nat → (List Int) → Int → Option (List Int)
 | 0, _, _ => none
 | n8 + 1, v3_12, v25_12 =>
 bif (decide (v25_12 < (g_.Roles.length : Int))) then ((idx g_.Roles v25_12).bind fun x274 =>
 (wire_Text N v3_12 x274).bind fun x275 =>
 (global_Encode_l8 N g_ n8) x275 (w64 (v25_12 + (1 : Int))))
 else global_Encode_k7 N g_ v3_12
def global_Encode (N : Nat) (g_ : T_api_Global) : Option (List Int) :=
 (global_Valid N g_).bind fun x1 =>
 bif (!x1) then (some ([] : List Int))
 else (wire_Text N ([] : List Int) g_.Name).bind fun x4 =>
 (wire_Int N x4 (g_.Roles.length : Int)).bind fun x9 =>
 global_Encode_l8 N g_ N x9 (0 : Int)
def sum_From_k1 (v0_1 : Int) : Option Int :=
 some v0_1
def sum_From_l2 (b_ : (List Int)) : Nat → Int → Int → Option Int
 | 0, _, _ => none
 | n2 + 1, v0_3, v9_3 =>
 bif (decide (v9_3 < (b_.length : Int))) then ((idx b_ v9_3).bind fun x17 =>
 (binO .xor .u64 v0_3 (wk .u64 (x17))).bind fun x18 =>
 (sum_From_l2 b_ n2) (wk .u64 (x18 * (1099511628211 : Int))) (w64 (v9_3 + (1 : Int))))
 else sum_From_k1 v0_3
def sum_From (N : Nat) (seed_ : Int) (b_ : (List Int)) : Option Int :=
 sum_From_l2 b_ N seed_ (0 : Int)
def sum_Of (N : Nat) (b_ : (List Int)) : Option Int :=
 (sum_From N (14695981039346656037 : Int) b_).bind fun x1 =>
 some x1
def global_Digest (N : Nat) (g_ : T_api_Global) : Option Int :=
 (global_Canonical N g_).bind fun x1 =>
 bif (x1.2 != (0 : Int)) then (some (0 : Int))
 else (global_Encode N x1.1).bind fun x2 =>
 (sum_Of N x2).bind fun x3 =>
 some x3
def law18_awake (N : Nat) : Option Bool :=
 (law18_small N).bind fun x1 =>
 (global_Words N x1 (3 : Int)).bind fun x2 =>
 (global_Next N x1 (0 : Int) (⟨(0 : Int), (1 : Int), (0 : Int)⟩ : T_api_Interaction)).bind fun x3 =>
 (global_Valid N x1).bind fun x4 =>
 bif x4 then (bif (x2.2 == (0 : Int)) then (bif ((x2.1.length : Int) == (2 : Int)) then ((idx x2.1 (1 : Int)).bind fun x5 =>
 bif ((x5.length : Int) == (1 : Int)) then (bif x3.2 then (bif (x3.1 == (1 : Int)) then ((global_Equal N x1 x1).bind fun x6 =>
 bif x6 then ((global_Label N x1 (str [120])).bind fun x7 =>
 bif (x7 == (0 : Int)) then ((global_Digest N x1).bind fun x8 =>
 some (x8 != (0 : Int)))
 else some false)
 else some false)
 else some false)
 else some false)
 else some false)
 else some false)
 else some false)
 else some false
def ref14_Few_k1 (l_ : (List T_api_Decl)) (v3_1 : Int) : Option Bool :=
 bif (decide ((l_.length : Int) ≤ (60 : Int))) then (some (decide (v3_1 ≤ (100 : Int))))
 else some false
def ref14_Few_l2 (l_ : (List T_api_Decl)) : Nat → Int → Int → Option Bool
 | 0, _, _ => none
 | n2 + 1, v3_3, v4_3 =>
 bif (decide (v4_3 < (l_.length : Int))) then ((idx l_ v4_3).bind fun x52 =>
 (idx l_ v4_3).bind fun x53 =>
 (idx l_ v4_3).bind fun x54 =>
 (ref14_Few_l2 l_ n2) (w64 (v3_3 + (w64 ((w64 ((x52.Fields.length : Int) + (x53.Guard.Diffs.length : Int))) + (x54.Guard.Equals.length : Int))))) (w64 (v4_3 + (1 : Int))))
 else ref14_Few_k1 l_ v3_3
def ref14_Few (N : Nat) (l_ : (List T_api_Decl)) : Option Bool :=
 ref14_Few_l2 l_ N (0 : Int) (0 : Int)
def ref18_Few (N : Nat) (g_ : T_api_Global) : Option Bool :=
 bif (decide (g_.States ≤ (40 : Int))) then (bif (decide ((g_.Edges.length : Int) ≤ (80 : Int))) then (bif (decide ((g_.Timeouts.length : Int) ≤ (40 : Int))) then (bif (decide ((g_.Roles.length : Int) ≤ (10 : Int))) then ((ref14_Few N g_.Decls).bind fun x1 =>
 some x1)
 else some false)
 else some false)
 else some false)
 else some false
def ref18_index_k1 : Option Int :=
 some (-1 : Int)
def ref18_index_l2 (l_ : (List ByteArray)) (s_ : ByteArray) : Nat → Int → Option Int
 | 0, _ => none
 | n2 + 1, v5_3 =>
 bif (decide (v5_3 < (l_.length : Int))) then ((idx l_ v5_3).bind fun x9 =>
 bif (x9.toList == s_.toList) then (some v5_3)
 else (ref18_index_l2 l_ s_ n2) (w64 (v5_3 + (1 : Int))))
 else ref18_index_k1
def ref18_index (N : Nat) (l_ : (List ByteArray)) (s_ : ByteArray) : Option Int :=
 ref18_index_l2 l_ s_ N (0 : Int)
def ref18_before (N : Nat) (g_ : T_api_Global) (i_ : Int) (k_ : Int) : Option Bool :=
 (idx g_.Edges i_).bind fun x4 =>
 (idx g_.Edges k_).bind fun x11 =>
 bif (x4.Act.To != x11.Act.To) then (some (decide (x4.Act.To < x11.Act.To)))
 else bif (x4.Act.Label != x11.Act.Label) then (some (decide (x4.Act.Label < x11.Act.Label)))
 else some (decide (i_ < k_))
def ref18_Edges_k1 (v5_1 : (List Int)) : Option (List Int) :=
 some v5_1
def ref18_Edges_k3 (v5_12 : (List Int)) (v6_12 : Int) (ag12 : (List Int) → Int → Option (List Int)) (v7_19 : Int) : Option (List Int) :=
 (lsl v5_12 none (some v7_19)).bind fun x1726 =>
 (lsl v5_12 (some v7_19) none).bind fun x1732 =>
 (appL ([v6_12] : List Int) x1732).bind fun x1734 =>
 (appL x1726 x1734).bind fun x1736 =>
 ag12 x1736 (w64 (v6_12 + (1 : Int)))
def ref18_Edges_l4 (N : Nat) (g_ : T_api_Global) (v5_12 : (List Int)) (v6_12 : Int) (ag12 : (List Int) → Int → Option (List Int)) : Nat → Int → Option (List Int)
 | 0, _ => none
 | n14 + 1, v7_21 =>
 bif (decide (v7_21 < (v5_12.length : Int))) then ((idx v5_12 v7_21).bind fun x1853 =>
 (ref18_before N g_ x1853 v6_12).bind fun x1857 =>
 bif x1857 then ((ref18_Edges_l4 N g_ v5_12 v6_12 ag12 n14) (w64 (v7_21 + (1 : Int))))
 else ref18_Edges_k3 v5_12 v6_12 ag12 v7_21)
 else ref18_Edges_k3 v5_12 v6_12 ag12 v7_21
def ref18_Edges_l2 (N : Nat) (g_ : T_api_Global) (s_ : Int) : Nat → (List Int) → Int → Option (List Int)
 | 0, _, _ => none
 | n12 + 1, v5_12, v6_12 =>
 bif (decide (v6_12 < (g_.Edges.length : Int))) then ((idx g_.Edges v6_12).bind fun x1619 =>
 bif (x1619.From != s_) then ((ref18_Edges_l2 N g_ s_ n12) v5_12 (w64 (v6_12 + (1 : Int))))
 else ref18_Edges_l4 N g_ v5_12 v6_12 (ref18_Edges_l2 N g_ s_ n12) N (0 : Int))
 else ref18_Edges_k1 v5_12
def ref18_Edges (N : Nat) (g_ : T_api_Global) (s_ : Int) : Option (List Int) :=
 ref18_Edges_l2 N g_ s_ N ([] : List Int) (0 : Int)
def ref18_Next_k1 : Option (Int × Bool) :=
 some ((0 : Int), false)
def ref18_Next_l2 (g_ : T_api_Global) (s_ : Int) (act_ : T_api_Interaction) : Nat → Int → Option (Int × Bool)
 | 0, _ => none
 | n2 + 1, v8_3 =>
 bif (decide (v8_3 < (g_.Edges.length : Int))) then ((idx g_.Edges v8_3).bind fun x43 =>
 bif (x43.From == s_) then ((idx g_.Edges v8_3).bind fun x44 =>
 bif ((x44.Act.From == act_.From) && ((x44.Act.To == act_.To) && ((x44.Act.Label == act_.Label) && true))) then ((idx g_.Edges v8_3).bind fun x45 =>
 some (x45.To, true))
 else (ref18_Next_l2 g_ s_ act_ n2) (w64 (v8_3 + (1 : Int))))
 else (ref18_Next_l2 g_ s_ act_ n2) (w64 (v8_3 + (1 : Int))))
 else ref18_Next_k1
def ref18_Next (N : Nat) (g_ : T_api_Global) (s_ : Int) (act_ : T_api_Interaction) : Option (Int × Bool) :=
 ref18_Next_l2 g_ s_ act_ N (0 : Int)
def ref01_SameInts_k1 : Option Bool :=
 some true
def ref01_SameInts_l2 (a_ : (List Int)) (b_ : (List Int)) : Nat → Int → Option Bool
 | 0, _ => none
 | n2 + 1, v5_3 =>
 bif (decide (v5_3 < (a_.length : Int))) then ((idx a_ v5_3).bind fun x35 =>
 (idx b_ v5_3).bind fun x36 =>
 bif (x35 != x36) then (some false)
 else (ref01_SameInts_l2 a_ b_ n2) (w64 (v5_3 + (1 : Int))))
 else ref01_SameInts_k1
def ref01_SameInts (N : Nat) (a_ : (List Int)) (b_ : (List Int)) : Option Bool :=
 bif ((a_.length : Int) != (b_.length : Int)) then (some false)
 else ref01_SameInts_l2 a_ b_ N (0 : Int)
def global_Role (N : Nat) (g_ : T_api_Global) (name_ : ByteArray) : Option Int :=
 (slices_Index_string_string N g_.Roles name_).bind fun x1 =>
 some x1
def ref18_Role (N : Nat) (g_ : T_api_Global) (name_ : ByteArray) : Option Int :=
 (ref18_index N g_.Roles name_).bind fun x1 =>
 some x1
def ref18_Label_k1 : Option Int :=
 some (-1 : Int)
def ref18_Label_l2 (g_ : T_api_Global) (name_ : ByteArray) : Nat → Int → Option Int
 | 0, _ => none
 | n2 + 1, v5_3 =>
 bif (decide (v5_3 < (g_.Decls.length : Int))) then ((idx g_.Decls v5_3).bind fun x9 =>
 bif (x9.Name.toList == name_.toList) then (some v5_3)
 else (ref18_Label_l2 g_ name_ n2) (w64 (v5_3 + (1 : Int))))
 else ref18_Label_k1
def ref18_Label (N : Nat) (g_ : T_api_Global) (name_ : ByteArray) : Option Int :=
 ref18_Label_l2 g_ name_ N (0 : Int)
def ref14_SameDiffs_k1 : Option Bool :=
 some true
def ref14_SameDiffs_l2 (a_ : (List T_api_Diff)) (b_ : (List T_api_Diff)) : Nat → Int → Option Bool
 | 0, _ => none
 | n2 + 1, v5_3 =>
 bif (decide (v5_3 < (a_.length : Int))) then ((idx a_ v5_3).bind fun x35 =>
 (idx b_ v5_3).bind fun x36 =>
 bif (!((x35.X == x36.X) && ((x35.Y == x36.Y) && ((x35.C == x36.C) && true)))) then (some false)
 else (ref14_SameDiffs_l2 a_ b_ n2) (w64 (v5_3 + (1 : Int))))
 else ref14_SameDiffs_k1
def ref14_SameDiffs (N : Nat) (a_ : (List T_api_Diff)) (b_ : (List T_api_Diff)) : Option Bool :=
 bif ((a_.length : Int) != (b_.length : Int)) then (some false)
 else ref14_SameDiffs_l2 a_ b_ N (0 : Int)
def ref14_Same_k1 : Option Bool :=
 some true
def ref14_Same_k3 (v5_21 : Int) (ag21 : Int → Option Bool) : Option Bool :=
 ag21 (w64 (v5_21 + (1 : Int)))
def ref14_Same_l4 (v5_21 : Int) (ag21 : Int → Option Bool) (x643 : T_api_Decl) (x648 : T_api_Decl) : Nat → Int → Option Bool
 | 0, _ => none
 | n25 + 1, v9_38 =>
 bif (decide (v9_38 < (x643.Guard.Equals.length : Int))) then ((idx x643.Guard.Equals v9_38).bind fun x706 =>
 (idx x648.Guard.Equals v9_38).bind fun x707 =>
 bif (!((x706.1 == x707.1) && ((x706.2 == x707.2) && true))) then (some false)
 else (ref14_Same_l4 v5_21 ag21 x643 x648 n25) (w64 (v9_38 + (1 : Int))))
 else ref14_Same_k3 v5_21 ag21
def ref14_Same_k5 (N : Nat) (v5_21 : Int) (ag21 : Int → Option Bool) (x643 : T_api_Decl) (x648 : T_api_Decl) : Option Bool :=
 ref14_Same_l4 v5_21 ag21 x643 x648 N (0 : Int)
def ref14_Same_l6 (N : Nat) (v5_21 : Int) (ag21 : Int → Option Bool) (x643 : T_api_Decl) (x648 : T_api_Decl) : Nat → Int → Option Bool
 | 0, _ => none
 | n26 + 1, v8_39 =>
 bif (decide (v8_39 < (x643.Fields.length : Int))) then ((idx x643.Fields v8_39).bind fun x726 =>
 (idx x648.Fields v8_39).bind fun x727 =>
 bif (!((x726.Name.toList == x727.Name.toList) && (((x726.Sort'.Kind == x727.Sort'.Kind) && ((x726.Sort'.Lo == x727.Sort'.Lo) && ((x726.Sort'.Hi == x727.Sort'.Hi) && true))) && true))) then (some false)
 else (ref14_Same_l6 N v5_21 ag21 x643 x648 n26) (w64 (v8_39 + (1 : Int))))
 else ref14_Same_k5 N v5_21 ag21 x643 x648
def ref14_Same_l2 (N : Nat) (a_ : (List T_api_Decl)) (b_ : (List T_api_Decl)) : Nat → Int → Option Bool
 | 0, _ => none
 | n22 + 1, v5_21 =>
 bif (decide (v5_21 < (a_.length : Int))) then ((idx a_ v5_21).bind fun x643 =>
 (idx b_ v5_21).bind fun x648 =>
 bif (!(x643.Name.toList == x648.Name.toList)) then (some false)
 else bif (x643.First != x648.First) then (some false)
 else bif ((x643.Fields.length : Int) != (x648.Fields.length : Int)) then (some false)
 else (ref14_SameDiffs N x643.Guard.Diffs x648.Guard.Diffs).bind fun x655 =>
 bif (!x655) then (some false)
 else bif ((x643.Guard.Equals.length : Int) != (x648.Guard.Equals.length : Int)) then (some false)
 else ref14_Same_l6 N v5_21 (ref14_Same_l2 N a_ b_ n22) x643 x648 N (0 : Int))
 else ref14_Same_k1
def ref14_Same (N : Nat) (a_ : (List T_api_Decl)) (b_ : (List T_api_Decl)) : Option Bool :=
 bif ((a_.length : Int) != (b_.length : Int)) then (some false)
 else ref14_Same_l2 N a_ b_ N (0 : Int)
def ref18_Equal_k1 : Option Bool :=
 some true
def ref18_Equal_l2 (a_ : T_api_Global) (b_ : T_api_Global) : Nat → Int → Option Bool
 | 0, _ => none
 | n4 + 1, v7_7 =>
 bif (decide (v7_7 < (a_.Timeouts.length : Int))) then ((idx a_.Timeouts v7_7).bind fun x68 =>
 (idx b_.Timeouts v7_7).bind fun x69 =>
 bif (!((x68.State == x69.State) && ((x68.Ticks == x69.Ticks) && ((x68.Else == x69.Else) && true)))) then (some false)
 else (ref18_Equal_l2 a_ b_ n4) (w64 (v7_7 + (1 : Int))))
 else ref18_Equal_k1
def ref18_Equal_k3 (N : Nat) (a_ : T_api_Global) (b_ : T_api_Global) : Option Bool :=
 ref18_Equal_l2 a_ b_ N (0 : Int)
def ref18_Equal_l4 (N : Nat) (a_ : T_api_Global) (b_ : T_api_Global) : Nat → Int → Option Bool
 | 0, _ => none
 | n5 + 1, v6_8 =>
 bif (decide (v6_8 < (a_.Edges.length : Int))) then ((idx a_.Edges v6_8).bind fun x88 =>
 (idx b_.Edges v6_8).bind fun x89 =>
 bif (!((x88.From == x89.From) && (((x88.Act.From == x89.Act.From) && ((x88.Act.To == x89.Act.To) && ((x88.Act.Label == x89.Act.Label) && true))) && ((x88.To == x89.To) && ((x88.Again == x89.Again) && true))))) then (some false)
 else (ref18_Equal_l4 N a_ b_ n5) (w64 (v6_8 + (1 : Int))))
 else ref18_Equal_k3 N a_ b_
def ref18_Equal_k5 (N : Nat) (a_ : T_api_Global) (b_ : T_api_Global) : Option Bool :=
 ref18_Equal_l4 N a_ b_ N (0 : Int)
def ref18_Equal_l6 (N : Nat) (a_ : T_api_Global) (b_ : T_api_Global) : Nat → Int → Option Bool
 | 0, _ => none
 | n6 + 1, v5_9 =>
 bif (decide (v5_9 < (a_.Roles.length : Int))) then ((idx a_.Roles v5_9).bind fun x108 =>
 (idx b_.Roles v5_9).bind fun x109 =>
 bif (!(x108.toList == x109.toList)) then (some false)
 else (ref18_Equal_l6 N a_ b_ n6) (w64 (v5_9 + (1 : Int))))
 else ref18_Equal_k5 N a_ b_
def ref18_Equal (N : Nat) (a_ : T_api_Global) (b_ : T_api_Global) : Option Bool :=
 bif (!(a_.Name.toList == b_.Name.toList)) then (some false)
 else bif ((a_.Roles.length : Int) != (b_.Roles.length : Int)) then (some false)
 else (ref14_Same N a_.Decls b_.Decls).bind fun x1 =>
 bif (!x1) then (some false)
 else bif (a_.States != b_.States) then (some false)
 else bif (a_.Start != b_.Start) then (some false)
 else bif (a_.End != b_.End) then (some false)
 else bif ((a_.Edges.length : Int) != (b_.Edges.length : Int)) then (some false)
 else bif ((a_.Timeouts.length : Int) != (b_.Timeouts.length : Int)) then (some false)
 else ref18_Equal_l6 N a_ b_ N (0 : Int)
def law18_GlobalSearch (N : Nat) (g_ : T_api_Global) (other_ : T_api_Global) (q_ : T_law18_Query) : Option Bool :=
 (law18_awake N).bind fun x1 =>
 bif (!x1) then ((law18_awake N).bind fun x2 =>
 some x2)
 else (ref18_Few N g_).bind fun x3 =>
 bif (!x3) then ((law18_awake N).bind fun x4 =>
 some x4)
 else (ref18_Few N other_).bind fun x5 =>
 bif (!x5) then ((law18_awake N).bind fun x6 =>
 some x6)
 else (global_Next N g_ q_.State q_.Act).bind fun x7 =>
 (ref18_Next N g_ q_.State q_.Act).bind fun x8 =>
 bif (x7.1 == x8.1) then (bif (x7.2 == x8.2) then ((global_Edges N g_ q_.State).bind fun x23 =>
 (ref18_Edges N g_ q_.State).bind fun x28 =>
 (ref01_SameInts N x23 x28).bind fun x30 =>
 bif x30 then ((global_Role N g_ q_.Name).bind fun x38 =>
 (ref18_Role N g_ q_.Name).bind fun x43 =>
 bif (x38 == x43) then ((global_Label N g_ q_.Name).bind fun x52 =>
 (ref18_Label N g_ q_.Name).bind fun x57 =>
 bif (x52 == x57) then ((global_Equal N g_ other_).bind fun x65 =>
 (ref18_Equal N g_ other_).bind fun x69 =>
 bif (x65 == x69) then ((global_Equal N g_ g_).bind fun x77 =>
 some x77)
 else some false)
 else some false)
 else some false)
 else some false)
 else some false)
 else some false
end Gx
end
