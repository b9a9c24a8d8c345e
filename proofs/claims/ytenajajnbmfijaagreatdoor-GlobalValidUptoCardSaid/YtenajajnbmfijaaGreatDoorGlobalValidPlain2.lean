/- The plain law, part 2: what the functions compute answers as the statement says. -/
import Derived.KernelRfl
import Derived.Test.YtenajajnbmfijaaGreatDoorGlobalValidPlain1
set_option linter.all false
section
/- Plain law: declarations of message types, as both sides read them. -/
set_option linter.unusedVariables false
set_option linter.unusedSimpArgs false
namespace Gp
open Go Go.Kx Gx
variable {N : Nat}
/-- All fields of the declarations, one behind the other. -/
def flat (l : List T0) : List T3 := (l.map fun d => d.Fields).flatten
theorem flat_cons (x : T0) (l : List T0) : flat (x :: l) = x.Fields ++ flat l := rfl
theorem flat_app (a b : List T0) : flat (a ++ b) = flat a ++ flat b := by simp [flat]
theorem flat_le (l : List T0) (h : ∀ d ∈ l, SizeD d) : (flat l).length ≤ l.length * 4194304 := by
 induction l with
 | nil => simp [flat]
 | cons x l ih =>
  rw [flat_cons, List.length_append, List.length_cons]
  have := (h x (by simp)).f
  have := ih (fun d hd => h d (by simp [hd]))
  omega
theorem take_drop_cons {α : Type} {xs l : List α} {k : Nat} {x : α} (h : xs.drop k = x :: l) : xs.take (k + 1) = xs.take k ++ [x] := by
 obtain ⟨a, c, d⟩ := drop_cons h
 rw [List.take_add_one, c]; rfl
theorem fields_loop (l : List T0) (hs : (flat l).length ≤ 4294967296) (hl : l.length ≤ 4194304) :
  ∀ (m : List T0) (k n : Nat) (acc : List T3), l.drop k = m → m.length < n → acc = flat (l.take k) → z175_l2 l n acc (k : Int) = some (flat l) := by
 intro m
 induction m with
 | nil =>
  intro k n acc h hn ha
  obtain ⟨n, rfl⟩ : ∃ m, n = m + 1 := ⟨n - 1, by simp at hn; omega⟩
  have hk := drop_nil h
  simp only [z175_l2, lt_f hk, cond_false, z175_k1]
  rw [ha, List.take_of_length_le hk]
 | cons x m ih =>
  intro k n acc h hn ha
  obtain ⟨n, rfl⟩ : ∃ m, n = m + 1 := ⟨n - 1, by simp at hn; omega⟩
  obtain ⟨a, c, d⟩ := drop_cons h
  have ht := take_drop_cons h
  have hcut : flat l = flat (l.take (k + 1)) ++ flat (l.drop (k + 1)) := by rw [← flat_app, List.take_append_drop]
  have hle : acc.length + x.Fields.length ≤ 4294967296 := by
   rw [hcut, ht, flat_app, List.length_append, List.length_append, ← ha] at hs
   have : (flat [x]).length = x.Fields.length := by simp [flat]
   omega
  simp only [z175_l2, lt_t a, cond_true, idx_nat, c, Option.bind_some]
  rw [appL_some hle, Option.bind_some, w64_succ (by omega)]
  refine ih (k + 1) n _ d (by simp at hn; omega) ?_
  rw [ht, flat_app, ← ha]; simp [flat]
theorem fields_eq (hN : 4194304 < N) (l : List T0) (hl : l.length ≤ 1000) (hd : ∀ d ∈ l, SizeD d) : z175 N l = some (flat l) := by
 unfold z175
 exact fields_loop l (by have := flat_le l hd; omega) (by omega) l 0 N [] rfl (by omega) rfl
theorem vars_loop (l : List T0) (hs : (flat l).length ≤ 4294967296) (hl : l.length ≤ 4194304) :
  ∀ (m : List T0) (k n : Nat) (acc : Int), l.drop k = m → m.length < n → acc = ((flat (l.take k)).length : Int) → z151_l2 l n acc (k : Int) = some ((flat l).length : Int) := by
 intro m
 induction m with
 | nil =>
  intro k n acc h hn ha
  obtain ⟨n, rfl⟩ : ∃ m, n = m + 1 := ⟨n - 1, by simp at hn; omega⟩
  have hk := drop_nil h
  simp only [z151_l2, lt_f hk, cond_false, z151_k1]
  rw [ha, List.take_of_length_le hk]
 | cons x m ih =>
  intro k n acc h hn ha
  obtain ⟨n, rfl⟩ : ∃ m, n = m + 1 := ⟨n - 1, by simp at hn; omega⟩
  obtain ⟨a, c, d⟩ := drop_cons h
  have ht := take_drop_cons h
  have hcut : flat l = flat (l.take (k + 1)) ++ flat (l.drop (k + 1)) := by rw [← flat_app, List.take_append_drop]
  have hx : (flat [x]).length = x.Fields.length := by simp [flat]
  have hle : (flat (l.take k)).length + x.Fields.length ≤ 4294967296 := by
   rw [hcut, ht, flat_app, List.length_append, List.length_append] at hs
   omega
  simp only [z151_l2, lt_t a, cond_true, idx_nat, c, Option.bind_some]
  rw [w64_succ (by omega), w64_id (by omega) (by omega)]
  refine ih (k + 1) n _ d (by simp at hn; omega) ?_
  rw [ht, flat_app, List.length_append, hx, ha]; simp
theorem vars_eq (hN : 4194304 < N) (l : List T0) (hl : l.length ≤ 1000) (hd : ∀ d ∈ l, SizeD d) : z151 N l = some ((flat l).length : Int) := by
 unfold z151
 exact vars_loop l (by have := flat_le l hd; omega) (by omega) l 0 N 0 rfl (by omega) rfl
theorem field_loop (l : List T0) (hl : l.length ≤ 4194304) (hd : ∀ d ∈ l, SizeD d) :
  ∀ (m : List T0) (k n i : Nat), l.drop k = m → m.length < n → i < (flat m).length → i ≤ 4294967296 → z185_l2 l n (i : Int) (k : Int) = (flat m)[i]? := by
 intro m
 induction m with
 | nil => intro k n i h hn hi; simp [flat] at hi
 | cons x m ih =>
  intro k n i h hn hi hi2
  obtain ⟨n, rfl⟩ : ∃ m, n = m + 1 := ⟨n - 1, by simp at hn; omega⟩
  obtain ⟨a, c, d⟩ := drop_cons h
  rw [flat_cons]
  simp only [z185_l2, lt_t a, cond_true, idx_nat, c, Option.bind_some]
  by_cases hlt : i < x.Fields.length
  ·rw [lt_t hlt, cond_true, List.getElem?_append_left hlt, List.getElem?_eq_getElem hlt]; rfl
  ·rw [lt_f (by omega), cond_false, w64_succ (by omega), List.getElem?_append_right (by omega)]
   have hf := (hd x (List.mem_of_getElem? c)).f
   have hw : w64 ((i : Int) - (x.Fields.length : Int)) = ((i - x.Fields.length : Nat) : Int) := by rw [w64_id (by omega) (by omega)]; omega
   rw [hw]
   exact ih (k + 1) n _ d (by simp at hn; omega) (by rw [flat_cons, List.length_append] at hi; omega) (by omega)
/-- A variable of kind 2. -/
def textV (fl : List T3) (x : Int) : Bool := match idx fl x with | some f => f.Sort'.Kind == 2 | none => false
theorem idx_none {α : Type} {L : List α} {v : Int} (h : ¬ (0 ≤ v ∧ v < (L.length : Int))) : idx L v = none := by
 cases hc : idx L v with
 | none => rfl
 | some d => exact absurd (idx_some hc) h
theorem text_eq (hN : 4194304 < N) (l : List T0) (hl : l.length ≤ 1000) (hd : ∀ d ∈ l, SizeD d) (x : Int) : z172 N l x = some (textV (flat l) x) := by
 have hfl := flat_le l hd
 unfold z172 textV
 rw [vars_eq hN l hl hd]
 by_cases h0 : x ≥ 0
 ·rw [decide_eq_true h0, cond_true, Option.bind_some]
  by_cases h1 : x < ((flat l).length : Int)
  ·obtain ⟨k, rfl⟩ : ∃ k : Nat, x = (k : Int) := ⟨x.toNat, by omega⟩
   have hk : k < (flat l).length := by omega
   have hf : z185 N l (k : Int) = (flat l)[k]? := field_loop l (by omega) hd l 0 N k rfl (by omega) hk (by omega)
   rw [decide_eq_true h1, cond_true, hf, idx_nat, List.getElem?_eq_getElem hk]; rfl
  ·rw [decide_eq_false h1, idx_none (by omega)]; rfl
 ·rw [decide_eq_false h0, idx_none (by omega)]; rfl
def diffOk (n : Int) (d : T1) : Prop := -1 ≤ d.X ∧ d.X < n ∧ -1 ≤ d.Y ∧ d.Y < n ∧ -20000 ≤ d.C ∧ d.C ≤ 20000
instance (n : Int) (d : T1) : Decidable (diffOk n d) := by unfold diffOk; infer_instance
def guardV (fl : List T3) (g : T5) : Bool :=
 decide (g.Diffs.length ≤ 20 ∧ g.Equals.length ≤ 20) && (allV (fun d _ => decide (diffOk (fl.length : Int) d)) g.Diffs 0 && allV (fun e _ => textV fl e.1 && textV fl e.2) g.Equals 0)
theorem guarded_eq (hN : 4194304 < N) (g : T5) (fl : List T3) : z182 N g fl = some (guardV fl g) := by
 unfold z182 guardV
 by_cases c1 : (g.Diffs.length : Int) > 20
 ·rw [decide_eq_true c1, decide_eq_false (show ¬ (g.Diffs.length ≤ 20 ∧ g.Equals.length ≤ 20) by omega)]; rfl
 by_cases c2 : (g.Equals.length : Int) > 20
 ·rw [decide_eq_false c1, decide_eq_true c2, decide_eq_false (show ¬ (g.Diffs.length ≤ 20 ∧ g.Equals.length ≤ 20) by omega)]; rfl
 rw [decide_eq_false c1, decide_eq_false c2, decide_eq_true (show g.Diffs.length ≤ 20 ∧ g.Equals.length ≤ 20 by omega)]
 simp only [cond_false, Bool.true_and]
 rw [allV_from (fun d _ => decide (diffOk (fl.length : Int) d)) (xs := g.Diffs) (F := z182_l6 N g fl) (e := z182_k5 N g fl) (by omega)]
 ·unfold z182_k5
  rw [allV_from (fun e _ => textV fl e.1 && textV fl e.2) (xs := g.Equals) (F := z182_l2 N g fl) (e := some true) (by omega)]
  ·cases allV (fun d _ => decide (diffOk (fl.length : Int) d)) g.Diffs 0 <;> cases allV (fun e _ => textV fl e.1 && textV fl e.2) g.Equals 0 <;> rfl
  ·intro n k x hk hx
   obtain ⟨m, rfl⟩ : ∃ m, N = m + 3 := ⟨N - 3, by omega⟩
   have e0 : idx ([x.1, x.2] : List Int) (0 : Int) = some x.1 := rfl
   have e1 : idx ([x.1, x.2] : List Int) (1 : Int) = some x.2 := rfl
   have w0 : w64 ((0 : Int) + 1) = 1 := by decide
   have w1 : w64 ((1 : Int) + 1) = 2 := by decide
   have l0 : decide ((0 : Int) < 2) = true := rfl
   have l1 : decide ((1 : Int) < 2) = true := rfl
   have l2 : decide ((2 : Int) < 2) = false := rfl
   have one : ∀ (v : Int) (r : Option Bool), (bif decide (v < (0 : Int)) then some false else bif decide (v ≥ (fl.length : Int)) then some false else (idx fl v).bind fun x143 => bif (x143.Sort'.Kind != (2 : Int)) then some false else r) = bif textV fl v then r else some false := by
    intro v r
    unfold textV
    by_cases h0 : v < 0
    ·rw [decide_eq_true h0, idx_none (by omega)]; rfl
    by_cases h1 : v ≥ (fl.length : Int)
    ·rw [decide_eq_false h0, decide_eq_true h1, idx_none (by omega)]; rfl
    obtain ⟨f, hf⟩ := idx_lt (L := fl) (v := v) (by omega) (by omega)
    rw [decide_eq_false h0, decide_eq_false h1, hf]
    simp only [cond_false, Option.bind_some]
    unfold bne
    cases (f.Sort'.Kind == 2) <;> rfl
   have inner : z182_l4 fl (k : Int) (z182_l2 (m + 3) g fl n) x (m + 3) (0 : Int) = bif textV fl x.1 && textV fl x.2 then z182_k3 (k : Int) (z182_l2 (m + 3) g fl n) else some false := by
    simp only [z182_l4, e0, e1, w0, w1, l0, l1, l2, cond_true, cond_false, Option.bind_some]
    rw [one, one]
    cases textV fl x.1 <;> cases textV fl x.2 <;> rfl
   simp only [z182_l2, lt_t hk, cond_true, idx_nat, hx, Option.bind_some, inner, z182_k3]
   rw [w64_succ (by omega)]
  ·intro n k hk
   simp only [z182_l2, lt_f hk, cond_false, z182_k1]
 ·intro n k x hk hx
  simp only [z182_l6, lt_t hk, idx_nat, hx, cond_true, Option.bind_some, w64_succ (show k < 4611686018427387904 by omega)]
  by_cases d1 : minI x.X x.Y < -1
  ·rw [decide_eq_true d1, decide_eq_false (show ¬ diffOk (fl.length : Int) x by rw [minI_lt] at d1; unfold diffOk; omega)]; rfl
  by_cases d2 : maxI x.X x.Y ≥ (fl.length : Int)
  ·rw [decide_eq_false d1, decide_eq_true d2, decide_eq_false (show ¬ diffOk (fl.length : Int) x by rw [maxI_ge] at d2; unfold diffOk; omega)]; rfl
  by_cases d3 : x.C < -20000
  ·rw [decide_eq_false d1, decide_eq_false d2, decide_eq_true d3, decide_eq_false (show ¬ diffOk (fl.length : Int) x by unfold diffOk; omega)]; rfl
  by_cases d4 : x.C > 20000
  ·rw [decide_eq_false d1, decide_eq_false d2, decide_eq_false d3, decide_eq_true d4, decide_eq_false (show ¬ diffOk (fl.length : Int) x by unfold diffOk; omega)]; rfl
  rw [decide_eq_false d1, decide_eq_false d2, decide_eq_false d3, decide_eq_false d4, decide_eq_true (show diffOk (fl.length : Int) x by rw [minI_lt] at d1; rw [maxI_ge] at d2; unfold diffOk; omega)]; rfl
 ·intro n k hk
  simp only [z182_l6, lt_f hk, cond_false]
theorem goodGuard_eq (hN : 4194304 < N) (l : List T0) (hl : l.length ≤ 1000) (hd : ∀ d ∈ l, SizeD d) (g : T5) (h1 : g.Diffs.length ≤ 4194304) (h2 : g.Equals.length ≤ 4194304) : z154 N l g = some (guardV (flat l) g) := by
 unfold z154 guardV
 rw [vars_eq hN l hl hd, Option.bind_some]
 rw [allV_from (fun d _ => decide (diffOk ((flat l).length : Int) d)) (xs := g.Diffs) (F := z154_l4 N l g ((flat l).length : Int)) (e := z154_k3 N l g) (by omega)]
 ·unfold z154_k3
  rw [allV_from (fun e _ => textV (flat l) e.1 && textV (flat l) e.2) (xs := g.Equals) (F := z154_l2 N l g) (e := z154_k1 g) (by omega)]
  ·have hk1 : z154_k1 g = some (decide (g.Diffs.length ≤ 20 ∧ g.Equals.length ≤ 20)) := by
    unfold z154_k1
    by_cases c1 : (g.Diffs.length : Int) ≤ 20
    ·rw [decide_eq_true c1, cond_true]
     congr 1
     rw [decide_eq_decide]; omega
    ·rw [decide_eq_false c1, decide_eq_false (show ¬ (g.Diffs.length ≤ 20 ∧ g.Equals.length ≤ 20) by omega)]; rfl
   rw [hk1]
   cases allV (fun d _ => decide (diffOk ((flat l).length : Int) d)) g.Diffs 0 <;> cases allV (fun e _ => textV (flat l) e.1 && textV (flat l) e.2) g.Equals 0 <;> cases decide (g.Diffs.length ≤ 20 ∧ g.Equals.length ≤ 20) <;> rfl
  ·intro n k x hk hx
   simp only [z154_l2, lt_t hk, cond_true, idx_nat, hx, Option.bind_some, text_eq hN l hl hd, w64_succ (show k < 4611686018427387904 by omega)]
   cases textV (flat l) x.1 <;> cases textV (flat l) x.2 <;> rfl
  ·intro n k hk
   simp only [z154_l2, lt_f hk, cond_false]
 ·intro n k x hk hx
  simp only [z154_l4, lt_t hk, idx_nat, hx, cond_true, Option.bind_some, w64_succ (show k < 4611686018427387904 by omega)]
  by_cases d1 : x.X < -1
  ·rw [decide_eq_true d1, decide_eq_false (show ¬ diffOk ((flat l).length : Int) x by unfold diffOk; omega)]; rfl
  by_cases d2 : x.X ≥ ((flat l).length : Int)
  ·rw [decide_eq_false d1, decide_eq_true d2, decide_eq_false (show ¬ diffOk ((flat l).length : Int) x by unfold diffOk; omega)]; rfl
  by_cases d3 : x.Y < -1
  ·rw [decide_eq_false d1, decide_eq_false d2, decide_eq_true d3, decide_eq_false (show ¬ diffOk ((flat l).length : Int) x by unfold diffOk; omega)]; rfl
  by_cases d4 : x.Y ≥ ((flat l).length : Int)
  ·rw [decide_eq_false d1, decide_eq_false d2, decide_eq_false d3, decide_eq_true d4, decide_eq_false (show ¬ diffOk ((flat l).length : Int) x by unfold diffOk; omega)]; rfl
  by_cases d5 : x.C < -20000
  ·rw [decide_eq_false d1, decide_eq_false d2, decide_eq_false d3, decide_eq_false d4, decide_eq_true d5, decide_eq_false (show ¬ diffOk ((flat l).length : Int) x by unfold diffOk; omega)]; rfl
  by_cases d6 : x.C > 20000
  ·rw [decide_eq_false d1, decide_eq_false d2, decide_eq_false d3, decide_eq_false d4, decide_eq_false d5, decide_eq_true d6, decide_eq_false (show ¬ diffOk ((flat l).length : Int) x by unfold diffOk; omega)]; rfl
  rw [decide_eq_false d1, decide_eq_false d2, decide_eq_false d3, decide_eq_false d4, decide_eq_false d5, decide_eq_false d6, decide_eq_true (show diffOk ((flat l).length : Int) x by unfold diffOk; omega)]; rfl
 ·intro n k hk
  simp only [z154_l4, lt_f hk, cond_false]
/-- Sorts of fields. -/
def sortOk (s : T7) : Prop := (s.Kind = 1 ∧ -1000 ≤ s.Lo ∧ s.Lo ≤ s.Hi ∧ s.Hi ≤ 1000) ∨ (s.Kind = 2 ∧ 0 ≤ s.Lo ∧ s.Lo ≤ s.Hi ∧ s.Hi ≤ 40)
instance (s : T7) : Decidable (sortOk s) := by unfold sortOk; infer_instance
theorem three (a b c : Prop) [Decidable a] [Decidable b] [Decidable c] : (bif decide a then (bif decide b then some (decide c) else some false) else some false) = some (decide (a ∧ b ∧ c)) := by
 by_cases ha : a <;> by_cases hb : b <;> simp [ha, hb]
theorem sorted_eq (s : T7) : z179 N s = some (decide (sortOk s)) := by
 unfold z179
 rw [three, three]
 by_cases h1 : s.Kind = 1
 ·rw [show (s.Kind == 1) = true by simp [h1], cond_true]; congr 1; rw [decide_eq_decide]; unfold sortOk; omega
 ·rw [show (s.Kind == 1) = false by simp [h1], cond_false]
  by_cases h2 : s.Kind = 2
  ·rw [show (s.Kind == 2) = true by simp [h2], cond_true]; congr 1; rw [decide_eq_decide]; unfold sortOk; omega
  ·rw [show (s.Kind == 2) = false by simp [h2], cond_false, decide_eq_false (show ¬ sortOk s by unfold sortOk; omega)]
theorem goodSort_eq (s : T7) : z152 N s = some (decide (sortOk s)) := by
 unfold z152 z152_k1
 rw [three, three]
 by_cases h1 : s.Kind = 1
 ·rw [show (s.Kind == 1) = true by simp [h1], show (s.Kind == 2) = false by simp [h1]]; simp only [cond_true, cond_false]; congr 1; rw [decide_eq_decide]; unfold sortOk; omega
 ·rw [show (s.Kind == 1) = false by simp [h1]]
  by_cases h2 : s.Kind = 2
  ·rw [show (s.Kind == 2) = true by simp [h2]]; simp only [cond_true, cond_false]; congr 1; rw [decide_eq_decide]; unfold sortOk; omega
  ·rw [show (s.Kind == 2) = false by simp [h2]]; simp only [cond_false]; rw [decide_eq_false (show ¬ sortOk s by unfold sortOk; omega)]
end Gp
end
section
/- Plain law: both sides find the same automata valid. -/
set_option linter.unusedVariables false
set_option linter.unusedSimpArgs false
namespace Gp
open Go Go.Kx Gx
variable {N : Nat}
/-- Sizes of the names of a declaration. -/
structure NameD (x : T0) : Prop where
 n : x.Name.size ≤ 4000000
 f : ∀ f ∈ x.Fields, f.Name.size ≤ 4000000
def fieldV (x : T0) (f : T3) (j : Nat) : Bool := isWord f.Name && (decide (sortOk f.Sort') && !((x.Fields.take j).any fun y => eqStr y.Name f.Name))
def declV (fl : List T3) (l : List T0) (x : T0) (k : Nat) : Bool :=
 pathV x.Name && (decide (x.Fields.length ≤ 4) && (decide (x.First = ((flat (l.take k)).length : Int)) && (!((l.take k).any fun y => eqStr y.Name x.Name) && (allV (fieldV x) x.Fields 0 && guardV fl x.Guard))))
def validD (l : List T0) : Bool := decide (l.length ≤ 40) && (decide ((flat l).length ≤ 24) && allV (declV (flat l) l) l 0)
theorem containsD_eq (hN : 4194304 < N) (l : List T0) (hl : l.length ≤ 4194304) (x : T0) : z177_4 N l x = some (l.any fun y => eqStr y.Name x.Name) := by
 unfold z177_4 z77_3
 rw [look l hl (fun y k r => bif eqStr y.Name x.Name then some k else r) (z77_3_l2 N l x) (some (-1)) hN]
 ·obtain ⟨i, h1, h2⟩ := whereV_any (fun y : T0 => eqStr y.Name x.Name) l 0
  rw [h1, Option.bind_some, h2]
 ·intro n k y hk hy
  simp only [z77_3_l2, lt_t hk, idx_nat, hy, cond_true, Option.bind_some, z178_2, eqStr]
 ·intro n k hk
  simp only [z77_3_l2, lt_f hk, cond_false, z77_3_k1]
theorem containsF_eq (hN : 4194304 < N) (l : List T3) (hl : l.length ≤ 4194304) (x : T3) : z180_7 N l x = some (l.any fun y => eqStr y.Name x.Name) := by
 unfold z180_7 z190_6
 rw [look l hl (fun y k r => bif eqStr y.Name x.Name then some k else r) (z190_6_l2 N l x) (some (-1)) hN]
 ·obtain ⟨i, h1, h2⟩ := whereV_any (fun y : T3 => eqStr y.Name x.Name) l 0
  rw [h1, Option.bind_some, h2]
 ·intro n k y hk hy
  simp only [z190_6_l2, lt_t hk, idx_nat, hy, cond_true, Option.bind_some, z181_5, eqStr]
 ·intro n k hk
  simp only [z190_6_l2, lt_f hk, cond_false, z190_6_k1]
theorem flat_next {l : List T0} {k : Nat} {x : T0} (h : l[k]? = some x) : (flat (l.take (k + 1))).length = (flat (l.take k)).length + x.Fields.length := by
 rw [List.take_add_one, h]
 show (flat (l.take k ++ [x])).length = _
 rw [flat_app, List.length_append]; simp [flat]
theorem flat_take_le (l : List T0) (k : Nat) : (flat (l.take k)).length ≤ (flat l).length := by
 have : flat l = flat (l.take k) ++ flat (l.drop k) := by rw [← flat_app, List.take_append_drop]
 rw [this, List.length_append]; omega
theorem valid_eq (hN : 4194304 < N) (l : List T0) (hl : l.length ≤ 4194304) (hd : ∀ d ∈ l, SizeD d) (hn : ∀ d ∈ l, NameD d) : z158 N l = some (validD l) := by
 unfold z158 validD
 by_cases c1 : (l.length : Int) > 40
 ·rw [decide_eq_true c1, decide_eq_false (show ¬ l.length ≤ 40 by omega)]; rfl
 rw [decide_eq_false c1, decide_eq_true (show l.length ≤ 40 by omega), fields_eq hN l (by omega) hd]
 simp only [cond_false, Option.bind_some, Bool.true_and]
 by_cases c2 : ((flat l).length : Int) > 24
 ·rw [decide_eq_true c2, decide_eq_false (show ¬ (flat l).length ≤ 24 by omega)]; rfl
 rw [decide_eq_false c2, decide_eq_true (show (flat l).length ≤ 24 by omega)]
 simp only [cond_false, Bool.true_and]
 have hfl := flat_le l hd
 have h := allV_from (declV (flat l) l) (xs := l) (F := fun n i => z158_l2 N l (flat l) n ((flat (l.take i.toNat)).length : Int) i) (e := some true) (n := N) (by omega) (by
  intro n k x hk hx
  show z158_l2 N l (flat l) (n + 1) ((flat (l.take k)).length : Int) (k : Int) = bif declV (flat l) l x k then z158_l2 N l (flat l) n ((flat (l.take (k + 1))).length : Int) ((k + 1 : Nat) : Int) else some false
  have hxm : x ∈ l := List.mem_of_getElem? hx
  have sx := hd x hxm
  have nx := hn x hxm
  have ht : lsl l none (some (k : Int)) = some (l.take k) := lsl_to (A := l.take k) (B := l.drop k) (List.take_append_drop k l).symm (by simp; omega)
  have hft := flat_take_le l k
  have hnext : w64 (((flat (l.take k)).length : Int) + (x.Fields.length : Int)) = ((flat (l.take (k + 1))).length : Int) := by rw [flat_next hx, w64_id (by have := sx.f; omega) (by have := sx.f; omega)]; omega
  have inner : z158_l4 N (flat l) ((flat (l.take k)).length : Int) (k : Int) (z158_l2 N l (flat l) n) x N (0 : Int) = bif allV (fieldV x) x.Fields 0 then z158_k3 N (flat l) ((flat (l.take k)).length : Int) (k : Int) (z158_l2 N l (flat l) n) x else some false := by
   refine allV_from (fieldV x) (by have := sx.f; omega) ?_ ?_
   ·intro m j f hj hf
    have sf := sx.f
    have hw := (word_eq hN f.Name (by have := nx.f f (List.mem_of_getElem? hf); omega)).1
    have ht' : lsl x.Fields none (some (j : Int)) = some (x.Fields.take j) := lsl_to (A := x.Fields.take j) (B := x.Fields.drop j) (List.take_append_drop j _).symm (by simp; omega)
    have hc := containsF_eq hN (x.Fields.take j) (by simp; omega) f
    simp only [z158_l4, lt_t hj, cond_true, idx_nat, hf, Option.bind_some, hw, sorted_eq, ht', hc, fieldV]
    rw [w64_succ (by omega)]
    cases isWord f.Name <;> cases decide (sortOk f.Sort') <;> cases ((x.Fields.take j).any fun y => eqStr y.Name f.Name) <;> rfl
   ·intro m j hj
    simp only [z158_l4, lt_f hj, cond_false]
  have hc := containsD_eq hN (l.take k) (by simp; omega) x
  simp only [z158_l2, lt_t hk, cond_true, idx_nat, hx, Option.bind_some, path_eq hN, ht, hc, inner, z158_k3, guarded_eq hN, declV, hnext]
  rw [w64_succ (by omega)]
  have e1 : decide ((x.Fields.length : Int) > 4) = !decide (x.Fields.length ≤ 4) := by
   by_cases q : x.Fields.length ≤ 4
   ·rw [decide_eq_true q, decide_eq_false (by omega)]; rfl
   ·rw [decide_eq_false q, decide_eq_true (by omega)]; rfl
  have e2 : (x.First != ((flat (l.take k)).length : Int)) = !decide (x.First = ((flat (l.take k)).length : Int)) := by
   by_cases q : x.First = ((flat (l.take k)).length : Int)
   ·rw [decide_eq_true q]; simp [q]
   ·rw [decide_eq_false q]; simp [q]
  rw [e1, e2]
  cases pathV x.Name <;> cases decide (x.Fields.length ≤ 4) <;> cases decide (x.First = ((flat (l.take k)).length : Int)) <;> cases ((l.take k).any fun y => eqStr y.Name x.Name) <;> cases allV (fieldV x) x.Fields 0 <;> cases guardV (flat l) x.Guard <;> rfl) (by
  intro n k hk
  show z158_l2 N l (flat l) (n + 1) ((flat (l.take k)).length : Int) (k : Int) = some true
  simp only [z158_l2, lt_f hk, cond_false, z158_k1])
 have h' : z158_l2 N l (flat l) N (0 : Int) (0 : Int) = bif allV (declV (flat l) l) l 0 then some true else some false := h
 rw [h']
 cases allV (declV (flat l) l) l 0 <;> rfl
theorem allV_not_any {α : Type} (f : α → Bool) : ∀ (l : List α) (k : Nat), allV (fun y _ => !f y) l k = !(l.any f)
 | [], _ => rfl
 | x :: l, k => by
  show (!f x && allV _ l (k + 1)) = _
  rw [allV_not_any f l, List.any_cons]
  cases f x <;> rfl
theorem take_get {α : Type} {l : List α} {k i : Nat} {x : α} (h : (l.take k)[i]? = some x) : l[i]? = some x ∧ i < k := by
 rw [List.getElem?_take] at h
 split at h
 ·exact ⟨h, by assumption⟩
 ·cases h
theorem refValid_eq (hN : 4194304 < N) (l : List T0) (hl : l.length ≤ 4194304) (hd : ∀ d ∈ l, SizeD d) (hn : ∀ d ∈ l, NameD d) : z113 N l = some (validD l) := by
 unfold z113 validD
 by_cases c1 : (l.length : Int) > 40
 ·rw [decide_eq_true c1, decide_eq_false (show ¬ l.length ≤ 40 by omega)]; rfl
 rw [decide_eq_false c1, decide_eq_true (show l.length ≤ 40 by omega), vars_eq hN l (by omega) hd]
 simp only [cond_false, Option.bind_some, Bool.true_and]
 by_cases c2 : ((flat l).length : Int) > 24
 ·rw [decide_eq_true c2, decide_eq_false (show ¬ (flat l).length ≤ 24 by omega)]; rfl
 rw [decide_eq_false c2, decide_eq_true (show (flat l).length ≤ 24 by omega)]
 simp only [cond_false, Bool.true_and]
 have hfl := flat_le l hd
 have h := allV_from (declV (flat l) l) (xs := l) (F := fun n i => z113_l2 N l n ((flat (l.take i.toNat)).length : Int) i) (e := some true) (n := N) (by omega) (by
  intro n k x hk hx
  show z113_l2 N l (n + 1) ((flat (l.take k)).length : Int) (k : Int) = bif declV (flat l) l x k then z113_l2 N l n ((flat (l.take (k + 1))).length : Int) ((k + 1 : Nat) : Int) else some false
  have hxm : x ∈ l := List.mem_of_getElem? hx
  have sx := hd x hxm
  have nx := hn x hxm
  have hft := flat_take_le l k
  have hnext : w64 (((flat (l.take k)).length : Int) + (x.Fields.length : Int)) = ((flat (l.take (k + 1))).length : Int) := by rw [flat_next hx, w64_id (by have := sx.f; omega) (by have := sx.f; omega)]; omega
  have inner8 : z113_l8 N l ((flat (l.take k)).length : Int) (k : Int) (z113_l2 N l n) x N (0 : Int) = bif allV (fun y _ => !eqStr y.Name x.Name) (l.take k) 0 then z113_k7 N l ((flat (l.take k)).length : Int) (k : Int) (z113_l2 N l n) x else some false := by
   refine allV_from (fun (y : T0) _ => !eqStr y.Name x.Name) (by simp; omega) ?_ ?_
   ·intro m j y hj hy
    obtain ⟨hy', hjk⟩ := take_get hy
    simp only [z113_l8, lt_t hjk, cond_true, idx_nat, hy', Option.bind_some, eqStr]
    rw [w64_succ (by omega)]
    cases (y.Name.toList == x.Name.toList) <;> rfl
   ·intro m j hj
    have : k ≤ j := by simp at hj; omega
    simp only [z113_l8, lt_f this, cond_false]
  have inner4 : z113_l4 N l ((flat (l.take k)).length : Int) (k : Int) (z113_l2 N l n) x N (0 : Int) = bif allV (fieldV x) x.Fields 0 then z113_k3 N l ((flat (l.take k)).length : Int) (k : Int) (z113_l2 N l n) x else some false := by
   refine allV_from (fieldV x) (by have := sx.f; omega) ?_ ?_
   ·intro m j f hj hf
    have sf := sx.f
    have hw := (word_eq hN f.Name (by have := nx.f f (List.mem_of_getElem? hf); omega)).2
    have inner6 : z113_l6 x (j : Int) (z113_l4 N l ((flat (l.take k)).length : Int) (k : Int) (z113_l2 N l n) x m) N (0 : Int) = bif allV (fun y _ => !eqStr y.Name f.Name) (x.Fields.take j) 0 then z113_k5 (j : Int) (z113_l4 N l ((flat (l.take k)).length : Int) (k : Int) (z113_l2 N l n) x m) else some false := by
     refine allV_from (fun (y : T3) _ => !eqStr y.Name f.Name) (by simp; omega) ?_ ?_
     ·intro p i y hi hy
      obtain ⟨hy', hij⟩ := take_get hy
      simp only [z113_l6, lt_t hij, cond_true, idx_nat, hy', hf, Option.bind_some, eqStr]
      rw [w64_succ (by omega)]
      cases (y.Name.toList == f.Name.toList) <;> rfl
     ·intro p i hi
      have : j ≤ i := by simp at hi; omega
      simp only [z113_l6, lt_f this, cond_false]
    simp only [z113_l4, lt_t hj, cond_true, idx_nat, hf, Option.bind_some, hw, goodSort_eq, inner6, fieldV, z113_k5, allV_not_any]
    rw [w64_succ (by omega)]
    cases isWord f.Name <;> cases decide (sortOk f.Sort') <;> cases ((x.Fields.take j).any fun y => eqStr y.Name f.Name) <;> rfl
   ·intro m j hj
    simp only [z113_l4, lt_f hj, cond_false]
  have hg := goodGuard_eq hN l (by omega) hd x.Guard sx.d sx.e
  simp only [z113_l2, lt_t hk, cond_true, idx_nat, hx, Option.bind_some, inner8, inner4, z113_k7, z113_k3, refPath_eq hN x.Name nx.n, hg, declV, hnext, allV_not_any]
  rw [w64_succ (by omega)]
  have e1 : decide ((x.Fields.length : Int) > 4) = !decide (x.Fields.length ≤ 4) := by
   by_cases q : x.Fields.length ≤ 4
   ·rw [decide_eq_true q, decide_eq_false (by omega)]; rfl
   ·rw [decide_eq_false q, decide_eq_true (by omega)]; rfl
  have e2 : (x.First != ((flat (l.take k)).length : Int)) = !decide (x.First = ((flat (l.take k)).length : Int)) := by
   by_cases q : x.First = ((flat (l.take k)).length : Int)
   ·rw [decide_eq_true q]; simp [q]
   ·rw [decide_eq_false q]; simp [q]
  rw [e1, e2]
  cases pathV x.Name <;> cases decide (x.Fields.length ≤ 4) <;> cases decide (x.First = ((flat (l.take k)).length : Int)) <;> cases ((l.take k).any fun y => eqStr y.Name x.Name) <;> cases allV (fieldV x) x.Fields 0 <;> cases guardV (flat l) x.Guard <;> rfl) (by
  intro n k hk
  show z113_l2 N l (n + 1) ((flat (l.take k)).length : Int) (k : Int) = some true
  simp only [z113_l2, lt_f hk, cond_false, z113_k1])
 have h' : z113_l2 N l N (0 : Int) (0 : Int) = bif allV (declV (flat l) l) l 0 then some true else some false := h
 rw [h']
 cases allV (declV (flat l) l) l 0 <;> rfl
end Gp
end
section
/- Plain law: both sides find the same automata valid, and what a valid automaton is. -/
set_option linter.unusedVariables false
set_option linter.unusedSimpArgs false
namespace Gp
open Go Go.Kx Gx
variable {N : Nat}
/-- The least numbers of edges are one list. -/
theorem Dist.le {E : List (Int × Int)} {S : Nat} {e : Int} {L M : List Int} (hL : Dist E S e L) (hM : Dist E S e M) : ∀ (k : Nat) (v : Int), idx L v = some (k : Int) → ∃ m, idx M v = some m ∧ 0 ≤ m ∧ m ≤ (k : Int) := by
 intro k
 induction k with
 | zero =>
  intro v hv
  have := hL.zero v hv
  subst this
  exact ⟨0, hM.root, by omega, by omega⟩
 | succ k ih =>
  intro v hv
  obtain ⟨u, hu, hl⟩ := hL.pred v _ hv (by omega)
  obtain ⟨m, m1, m2, m3⟩ := ih u (by rw [hl]; congr 1; omega)
  obtain ⟨d, d1, d2, d3⟩ := hM.succ u v m hu m1 m2
  exact ⟨d, d1, d2, by omega⟩
theorem Dist.uniq {E : List (Int × Int)} {S : Nat} {e : Int} {L M : List Int} (hL : Dist E S e L) (hM : Dist E S e M) : L = M := by
 refine List.ext_getElem? fun i => ?_
 by_cases hi : i < S
 ·obtain ⟨d, hd⟩ := idx_lt (L := L) (v := (i : Int)) (by omega) (by rw [hL.len]; omega)
  obtain ⟨m, hm⟩ := idx_lt (L := M) (v := (i : Int)) (by omega) (by rw [hM.len]; omega)
  have a := (hL.lo _ _ hd).1
  have b := (hM.lo _ _ hm).1
  have one : 0 ≤ d → 0 ≤ m ∧ m ≤ d := by
   intro h
   obtain ⟨x, x1, x2, x3⟩ := hL.le hM d.toNat (i : Int) (by rw [hd]; congr 1; omega)
   rw [hm] at x1; cases x1; exact ⟨x2, by omega⟩
  have two : 0 ≤ m → 0 ≤ d ∧ d ≤ m := by
   intro h
   obtain ⟨x, x1, x2, x3⟩ := hM.le hL m.toNat (i : Int) (by rw [hm]; congr 1; omega)
   rw [hd] at x1; cases x1; exact ⟨x2, by omega⟩
  rw [idx_nat] at hd hm
  rw [hd, hm]
  congr 1
  by_cases h : 0 ≤ d
  ·have := one h; have := two this.1; omega
  ·by_cases h' : 0 ≤ m
   ·have := two h'; omega
   ·omega
 ·rw [List.getElem?_eq_none (by rw [hL.len]; omega), List.getElem?_eq_none (by rw [hM.len]; omega)]
structure SizeN (g : T4) : Prop where
 n : g.Name.size ≤ 4000000
 r : ∀ s ∈ g.Roles, s.size ≤ 4000000
 d : ∀ x ∈ g.Decls, NameD x
def roleV (g : T4) (s : ByteArray) (i : Nat) : Bool := isWord s && !((g.Roles.take i).any fun y => eqStr y s)
def namedV (g : T4) : Bool := isWord g.Name && (decide (1 ≤ g.Roles.length ∧ g.Roles.length ≤ 6) && allV (roleV g) g.Roles 0)
theorem named_eq (hN : 4194304 < N) (g : T4) (hg : SizeG g) (hs : SizeN g) : z61 N g = some (namedV g) := by
 unfold z61 namedV
 rw [(word_eq hN g.Name (by have := hs.n; omega)).1]
 have hr := hg.r
 rw [allV_from (roleV g) (xs := g.Roles) (F := z61_l2 N g) (e := some true) (by omega)]
 ·simp only [Option.bind_some]
  by_cases c1 : (g.Roles.length : Int) < 1
  ·rw [decide_eq_true c1, decide_eq_false (show ¬ (1 ≤ g.Roles.length ∧ g.Roles.length ≤ 6) by omega)]; cases isWord g.Name <;> rfl
  by_cases c2 : (g.Roles.length : Int) > 6
  ·rw [decide_eq_false c1, decide_eq_true c2, decide_eq_false (show ¬ (1 ≤ g.Roles.length ∧ g.Roles.length ≤ 6) by omega)]; cases isWord g.Name <;> rfl
  rw [decide_eq_false c1, decide_eq_false c2, decide_eq_true (show 1 ≤ g.Roles.length ∧ g.Roles.length ≤ 6 by omega)]
  cases isWord g.Name <;> cases allV (roleV g) g.Roles 0 <;> rfl
 ·intro n k x hk hx
  have hw := (word_eq hN x (by have := hs.r x (List.mem_of_getElem? hx); omega)).1
  have ht : lsl g.Roles none (some (k : Int)) = some (g.Roles.take k) := lsl_to (A := g.Roles.take k) (B := g.Roles.drop k) (List.take_append_drop k _).symm (by simp; omega)
  have hc := contains_eq hN (g.Roles.take k) (by simp; omega) x
  simp only [z61_l2, lt_t hk, cond_true, idx_nat, hx, Option.bind_some, hw, ht, hc, roleV]
  rw [w64_succ (by omega)]
  cases isWord x <;> cases ((g.Roles.take k).any fun y => eqStr y x) <;> rfl
 ·intro n k hk
  simp only [z61_l2, lt_f hk, cond_false, z61_k1]
theorem first_before {α : Type} (f : α → Bool) : ∀ (l : List α) (k i : Nat) (x : α), l[i]? = some x → f x = true → ∃ j, lv (fun x (k : Nat) r => bif f x then some (k : Int) else r) (some (-1)) l k = some j ∧ decide (j < ((k + i : Nat) : Int)) = (l.take i).any f
 | [], k, i, x, h, _ => by simp at h
 | y :: l, k, i, x, h, hf => by
  show ∃ j, (bif f y then some (k : Int) else lv _ _ l (k + 1)) = some j ∧ _
  cases i with
  | zero =>
   simp at h; subst h
   rw [hf]
   exact ⟨k, rfl, by simp⟩
  | succ i =>
   rw [List.take_succ_cons, List.any_cons]
   cases hy : f y
   ·obtain ⟨j, j1, j2⟩ := first_before f l (k + 1) i x (by simpa using h) hf
    exact ⟨j, j1, by rw [show k + (i + 1) = k + 1 + i by omega, j2]; rfl⟩
   ·exact ⟨k, rfl, by simp; omega⟩
theorem names_eq (hN : 4194304 < N) (g : T4) (hg : SizeG g) (hs : SizeN g) : z51 N g = some (namedV g && validD g.Decls) := by
 unfold z51 namedV
 have hr := hg.r
 rw [allV_from (roleV g) (xs := g.Roles) (F := z51_l2 N g) (e := z51_k1 N g) (by omega)]
 ·unfold z51_k1
  rw [(word_eq hN g.Name (by have := hs.n; omega)).2, refValid_eq hN g.Decls hg.d hg.dd hs.d]
  simp only [Option.bind_some]
  by_cases c1 : (g.Roles.length : Int) ≥ 1
  ·by_cases c2 : (g.Roles.length : Int) ≤ 6
   ·rw [decide_eq_true c1, decide_eq_true c2, decide_eq_true (show 1 ≤ g.Roles.length ∧ g.Roles.length ≤ 6 by omega)]
    cases isWord g.Name <;> cases allV (roleV g) g.Roles 0 <;> rfl
   ·rw [decide_eq_true c1, decide_eq_false c2, decide_eq_false (show ¬ (1 ≤ g.Roles.length ∧ g.Roles.length ≤ 6) by omega)]
    cases isWord g.Name <;> cases allV (roleV g) g.Roles 0 <;> rfl
  ·rw [decide_eq_false c1, decide_eq_false (show ¬ (1 ≤ g.Roles.length ∧ g.Roles.length ≤ 6) by omega)]
   cases isWord g.Name <;> cases allV (roleV g) g.Roles 0 <;> rfl
 ·intro n k x hk hx
  have hw := (word_eq hN x (by have := hs.r x (List.mem_of_getElem? hx); omega)).2
  obtain ⟨j, j1, j2⟩ := first_before (fun y => eqStr y x) g.Roles 0 k x hx (eqStr_refl x)
  have hi : z76 N g.Roles x = some j := by rw [refIndex_eq hN g.Roles hr]; exact j1
  rw [Nat.zero_add] at j2
  simp only [z51_l2, lt_t hk, cond_true, idx_nat, hx, Option.bind_some, hw, hi, j2, roleV]
  rw [w64_succ (by omega)]
  cases isWord x <;> cases ((g.Roles.take k).any fun y => eqStr y x) <;> rfl
 ·intro n k hk
  simp only [z51_l2, lt_f hk, cond_false]
theorem bounds_l2 (d : T0) (hd : d.Guard.Equals.length ≤ 4194304) : ∀ (l : List (Int × Int)) (k n : Nat) (acc : List T1), d.Guard.Equals.drop k = l → l.length < n → acc.length + 2 * l.length ≤ 4294967296 → ∃ r, z159_l2 d n acc (k : Int) = some r := by
 intro l
 induction l with
 | nil =>
  intro k n acc h hn _
  obtain ⟨n, rfl⟩ : ∃ m, n = m + 1 := ⟨n - 1, by simp at hn; omega⟩
  exact ⟨acc, by simp only [z159_l2, lt_f (drop_nil h), cond_false, z159_k1]⟩
 | cons x l ih =>
  intro k n acc h hn ha
  obtain ⟨n, rfl⟩ : ∃ m, n = m + 1 := ⟨n - 1, by simp at hn; omega⟩
  obtain ⟨a, c, e⟩ := drop_cons h
  simp only [List.length_cons] at ha hn
  simp only [z159_l2, lt_t a, cond_true, idx_nat, c, Option.bind_some]
  rw [appL_some (by simp; omega), Option.bind_some, w64_succ (by omega)]
  exact ih (k + 1) n _ e (by omega) (by simp; omega)
theorem bounds_l4 (hN : 4194304 < N) (d : T0) (hd : SizeD d) : ∀ (l : List T3) (k n : Nat) (acc : List T1), d.Fields.drop k = l → l.length < n → acc.length + 2 * l.length ≤ 16777216 → ∃ r, z159_l4 N d n acc (k : Int) = some r := by
 intro l
 have h1 := hd.f
 have h2 := hd.d
 have h3 := hd.e
 induction l with
 | nil =>
  intro k n acc h hn ha
  obtain ⟨n, rfl⟩ : ∃ m, n = m + 1 := ⟨n - 1, by simp at hn; omega⟩
  simp only [z159_l4, lt_f (drop_nil h), cond_false, z159_k3]
  simp at ha
  rw [appL_some (by omega), Option.bind_some]
  exact bounds_l2 d h3 d.Guard.Equals 0 N _ rfl (by omega) (by simp; omega)
 | cons x l ih =>
  intro k n acc h hn ha
  obtain ⟨n, rfl⟩ : ∃ m, n = m + 1 := ⟨n - 1, by simp at hn; omega⟩
  obtain ⟨a, c, e⟩ := drop_cons h
  simp only [List.length_cons] at ha hn
  simp only [z159_l4, lt_t a, cond_true, idx_nat, c, Option.bind_some]
  rw [appL_some (by simp; omega), Option.bind_some, w64_succ (by omega)]
  exact ih (k + 1) n _ e (by omega) (by simp; omega)
theorem declared_eq (hN : 4194304 < N) (l : List T0) (hl : l.length ≤ 4194304) (hd : ∀ d ∈ l, SizeD d) (hn : ∀ d ∈ l, NameD d) : z63 N l = some (validD l) := by
 unfold z63
 cases l with
 | nil => rfl
 | cons x l =>
  have h0 : (((x :: l).length : Int) == 0) = false := by simp; omega
  have h1 : decide ((0 : Int) < 0) = false := rfl
  have h2 : decide ((0 : Int) ≥ ((x :: l).length : Int)) = false := by simp
  have e0 : idx (x :: l) (0 : Int) = some x := by rw [show (0 : Int) = ((0 : Nat) : Int) from rfl, idx_nat]; rfl
  have hb : ∃ r, z159 N x = some r := bounds_l4 hN x (hd x (by simp)) x.Fields 0 N [] rfl (by have := (hd x (by simp)).f; omega) (by have := (hd x (by simp)).f; simp; omega)
  obtain ⟨r, hr⟩ := hb
  unfold z122
  rw [h0, h1, h2, valid_eq hN (x :: l) hl hd hn, e0]
  simp only [cond_false, Option.bind_some, hr]
  cases validD (x :: l) <;> rfl
/-- A valid automaton. -/
structure ValidG (g : T4) : Prop where
 named : namedV g = true
 num : numV g = true
 decls : validD g.Decls = true
 apart : apartV g = true
 noEnd : (g.Edges.all fun x => !(x.From == g.End)) = true
 time : timeV g = true
 reach : ∃ F, Dist (ers g false) g.States.toNat g.Start F ∧ posV F = true
 ends : ∃ L, Dist (ers g true) g.States.toNat g.End L ∧ posV L = true
theorem Valid_both (hN : 4194304 < N) (g : T4) (hg : SizeG g) (hs : SizeN g) (hn : NumE g) : ∃ b, z22 N g = some b ∧ z19 N g = some b ∧ (b = true ↔ ValidG g) := by
 unfold z22 z19
 rw [named_eq hN g hg hs, numbered_eq hN g hg.e, declared_eq hN g.Decls hg.d hg.dd hs.d, ordered_eq hN g hg.e, timed_eq hN g hg.t, names_eq hN g hg hs, numbers_eq hN g hg.e, apart_eq hN g hg.e]
 simp only [Option.bind_some]
 cases h1 : namedV g
 ·exact ⟨false, by simp, by simp, by simp; intro h; have := h.named; rw [h1] at this; cases this⟩
 cases h2 : numV g
 ·refine ⟨false, by simp, ?_, by simp; intro h; have := h.num; rw [h2] at this; cases this⟩
  cases validD g.Decls <;> rfl
 cases h3 : validD g.Decls
 ·exact ⟨false, by simp, by simp, by simp; intro h; have := h.decls; rw [h3] at this; cases this⟩
 rw [orderV_eq]
 obtain ⟨o1, o2, o3, o4, o5, o6, o7⟩ := numV_head h2
 obtain ⟨F, f1, f2⟩ := spread_eq hN g h2 false g.Start o3 o4
 obtain ⟨L, l1, l2⟩ := spread_eq hN g h2 true g.End o5 o6
 rw [f1, l1, connected_eq hN g h2 hn l2 f2, refTimed_eq hN g hg.t h2]
 have cF := containsInt_eq hN F (by rw [f2.len]; omega) (-1)
 have cL := containsInt_eq hN L (by rw [l2.len]; omega) (-1)
 have pF : (F.any fun d => d == -1) = !posV F := by unfold posV; rw [Bool.not_not]
 have pL : (L.any fun d => d == -1) = !posV L := by unfold posV; rw [Bool.not_not]
 rw [pF] at cF
 rw [pL] at cL
 simp only [Option.bind_some, cF, cL]
 cases h4 : apartV g
 ·exact ⟨false, by simp, by simp, by simp; intro h; have := h.apart; rw [h4] at this; cases this⟩
 cases h5 : (g.Edges.all fun x => !(x.From == g.End))
 ·refine ⟨false, by simp, ?_, ?_⟩
  ·cases posV F <;> cases posV L <;> rfl
  ·simp only [Bool.false_eq_true, false_iff]
   intro h; have := h.noEnd; rw [h5] at this; cases this
 cases h6 : timeV g
 ·refine ⟨false, by simp, ?_, ?_⟩
  ·cases posV F <;> cases posV L <;> rfl
  ·simp only [Bool.false_eq_true, false_iff]
   intro h; have := h.time; rw [h6] at this; cases this
 cases h7 : posV F
 ·refine ⟨false, by simp, by simp, ?_⟩
  simp only [Bool.false_eq_true, false_iff]
  intro h
  obtain ⟨F', a, b⟩ := h.reach
  rw [a.uniq f2, h7] at b; cases b
 cases h8 : posV L
 ·refine ⟨false, by simp, by simp, ?_⟩
  simp only [Bool.false_eq_true, false_iff]
  intro h
  obtain ⟨L', a, b⟩ := h.ends
  rw [a.uniq l2, h8] at b; cases b
 exact ⟨true, by simp, by simp, by simp; exact ⟨h1, h2, h3, h4, h5, h6, ⟨F, f2, h7⟩, ⟨L, l2, h8⟩⟩⟩
end Gp
end
section
/- Plain law: both sides number the states alike. -/
set_option linter.unusedVariables false
set_option linter.unusedSimpArgs false
namespace Gp
open Go Go.Kx Gx
variable {N : Nat}
/-- The first place of a number, from k on. -/
def plc : List Int → Int → Nat → Int
 | [], _, _ => -1
 | x :: l, v, k => if x = v then (k : Int) else plc l v (k + 1)
theorem place_eq (hN : 4194304 < N) (l : List Int) (hl : l.length ≤ 4194304) (v : Int) : z80 N l v = some (plc l v 0) := by
 unfold z80
 rw [look l hl (fun x k r => bif x == v then some k else r) (z80_l2 l v) (some (-1)) hN]
 ·generalize (0 : Nat) = k
  clear hl
  induction l generalizing k with
  | nil => rfl
  | cons x l ih =>
   show (bif x == v then some (k : Int) else lv _ _ l (k + 1)) = some (if x = v then (k : Int) else plc l v (k + 1))
   by_cases h : x = v
   ·rw [if_pos h, show (x == v) = true by simp [h]]; rfl
   ·rw [if_neg h, show (x == v) = false by simp [h]]; exact ih (k + 1)
 ·intro n k x hk hx
  simp only [z80_l2, lt_t hk, idx_nat, hx, cond_true, Option.bind_some]
 ·intro n k hk
  simp only [z80_l2, lt_f hk, cond_false, z80_k1]
theorem plc_mem : ∀ (l : List Int) (v : Int) (k : Nat), (0 ≤ plc l v k ↔ v ∈ l) ∧ (plc l v k < 0 ↔ v ∉ l)
 | [], v, k => by simp [plc]
 | x :: l, v, k => by
  unfold plc
  by_cases h : x = v
  ·subst h; rw [if_pos rfl]; simp
  ·rw [if_neg h]
   have := plc_mem l v (k + 1)
   rw [List.mem_cons, this.1, this.2]
   constructor
   ·exact ⟨fun g => .inr g, fun g => by rcases g with g | g; exact absurd g.symm h; exact g⟩
   ·exact ⟨fun g g' => by rcases g' with g' | g'; exact h g'.symm; exact g g', fun g g' => g (.inr g')⟩
theorem plc_app : ∀ (l : List Int) (v w : Int) (k : Nat), v ∉ l → plc (l ++ [v]) w k = if w = v then ((k + l.length : Nat) : Int) else plc l w k
 | [], v, w, k, _ => by
  show (if v = w then (k : Int) else -1) = _
  by_cases h : w = v
  ·subst h; rw [if_pos rfl, if_pos rfl]; simp
  ·rw [if_neg (fun g => h g.symm), if_neg h]; rfl
 | x :: l, v, w, k, hv => by
  show (if x = w then (k : Int) else plc (l ++ [v]) w (k + 1)) = _
  have hxv : x ≠ v := fun g => hv (by simp [g])
  rw [plc_app l v w (k + 1) (fun g => hv (by simp [g]))]
  by_cases h : w = v
  ·subst h
   rw [if_neg hxv, if_pos rfl, if_pos rfl, List.length_cons]; congr 1; omega
  ·rw [if_neg h, if_neg h]; rfl
/-- The numbers of states follow the order in which they were found. -/
def NumR (S : Nat) (num ord : List Int) : Prop := num.length = S ∧ ∀ v, 0 ≤ v → v < (S : Int) → idx num v = some (plc ord v 0)
def tmos (g : T4) (k : Int) : List T8 := g.Timeouts.filter fun t => t.Else == k
def ordN (ord : List Int) (v : Int) : List Int := if v ∈ ord then ord else ord ++ [v]
structure CSt where
 E : List T2
 T : List T8
 O : List Int
def stepC (g : T4) (i : Int) (s : CSt) (k : Int) : CSt :=
 match idx g.Edges k with
 | some x => ⟨s.E ++ [⟨i, x.Act, plc (ordN s.O x.To) x.To 0, x.Again⟩], s.T ++ (tmos g k).map (fun t => ⟨i, t.Ticks, (s.E.length : Int)⟩), ordN s.O x.To⟩
 | none => s
theorem timeV_sorted {g : T4} (h : timeV g = true) : g.Timeouts.Pairwise (fun a b => a.State < b.State) := by
 have h := (allV_iff _ _ _).mp h
 have one : ∀ i x, g.Timeouts[i]? = some x → lastV g i < x.State := fun i x hx => by
  have := of_decide_eq_true (h i x hx)
  rw [Nat.zero_add] at this
  exact this.1
 have lt : ∀ (j i : Nat) x y, i < j → g.Timeouts[i]? = some x → g.Timeouts[j]? = some y → x.State < y.State := by
  intro j
  induction j with
  | zero => intro i x y hij; omega
  | succ j ih =>
   intro i x y hij hx hy
   have h1 := one (j + 1) y hy
   have hj : j < g.Timeouts.length := by have := (List.getElem?_eq_some_iff.mp hy).1; omega
   have hz := List.getElem?_eq_getElem hj
   simp only [lastV, hz] at h1
   by_cases e : i = j
   ·subst e; rw [hz] at hx; cases hx; exact h1
   ·exact Int.lt_trans (ih i x _ (by omega) hx hz) h1
 rw [List.pairwise_iff_getElem]
 intro i j hi hj hij
 exact lt j i _ _ hij (List.getElem?_eq_getElem hi) (List.getElem?_eq_getElem hj)
theorem timeV_else {g : T4} (h : timeV g = true) {t : T8} (ht : t ∈ g.Timeouts) : ∃ x, idx g.Edges t.Else = some x ∧ x.From = t.State ∧ x.Again = false := by
 obtain ⟨i, hi⟩ := List.mem_iff_getElem?.mp ht
 have := of_decide_eq_true ((allV_iff _ _ _).mp h i t hi)
 obtain ⟨_, _, _, h3, h4, h5⟩ := this
 obtain ⟨e, he, _⟩ := else_some h3 h4
 unfold elseOk at h5
 rw [he] at h5
 simp only [Bool.and_eq_true, beq_iff_eq, Bool.not_eq_true'] at h5
 exact ⟨e, he, h5.1, h5.2⟩
/-- At most one time limit leads by an edge: the one of its state. -/
theorem filt (s k : Int) : ∀ (l : List T8), l.Pairwise (fun a b => a.State < b.State) → (∀ t ∈ l, t.Else = k → t.State = s) →
  l.filter (fun t => t.Else == k) = match l.find? (fun t => t.State == s) with | some t => if t.Else = k then [t] else [] | none => []
 | [], _, _ => rfl
 | x :: l, hp, hs => by
  obtain ⟨h1, h2⟩ := List.pairwise_cons.mp hp
  rw [List.filter_cons, List.find?_cons]
  by_cases hx : x.State = s
  ·rw [show (x.State == s) = true by simp [hx]]
   have hrest : l.filter (fun t => t.Else == k) = [] := by
    rw [List.filter_eq_nil_iff]
    intro t ht hk
    have hk : t.Else = k := by simpa using hk
    have := hs t (by simp [ht]) hk
    have := h1 t ht
    omega
   rw [hrest]
   by_cases hk : x.Else = k
   ·simp [hk]
   ·simp [hk]
  ·rw [show (x.State == s) = false by simp [hx]]
   have hk : ¬ x.Else = k := fun g => hx (hs x (by simp) g)
   rw [show (x.Else == k) = false by simp [hk]]
   exact filt s k l h2 (fun t ht => hs t (by simp [ht]))
theorem find_where (f : T8 → Bool) : ∀ (l : List T8) (k : Nat), ∃ j, lv (fun x (k : Nat) r => bif f x then some (k : Int) else r) (some (-1)) l k = some j ∧
  ((l.find? f = none ∧ j = -1) ∨ ∃ t m, l.find? f = some t ∧ j = ((k + m : Nat) : Int) ∧ l[m]? = some t)
 | [], k => ⟨-1, rfl, .inl ⟨rfl, rfl⟩⟩
 | x :: l, k => by
  show ∃ j, (bif f x then some (k : Int) else lv _ _ l (k + 1)) = some j ∧ _
  rw [List.find?_cons]
  cases hx : f x
  ·obtain ⟨j, j1, j2⟩ := find_where f l (k + 1)
   refine ⟨j, j1, ?_⟩
   rcases j2 with ⟨h1, h2⟩ | ⟨t, m, h1, h2, h3⟩
   ·exact .inl ⟨h1, h2⟩
   ·exact .inr ⟨t, m + 1, h1, by rw [h2]; congr 1; omega, by simpa using h3⟩
  ·exact ⟨k, rfl, .inr ⟨x, 0, rfl, by simp, by simp⟩⟩
theorem limit_eq (hN : 4194304 < N) (l : List T8) (hl : l.length ≤ 4194304) (s : Int) : ∃ j, z59_19 N l s = some j ∧
  ((l.find? (fun t => t.State == s) = none ∧ j = -1) ∨ ∃ t m, l.find? (fun t => t.State == s) = some t ∧ j = ((m : Nat) : Int) ∧ l[m]? = some t) := by
 unfold z59_19
 rw [look l hl (fun x k r => bif x.State == s then some k else r) (z59_19_l2 N l s) (some (-1)) hN]
 ·obtain ⟨j, j1, j2⟩ := find_where (fun t => t.State == s) l 0
  refine ⟨j, j1, ?_⟩
  rcases j2 with h | ⟨t, m, h1, h2, h3⟩
  ·exact .inl h
  ·exact .inr ⟨t, m, h1, by rw [h2]; congr 1; omega, h3⟩
 ·intro n k x hk hx
  simp only [z59_19_l2, lt_t hk, idx_nat, hx, cond_true, Option.bind_some, z60_18]
 ·intro n k hk
  simp only [z59_19_l2, lt_f hk, cond_false, z59_19_k1]
theorem ordN_len (ord : List Int) (v : Int) : (ordN ord v).length ≤ ord.length + 1 := by unfold ordN; split <;> simp
/-- The numbers after one more state. -/
theorem NumR.next {S : Nat} {num ord : List Int} (h : NumR S num ord) {v : Int} (v0 : 0 ≤ v) (v1 : v < (S : Int)) (hv : v ∉ ord) : NumR S (setL' num v (ord.length : Int)) (ord ++ [v]) := by
 refine ⟨by rw [setL_len _ _ v0, h.1], ?_⟩
 intro w w0 w1
 rw [idx_set v0 (by rw [h.1]; exact v1), plc_app ord v w 0 hv]
 split
 ·simp
 ·exact h.2 w w0 w1
theorem canon_in (g : T4) (S : Nat) (hS2 : S ≤ 200) (hv : ValidG g) (hS : g.States = (S : Int)) (hT : g.Timeouts.length ≤ 4194304) (i : Nat) (s j : Int)
  (hj : ((g.Timeouts.find? (fun t => t.State == s) = none ∧ j = -1) ∨ ∃ t m, g.Timeouts.find? (fun t => t.State == s) = some t ∧ j = ((m : Nat) : Int) ∧ g.Timeouts[m]? = some t))
  (ag : Int → List T2 → List T8 → List Int → List Int → Option (T4 × Int)) (L : List Int) (hL : ∀ k ∈ L, ∃ x, idx g.Edges k = some x ∧ x.From = s) (hLl : L.length ≤ 400) :
  ∀ (l : List Int) (p n : Nat) (st : CSt) (num : List Int), L.drop p = l → l.length < n → NumR S num st.O → st.E.length + l.length ≤ 1000000 → st.T.length + l.length ≤ 1000000 → st.O.length + l.length ≤ 1000000 →
  ∃ num', z21_l4 g (i : Int) ag j L n st.E st.T num st.O (p : Int) = z21_k3 (i : Int) ag (l.foldl (stepC g i) st).E (l.foldl (stepC g i) st).T num' (l.foldl (stepC g i) st).O ∧ NumR S num' (l.foldl (stepC g i) st).O := by
 intro l
 induction l with
 | nil =>
  intro p n st num h hn hR _ _ _
  obtain ⟨n, rfl⟩ : ∃ m, n = m + 1 := ⟨n - 1, by simp at hn; omega⟩
  exact ⟨num, by simp only [z21_l4, lt_f (drop_nil h), cond_false, List.foldl_nil], hR⟩
 | cons k l ih =>
  intro p n st num h hn hR b1 b2 b3
  obtain ⟨n, rfl⟩ : ∃ m, n = m + 1 := ⟨n - 1, by simp at hn; omega⟩
  obtain ⟨hp, hk, hdr⟩ := drop_cons h
  simp only [List.length_cons] at hn b1 b2 b3
  obtain ⟨x, hx, hxs⟩ := hL k (List.mem_of_getElem? hk)
  have hxm : x ∈ g.Edges := by
   obtain ⟨k0, k1⟩ := idx_some hx
   obtain ⟨q, rfl⟩ : ∃ q : Nat, k = (q : Int) := ⟨k.toNat, by omega⟩
   rw [idx_nat] at hx; exact List.mem_of_getElem? hx
  obtain ⟨r1, r2, r3, r4, _⟩ := numV_edge hv.num hxm
  have hnum := hR.2 x.To r3 (by rw [← hS]; exact r4)
  -- the time limits that lead by this edge
  have htm : tmos g k = match g.Timeouts.find? (fun t => t.State == s) with | some t => if t.Else = k then [t] else [] | none => [] := by
   refine filt s k g.Timeouts (timeV_sorted hv.time) ?_
   intro t ht hte
   obtain ⟨y, y1, y2, _⟩ := timeV_else hv.time ht
   rw [hte, hx] at y1
   cases y1
   rw [← y2, hxs]
  have hstep : stepC g (i : Int) st k = ⟨st.E ++ [⟨(i : Int), x.Act, plc (ordN st.O x.To) x.To 0, x.Again⟩], st.T ++ (tmos g k).map (fun t => ⟨(i : Int), t.Ticks, (st.E.length : Int)⟩), ordN st.O x.To⟩ := by
   unfold stepC; rw [hx]
  have wp : w64 ((p : Int) + 1) = ((p + 1 : Nat) : Int) := w64_succ (by omega)
  have hto1 : (tmos g k).length ≤ 1 := by
   rw [htm]; split
   ·split <;> simp
   ·simp
  -- behind the number of the state
  have tail : ∀ (num2 : List Int), NumR S num2 (ordN st.O x.To) →
    ∃ num', z21_k7 g (i : Int) j st.E st.T (p : Int) (z21_l4 g (i : Int) ag j L n) k x num2 (ordN st.O x.To) = z21_k3 (i : Int) ag (l.foldl (stepC g i) (stepC g i st k)).E (l.foldl (stepC g i) (stepC g i st k)).T num' (l.foldl (stepC g i) (stepC g i st k)).O ∧ NumR S num' (l.foldl (stepC g i) (stepC g i st k)).O := by
   intro num2 hR2
   have h5 : z21_k7 g (i : Int) j st.E st.T (p : Int) (z21_l4 g (i : Int) ag j L n) k x num2 (ordN st.O x.To) = z21_l4 g (i : Int) ag j L n (stepC g i st k).E (stepC g i st k).T num2 (stepC g i st k).O ((p + 1 : Nat) : Int) := by
    have k5 : ∀ T', z21_k5 (i : Int) st.E (p : Int) (z21_l4 g (i : Int) ag j L n) x num2 (ordN st.O x.To) T' = z21_l4 g (i : Int) ag j L n (st.E ++ [⟨(i : Int), x.Act, plc (ordN st.O x.To) x.To 0, x.Again⟩]) T' num2 (ordN st.O x.To) ((p + 1 : Nat) : Int) := by
     intro T'
     unfold z21_k5
     rw [hR2.2 x.To r3 (by rw [← hS]; exact r4), Option.bind_some, appL_some (by simp; omega), Option.bind_some, wp]
    rw [hstep, htm]
    unfold z21_k7
    rcases hj with ⟨h1, h2⟩ | ⟨t, m, h1, h2, h3⟩
    ·subst h2
     rw [h1]
     have : decide ((-1 : Int) ≥ 0) = false := rfl
     rw [this, cond_false]
     unfold z21_k6
     rw [cond_false, k5]; simp
    ·subst h2
     rw [h1]
     have : decide (((m : Nat) : Int) ≥ 0) = true := by simp
     rw [this, cond_true, idx_nat, h3, Option.bind_some]
     unfold z21_k6
     by_cases he : t.Else = k
     ·rw [show (t.Else == k) = true by simp [he], cond_true, idx_nat, h3, Option.bind_some, appL_some (by simp; omega), Option.bind_some, k5]
      simp [he]
     ·rw [show (t.Else == k) = false by simp [he], cond_false, k5]
      simp [he]
   rw [h5]
   refine ih (p + 1) n (stepC g i st k) num2 hdr (by omega) (by rw [hstep]; exact hR2) (by rw [hstep]; simp; omega) (by rw [hstep]; simp; omega) ?_
   rw [hstep]
   have := ordN_len st.O x.To
   show (ordN st.O x.To).length + l.length ≤ _
   omega
  simp only [List.foldl_cons]
  by_cases hin : x.To ∈ st.O
  ·have hneg : decide (plc st.O x.To 0 < 0) = false := by
    rw [decide_eq_false]; intro g'; exact (plc_mem st.O x.To 0).2.mp g' hin
   have ho : ordN st.O x.To = st.O := by unfold ordN; rw [if_pos hin]
   simp only [z21_l4, lt_t hp, cond_true, idx_nat, hk, Option.bind_some, hx, hnum, hneg, cond_false]
   have := tail num (by rw [ho]; exact hR)
   rw [ho] at this
   exact this
  ·have hneg : decide (plc st.O x.To 0 < 0) = true := decide_eq_true ((plc_mem st.O x.To 0).2.mpr hin)
   have ho : ordN st.O x.To = st.O ++ [x.To] := by unfold ordN; rw [if_neg hin]
   simp only [z21_l4, lt_t hp, cond_true, idx_nat, hk, Option.bind_some, hx, hnum, hneg]
   rw [appL_some (by simp; omega), Option.bind_some]
   have := tail (setL' num x.To (st.O.length : Int)) (by rw [ho]; exact hR.next r3 (by rw [← hS]; exact r4) hin)
   rw [ho] at this
   exact this
end Gp
end
section
/- Plain law: both sides answer the same canonical automaton. -/
set_option linter.unusedVariables false
set_option linter.unusedSimpArgs false
namespace Gp
open Go Go.Kx Gx
variable {N : Nat}
theorem tmos_le1 {g : T4} (hv : ValidG g) {k : Int} : (tmos g k).length ≤ 1 := by
 by_cases h : ∃ t ∈ g.Timeouts, t.Else = k
 ·obtain ⟨t0, ht0, hk0⟩ := h
  obtain ⟨x, x1, x2, _⟩ := timeV_else hv.time ht0
  have := filt t0.State k g.Timeouts (timeV_sorted hv.time) (by
   intro t ht hte
   obtain ⟨y, y1, y2, _⟩ := timeV_else hv.time ht
   rw [hte] at y1; rw [hk0] at x1
   rw [y1] at x1; cases x1
   rw [← y2, x2])
  unfold tmos
  rw [this]
  split
  ·split <;> simp
  ·simp
 ·have : tmos g k = [] := by
   unfold tmos
   rw [List.filter_eq_nil_iff]
   intro t ht hc
   exact h ⟨t, ht, by simpa using hc⟩
  rw [this]; simp
theorem ref_tms (g : T4) (hT : g.Timeouts.length ≤ 4194304) (i p : Int) (k : Int) (L : List Int) (hk : idx L p = some k) (E : List T2) (ag : List T2 → List T8 → List Int → Int → Option (T4 × Int)) (x : T2) (O : List Int) :
  ∀ (l : List T8) (q n : Nat) (T : List T8), g.Timeouts.drop q = l → l.length < n → T.length + l.length ≤ 4294967296 →
  z34_l6 N g i L E p ag x O n T (q : Int) = z34_k5 N i E p ag x O (T ++ (l.filter (fun t => t.Else == k)).map (fun t => ⟨i, t.Ticks, (E.length : Int)⟩)) := by
 intro l
 induction l with
 | nil =>
  intro q n T h hn hb
  obtain ⟨n, rfl⟩ : ∃ m, n = m + 1 := ⟨n - 1, by simp at hn; omega⟩
  simp only [z34_l6, lt_f (drop_nil h), cond_false, List.filter_nil, List.map_nil, List.append_nil]
 | cons t l ih =>
  intro q n T h hn hb
  obtain ⟨n, rfl⟩ : ∃ m, n = m + 1 := ⟨n - 1, by simp at hn; omega⟩
  obtain ⟨hq, ht, hdr⟩ := drop_cons h
  simp only [List.length_cons] at hn hb
  have wq : w64 ((q : Int) + 1) = ((q + 1 : Nat) : Int) := w64_succ (by omega)
  simp only [z34_l6, lt_t hq, cond_true, idx_nat, ht, Option.bind_some, hk, wq]
  rw [List.filter_cons]
  cases hc : (t.Else == k)
  ·simp only [cond_false]
   rw [ih (q + 1) n T hdr (by omega) (by omega)]; simp
  ·simp only [cond_true]
   rw [appL_some (by simp; omega), Option.bind_some, ih (q + 1) n _ hdr (by omega) (by simp; omega)]; simp
theorem canonR_in (hN : 4194304 < N) (g : T4) (hv : ValidG g) (hT : g.Timeouts.length ≤ 4194304) (i : Nat) (s : Int)
  (ag : List T2 → List T8 → List Int → Int → Option (T4 × Int)) (L : List Int) (hL : ∀ k ∈ L, ∃ x, idx g.Edges k = some x ∧ x.From = s) (hi : i ≤ 4194304) :
  ∀ (l : List Int) (p n : Nat) (st : CSt), L.drop p = l → l.length < n → L.length ≤ 4194304 → st.E.length + l.length ≤ 1000000 → st.T.length + l.length ≤ 1000000 → st.O.length + l.length ≤ 1000000 →
  z34_l4 N g (i : Int) ag L n st.E st.T st.O (p : Int) = ag (l.foldl (stepC g i) st).E (l.foldl (stepC g i) st).T (l.foldl (stepC g i) st).O ((i + 1 : Nat) : Int) := by
 intro l
 induction l with
 | nil =>
  intro p n st h hn hLl _ _ _
  obtain ⟨n, rfl⟩ : ∃ m, n = m + 1 := ⟨n - 1, by simp at hn; omega⟩
  simp only [z34_l4, lt_f (drop_nil h), cond_false, List.foldl_nil, z34_k3]
  rw [w64_succ (by omega)]
 | cons k l ih =>
  intro p n st h hn hLl b1 b2 b3
  obtain ⟨n, rfl⟩ : ∃ m, n = m + 1 := ⟨n - 1, by simp at hn; omega⟩
  obtain ⟨hp, hk, hdr⟩ := drop_cons h
  simp only [List.length_cons] at hn b1 b2 b3
  obtain ⟨x, hx, hxs⟩ := hL k (List.mem_of_getElem? hk)
  have hkI : idx L (p : Int) = some k := by rw [idx_nat, hk]
  have hstep : stepC g (i : Int) st k = ⟨st.E ++ [⟨(i : Int), x.Act, plc (ordN st.O x.To) x.To 0, x.Again⟩], st.T ++ (tmos g k).map (fun t => ⟨(i : Int), t.Ticks, (st.E.length : Int)⟩), ordN st.O x.To⟩ := by
   unfold stepC; rw [hx]
  have wp : w64 ((p : Int) + 1) = ((p + 1 : Nat) : Int) := w64_succ (by omega)
  have hto1 := tmos_le1 hv (k := k)
  have hol := ordN_len st.O x.To
  have tail : z34_k7 N g (i : Int) L st.E st.T (p : Int) (z34_l4 N g (i : Int) ag L n) x (ordN st.O x.To) = ag (l.foldl (stepC g i) (stepC g i st k)).E (l.foldl (stepC g i) (stepC g i st k)).T (l.foldl (stepC g i) (stepC g i st k)).O ((i + 1 : Nat) : Int) := by
   unfold z34_k7
   have := ref_tms (N := N) g hT (i : Int) (p : Int) k L hkI st.E (z34_l4 N g (i : Int) ag L n) x (ordN st.O x.To) g.Timeouts 0 N st.T rfl (by omega) (by omega)
   rw [show (0 : Int) = ((0 : Nat) : Int) from rfl, this]
   unfold z34_k5
   rw [place_eq hN _ (by omega), Option.bind_some, appL_some (by simp; omega), Option.bind_some, wp]
   have := ih (p + 1) n (stepC g i st k) hdr (by omega) hLl (by rw [hstep]; simp; omega) (by rw [hstep]; simp; omega) (by rw [hstep]; show (ordN st.O x.To).length + l.length ≤ _; omega)
   rw [hstep] at this ⊢
   exact this
  simp only [List.foldl_cons]
  have hpl := place_eq hN st.O (by omega) x.To
  by_cases hin : x.To ∈ st.O
  ·have hneg : decide (plc st.O x.To 0 < 0) = false := by
    rw [decide_eq_false]; intro g'; exact (plc_mem st.O x.To 0).2.mp g' hin
   have ho : ordN st.O x.To = st.O := by unfold ordN; rw [if_pos hin]
   simp only [z34_l4, lt_t hp, cond_true, idx_nat, hk, Option.bind_some, hx, hpl, hneg, cond_false]
   rw [ho] at tail
   exact tail
  ·have hneg : decide (plc st.O x.To 0 < 0) = true := decide_eq_true ((plc_mem st.O x.To 0).2.mpr hin)
   have ho : ordN st.O x.To = st.O ++ [x.To] := by unfold ordN; rw [if_neg hin]
   simp only [z34_l4, lt_t hp, cond_true, idx_nat, hk, Option.bind_some, hx, hpl, hneg]
   rw [appL_some (by simp; omega), Option.bind_some]
   rw [ho] at tail
   exact tail
/-- What the steps over the edges of a state keep. -/
structure Kept (g : T4) (S : Nat) (st st' : CSt) (L : List Int) : Prop where
 pre : ∃ X, st'.O = st.O ++ X
 nodup : st.O.Nodup → st'.O.Nodup
 range : (∀ v ∈ st.O, 0 ≤ v ∧ v < (S : Int)) → ∀ v ∈ st'.O, 0 ≤ v ∧ v < (S : Int)
 done : ∀ k ∈ L, ∀ x, idx g.Edges k = some x → x.To ∈ st'.O
 lenE : st'.E.length ≤ st.E.length + L.length
 lenT : st'.T.length ≤ st.T.length + L.length
theorem kept (g : T4) (S : Nat) (hv : ValidG g) (hS : g.States = (S : Int)) (i : Int) : ∀ (L : List Int) (st : CSt), Kept g S st (L.foldl (stepC g i) st) L := by
 intro L
 induction L with
 | nil => intro st; exact ⟨⟨[], by simp⟩, id, id, by simp, by simp, by simp⟩
 | cons k L ih =>
  intro st
  rw [List.foldl_cons]
  have h := ih (stepC g i st k)
  cases hx : idx g.Edges k with
  | none =>
   have hs : stepC g i st k = st := by unfold stepC; rw [hx]
   rw [hs] at h ⊢
   refine ⟨h.pre, h.nodup, h.range, ?_, by have := h.lenE; simp; omega, by have := h.lenT; simp; omega⟩
   intro q hq x hqx
   rcases List.mem_cons.mp hq with hq | hq
   ·subst hq; rw [hx] at hqx; cases hqx
   ·exact h.done q hq x hqx
  | some x =>
   have hs : stepC g i st k = ⟨st.E ++ [⟨i, x.Act, plc (ordN st.O x.To) x.To 0, x.Again⟩], st.T ++ (tmos g k).map (fun t => ⟨i, t.Ticks, (st.E.length : Int)⟩), ordN st.O x.To⟩ := by unfold stepC; rw [hx]
   have hxm : x ∈ g.Edges := by
    obtain ⟨k0, k1⟩ := idx_some hx
    obtain ⟨q, rfl⟩ : ∃ q : Nat, k = (q : Int) := ⟨k.toNat, by omega⟩
    rw [idx_nat] at hx; exact List.mem_of_getElem? hx
   obtain ⟨r1, r2, r3, r4, _⟩ := numV_edge hv.num hxm
   have hO : (stepC g i st k).O = ordN st.O x.To := by rw [hs]
   have hpre : ∃ X, ordN st.O x.To = st.O ++ X := by
    unfold ordN; split
    ·exact ⟨[], by simp⟩
    ·exact ⟨[x.To], rfl⟩
   have hmem : x.To ∈ ordN st.O x.To := by
    unfold ordN; split
    ·assumption
    ·simp
   have hto := tmos_le1 hv (k := k)
   obtain ⟨X, hX⟩ := hpre
   obtain ⟨Y, hY⟩ := h.pre
   refine ⟨⟨X ++ Y, by rw [hY, hO, hX]; simp⟩, ?_, ?_, ?_, ?_, ?_⟩
   ·intro hn
    apply h.nodup
    rw [hO]
    unfold ordN; split
    ·exact hn
    ·rename_i hnot
     refine List.nodup_append.mpr ⟨hn, by simp, ?_⟩
     intro a ha b hb
     simp at hb; subst hb
     intro hc; subst hc; exact hnot ha
   ·intro hr
    apply h.range
    rw [hO]
    unfold ordN; split
    ·exact hr
    ·intro v hv'
     rcases List.mem_append.mp hv' with hv' | hv'
     ·exact hr v hv'
     ·simp at hv'; subst hv'; exact ⟨r3, by rw [← hS]; exact r4⟩
   ·intro q hq y hqy
    rcases List.mem_cons.mp hq with hq | hq
    ·subst hq; rw [hx] at hqy; cases hqy
     rw [hY, hO]; simp [hmem]
    ·exact h.done q hq y hqy
   ·have := h.lenE
    rw [hs] at this ⊢
    simp at this ⊢; omega
   ·have := h.lenT
    rw [hs] at this ⊢
    simp at this ⊢; omega
/-- The state of the numbering. -/
structure CInv (g : T4) (S : Nat) (i : Nat) (st : CSt) : Prop where
 nodup : st.O.Nodup
 range : ∀ v ∈ st.O, 0 ≤ v ∧ v < (S : Int)
 start : g.Start ∈ st.O
 closed : ∀ (p : Nat) v, p < i → st.O[p]? = some v → ∀ x ∈ g.Edges, x.From = v → x.To ∈ st.O
 lenE : st.E.length ≤ i * 400
 lenT : st.T.length ≤ i * 400
 le : i ≤ st.O.length
theorem CInv.len {g : T4} {S i : Nat} {st : CSt} (h : CInv g S i st) : st.O.length ≤ S := by
 have h1 : (st.O.map Int.toNat).Nodup := by
  rw [List.nodup_iff_pairwise_ne, List.pairwise_map]
  refine List.Pairwise.imp_of_mem ?_ (List.nodup_iff_pairwise_ne.mp h.nodup)
  intro a b ha hb hne hc
  have := h.range a ha; have := h.range b hb
  omega
 have h2 := h1.length_le_of_subset (l₂ := List.range S) (by
  intro v hv
  obtain ⟨w, hw, rfl⟩ := List.mem_map.mp hv
  have := h.range w hw
  exact List.mem_range.mpr (by omega))
 simpa using h2
theorem placesOf_mem (g : T4) (s : Int) : ∀ (l : List T2) (k : Nat) (y : Int), y ∈ placesOf g s l k ↔ ∃ m x, l[m]? = some x ∧ x.From = s ∧ y = ((k + m : Nat) : Int)
 | [], k, y => by simp [placesOf]
 | x :: l, k, y => by
  have e0 : placesOf g s (x :: l) k = if x.From = s then (k : Int) :: placesOf g s l (k + 1) else placesOf g s l (k + 1) := rfl
  rw [e0]
  have ih := placesOf_mem g s l (k + 1) y
  constructor
  ·intro h
   split at h
   ·rename_i hf
    rcases List.mem_cons.mp h with h | h
    ·exact ⟨0, x, by simp, hf, by rw [h]; simp⟩
    ·obtain ⟨m, z, h1, h2, h3⟩ := ih.mp h
     exact ⟨m + 1, z, by simpa using h1, h2, by rw [h3]; congr 1; omega⟩
   ·obtain ⟨m, z, h1, h2, h3⟩ := ih.mp h
    exact ⟨m + 1, z, by simpa using h1, h2, by rw [h3]; congr 1; omega⟩
  ·rintro ⟨m, z, h1, h2, h3⟩
   cases m with
   | zero =>
    simp at h1; subst h1
    rw [if_pos h2, h3]; simp
   | succ m =>
    have : y ∈ placesOf g s l (k + 1) := ih.mpr ⟨m, z, by simpa using h1, h2, by rw [h3]; congr 1; omega⟩
    split
    ·exact List.mem_cons_of_mem _ this
    ·exact this
theorem edges_mem {g : T4} {s : Int} {L : List Int} (h : EdgesAre g s L) : (∀ k ∈ L, ∃ x, idx g.Edges k = some x ∧ x.From = s) ∧ (∀ x ∈ g.Edges, x.From = s → ∃ k ∈ L, idx g.Edges k = some x) := by
 constructor
 ·intro k hk
  obtain ⟨m, x, h1, h2, h3⟩ := (placesOf_mem g s g.Edges 0 k).mp (h.1.mem_iff.mp hk)
  exact ⟨x, by rw [h3, idx_nat, Nat.zero_add, h1], h2⟩
 ·intro x hx hf
  obtain ⟨m, hm⟩ := List.mem_iff_getElem?.mp hx
  refine ⟨(m : Int), h.1.mem_iff.mpr ((placesOf_mem g s g.Edges 0 _).mpr ⟨m, x, hm, hf, by simp⟩), by rw [idx_nat, hm]⟩
theorem canon_out (hN : 16777216 < N) (g : T4) (S : Nat) (hS2 : S ≤ 200) (hv : ValidG g) (hn : NumE g) (hS : g.States = (S : Int)) (hE : g.Edges.length ≤ 400) (hT : g.Timeouts.length ≤ 4194304) (c : T4) :
  ∀ (n m i : Nat) (st : CSt) (num : List Int), S - i < n → S - i < m → CInv g S i st → NumR S num st.O →
  ∃ st' num', CInv g S st'.O.length st' ∧ NumR S num' st'.O ∧
   z21_l2 N g c n (i : Int) st.E st.T num st.O = z21_k1 g c (st'.O.length : Int) st'.E st'.T num' ∧
   z34_l2 N g m st.E st.T st.O (i : Int) = z34_k1 N g st'.E st'.T st'.O := by
 intro n
 induction n with
 | zero => intro m i st num h; omega
 | succ n ih =>
  intro m i st num hn' hm hI hR
  obtain ⟨m, rfl⟩ : ∃ q, m = q + 1 := ⟨m - 1, by omega⟩
  have hlen := hI.len
  by_cases hlt : i < st.O.length
  ·have hs := List.getElem?_eq_getElem hlt
   generalize st.O[i] = s at hs
   obtain ⟨L, l1, l2, l3⟩ := Edges_both hN g (by omega) hn s
   obtain ⟨m1, m2⟩ := edges_mem l1
   have hLl : L.length ≤ 400 := by rw [l1.1.length_eq]; have := placesOf_len g s g.Edges 0; omega
   obtain ⟨j, j1, j2⟩ := limit_eq (N := N) (by omega) g.Timeouts hT s
   have bE := hI.lenE
   have bT := hI.lenT
   have bi : i * 400 ≤ 80000 := by have := Nat.mul_le_mul_right 400 (show i ≤ 200 by omega); omega
   obtain ⟨num', n1, n2⟩ := canon_in g S hS2 hv hS hT i s j j2 (z21_l2 N g c n) L m1 hLl L 0 N st num rfl (by omega) hR (by omega) (by omega) (by omega)
   have r1 := canonR_in (N := N) (by omega) g hv hT i s (z34_l2 N g m) L m1 (by omega) L 0 N st rfl (by omega) (by omega) (by omega) (by omega) (by omega)
   have K := kept g S hv hS (i : Int) L st
   have hI' : CInv g S (i + 1) (L.foldl (stepC g (i : Int)) st) := by
    obtain ⟨X, hX⟩ := K.pre
    refine ⟨K.nodup hI.nodup, K.range hI.range, by rw [hX]; simp [hI.start], ?_, by have := K.lenE; omega, by have := K.lenT; omega, by rw [hX]; simp; omega⟩
    intro p v hp hpv x hx hxv
    rw [hX, List.getElem?_append_left (by omega)] at hpv
    by_cases hpi : p = i
    ·subst hpi
     rw [hs] at hpv; cases hpv
     obtain ⟨k, k1, k2⟩ := m2 x hx hxv
     exact K.done k k1 x k2
    ·rw [hX]
     have := hI.closed p v (by omega) hpv x hx hxv
     simp [this]
   obtain ⟨st', num2, p1, p2, p3, p4⟩ := ih m (i + 1) _ num' (by omega) (by omega) hI' n2
   refine ⟨st', num2, p1, p2, ?_, ?_⟩
   ·simp only [z21_l2, lt_t hlt, cond_true, idx_nat, hs, Option.bind_some, j1, l2]
    rw [show (0 : Int) = ((0 : Nat) : Int) from rfl, n1]
    unfold z21_k3
    rw [w64_succ (by omega)]
    exact p3
   ·simp only [z34_l2, lt_t hlt, cond_true, idx_nat, hs, Option.bind_some, l3]
    rw [show (0 : Int) = ((0 : Nat) : Int) from rfl, r1]
    exact p4
  ·have hil : i = st.O.length := by have := hI.le; omega
   refine ⟨st, num, by rw [← hil]; exact hI, hR, ?_, ?_⟩
   ·simp only [z21_l2, lt_f (show st.O.length ≤ i by omega), cond_false]
    rw [hil]
   ·simp only [z34_l2, lt_f (show st.O.length ≤ i by omega), cond_false]
/-- All states are found. -/
theorem CInv.all {g : T4} {S : Nat} {st : CSt} (h : CInv g S st.O.length st) (hv : ValidG g) (hS : g.States.toNat = S) : st.O.length = S := by
 obtain ⟨F, hF, hp⟩ := hv.reach
 rw [hS] at hF
 have hpos := (posV_iff hF).mp hp
 have hin : ∀ (k : Nat) (v : Int), idx F v = some (k : Int) → v ∈ st.O := by
  intro k
  induction k with
  | zero => intro v hv'; rw [hF.zero v hv']; exact h.start
  | succ k ih =>
   intro v hv'
   obtain ⟨u, hu, hl⟩ := hF.pred v _ hv' (by omega)
   have hm := ih u (by rw [hl]; congr 1; omega)
   obtain ⟨x, hx, hxe⟩ := List.mem_map.mp hu
   obtain ⟨p, hp'⟩ := List.mem_iff_getElem?.mp hm
   have e1 : x.From = u := congrArg Prod.fst hxe
   have e2 : x.To = v := congrArg Prod.snd hxe
   rw [← e2]
   exact h.closed p u (List.getElem?_eq_some_iff.mp hp').1 hp' x hx e1
 have h2 := (List.nodup_range (n := S)).length_le_of_subset (l₂ := st.O.map Int.toNat) (by
  intro v hv'
  have hv' := List.mem_range.mp hv'
  obtain ⟨d, hd⟩ := idx_lt (L := F) (v := (v : Int)) (by omega) (by rw [hF.len]; omega)
  have := hpos _ _ hd
  exact List.mem_map.mpr ⟨(v : Int), hin d.toNat _ (by rw [hd]; congr 1; omega), by simp⟩)
 have := h.len
 simp at h2; omega
end Gp
end
section
/- Plain law: the canonical automaton of both sides. -/
set_option linter.unusedVariables false
set_option linter.unusedSimpArgs false
namespace Gp
open Go Go.Kx Gx
variable {N : Nat}
theorem clone_one {α : Type} (l : List α) (h : l.length ≤ 4294967296) : (appL ([] : List α) l).bind (fun x => some x) = some l := by
 rw [appL_some (by simpa using h)]; rfl
theorem copied_loop (g : T4) (hd : ∀ d ∈ g.Decls, SizeD d) (hl : g.Decls.length ≤ 4194304) :
  ∀ (m : List T0) (k n : Nat), g.Decls.drop k = m → m.length < n → z57_l2 N g g.Roles n (g.Decls.take k) (k : Int) = some ⟨g.Name, g.Roles, g.Decls, 0, 0, 0, [], []⟩ := by
 intro m
 induction m with
 | nil =>
  intro k n h hn
  obtain ⟨n, rfl⟩ : ∃ m, n = m + 1 := ⟨n - 1, by simp at hn; omega⟩
  have hk := drop_nil h
  simp only [z57_l2, lt_f hk, cond_false, z57_k1]
  rw [List.take_of_length_le hk]
 | cons x m ih =>
  intro k n h hn
  obtain ⟨n, rfl⟩ : ∃ m, n = m + 1 := ⟨n - 1, by simp at hn; omega⟩
  obtain ⟨a, c, d⟩ := drop_cons h
  have sx := hd x (List.mem_of_getElem? c)
  have s1 := sx.f
  have s2 := sx.d
  have s3 := sx.e
  have c1 : z116 N x.Fields = some x.Fields := clone_one _ (by omega)
  have c2 : z117 N x.Guard.Diffs = some x.Guard.Diffs := clone_one _ (by omega)
  have c3 : z118 N x.Guard.Equals = some x.Guard.Equals := clone_one _ (by omega)
  simp only [z57_l2, lt_t a, cond_true, idx_nat, c, Option.bind_some, c1, c2, c3]
  rw [appL_some (by simp; omega), Option.bind_some, w64_succ (by omega)]
  have := ih (k + 1) n d (by simp at hn; omega)
  rw [take_drop_cons h] at this
  exact this
theorem copied_eq (hN : 4194304 < N) (g : T4) (hg : SizeG g) : z57 N g = some ⟨g.Name, g.Roles, g.Decls, 0, 0, 0, [], []⟩ := by
 unfold z57
 have hr := hg.r
 have c0 : z115 N g.Roles = some g.Roles := clone_one _ (by omega)
 rw [c0, Option.bind_some]
 have hd := hg.d
 exact copied_loop g hg.dd hg.d g.Decls 0 N rfl (by omega)
/-- What a canonical automaton holds. -/
structure CanonOf (g : T4) (r : T4) (st : CSt) : Prop where
 inv : CInv g g.States.toNat st.O.length st
 len : (st.O.length : Int) = g.States
 eq : r = ⟨g.Name, g.Roles, g.Decls, g.States, 0, plc st.O g.End 0, st.E, st.T⟩
theorem Canonical_both (hN : 16777216 < N) (g : T4) (hg : SizeG g) (hs : SizeN g) (hn : NumE g) : ∃ r, z21 N g = some r ∧ z34 N g = some r ∧ SizeG r.1 ∧ (ValidG g → r.2 = 0 ∧ ∃ st, CanonOf g r.1 st) := by
 obtain ⟨b, b1, b2, b3⟩ := Valid_both (N := N) (by omega) g hg hs hn
 unfold z21 z34
 rw [b1, b2]
 simp only [Option.bind_some]
 cases b
 ·refine ⟨_, rfl, rfl, ⟨by simp, by simp, by simp, by simp, by simp⟩, ?_⟩
  intro h; have := b3.mpr h; cases this
 have hv := b3.mp rfl
 obtain ⟨o1, o2, o3, o4, o5, o6, o7⟩ := numV_head hv.num
 have hS : g.States = (g.States.toNat : Int) := by omega
 generalize hs' : g.States.toNat = S at *
 rw [copied_eq (by omega) g hg]
 simp only [Option.bind_some, Bool.not_true, cond_false]
 rw [hS, repeat_eq (by omega) (by omega) (by omega)]
 have hrl : (List.replicate S (-1 : Int)).length = S := by simp
 have hri : ∀ v : Int, 0 ≤ v → v < (S : Int) → idx (List.replicate S (-1 : Int)) v = some (-1) := by
  intro v v0 v1
  obtain ⟨k, rfl⟩ : ∃ k : Nat, v = (k : Int) := ⟨v.toNat, by omega⟩
  rw [idx_nat, List.getElem?_replicate, if_pos (by omega)]
 rw [Option.bind_some, hri g.Start o3 (by omega), Option.bind_some]
 have hI : CInv g S 0 ⟨[], [], [g.Start]⟩ := by
  refine ⟨by simp, ?_, by simp, by intro p v hp; omega, by simp, by simp, by simp⟩
  intro v hv'; simp at hv'; subst hv'; exact ⟨o3, by omega⟩
 have hR : NumR S (setL' (List.replicate S (-1 : Int)) g.Start 0) [g.Start] := by
  refine ⟨by rw [setL_len _ _ o3, hrl], ?_⟩
  intro v v0 v1
  rw [idx_set o3 (by rw [hrl]; omega)]
  show _ = some (if g.Start = v then ((0 : Nat) : Int) else -1)
  by_cases h : v = g.Start
  ·rw [if_pos h, if_pos h.symm]; rfl
  ·rw [if_neg h, if_neg (fun q => h q.symm), hri v v0 v1]
 obtain ⟨st, num, p1, p2, p3, p4⟩ := canon_out hN g S (by omega) hv hn hS o7 hg.t ⟨g.Name, g.Roles, g.Decls, 0, 0, 0, [], []⟩ N N 0 ⟨[], [], [g.Start]⟩ _ (by omega) (by omega) hI hR
 have hall := p1.all hv hs'
 have e3 : z21_l2 N g ⟨g.Name, g.Roles, g.Decls, 0, 0, 0, [], []⟩ N (0 : Int) [] [] (setL' (List.replicate S (-1 : Int)) g.Start 0) [g.Start] = z21_k1 g ⟨g.Name, g.Roles, g.Decls, 0, 0, 0, [], []⟩ (st.O.length : Int) st.E st.T num := p3
 have e4 : z34_l2 N g N [] [] [g.Start] (0 : Int) = z34_k1 N g st.E st.T st.O := p4
 rw [e3, e4]
 unfold z21_k1 z34_k1
 rw [p2.2 g.End o5 (by omega), place_eq (by omega) st.O (by have := p1.len; omega)]
 simp only [Option.bind_some]
 have bE := p1.lenE
 have bT := p1.lenT
 rw [hall] at bE bT
 have bi : S * 400 ≤ 80000 := by have := Nat.mul_le_mul_right 400 (show S ≤ 200 by omega); omega
 refine ⟨_, rfl, ?_, ⟨hg.r, hg.d, hg.dd, by show st.E.length ≤ _; omega, by show st.T.length ≤ _; omega⟩, ?_⟩
 ·rw [hall, ← hS]
 ·intro _
  refine ⟨rfl, st, ?_⟩
  refine ⟨by rw [hs']; exact p1, by rw [hall]; exact hS.symm, ?_⟩
  rw [hall, ← hS]
end Gp
end
section
/- What the arguments hold that the statement reads: sizes and numbers within their kinds. -/
namespace Gx
open Go Go.Kx
def k_api_Sort (x : T7) : Prop := ((Lit.int .i64 x.Kind).wf = true) ∧ ((Lit.int .i64 x.Lo).wf = true) ∧ ((Lit.int .i64 x.Hi).wf = true)
def k_api_Field (x : T3) : Prop := (x.Name.size ≤ bd) ∧ (k_api_Sort x.Sort')
def k_api_Diff (x : T1) : Prop := ((Lit.int .i64 x.X).wf = true) ∧ ((Lit.int .i64 x.Y).wf = true) ∧ ((Lit.int .i64 x.C).wf = true)
def k_api_Guard (x : T5) : Prop := (x.Diffs.length ≤ bd ∧ ∀ y ∈ x.Diffs, k_api_Diff y) ∧ (x.Equals.length ≤ bd ∧ ∀ y ∈ x.Equals, ((Lit.int .i64 y.1).wf = true) ∧ ((Lit.int .i64 y.2).wf = true))
def k_api_Decl (x : T0) : Prop := (x.Name.size ≤ bd) ∧ (x.Fields.length ≤ bd ∧ ∀ y ∈ x.Fields, k_api_Field y) ∧ ((Lit.int .i64 x.First).wf = true) ∧ (k_api_Guard x.Guard)
def k_api_Interaction (x : T6) : Prop := ((Lit.int .i64 x.From).wf = true) ∧ ((Lit.int .i64 x.To).wf = true) ∧ ((Lit.int .i64 x.Label).wf = true)
def k_api_Edge (x : T2) : Prop := ((Lit.int .i64 x.From).wf = true) ∧ (k_api_Interaction x.Act) ∧ ((Lit.int .i64 x.To).wf = true) ∧ (True)
def k_api_Timeout (x : T8) : Prop := ((Lit.int .i64 x.State).wf = true) ∧ ((Lit.int .i64 x.Ticks).wf = true) ∧ ((Lit.int .i64 x.Else).wf = true)
def k_api_Global (x : T4) : Prop := (x.Name.size ≤ bd) ∧ (x.Roles.length ≤ bd ∧ ∀ y ∈ x.Roles, y.size ≤ bd) ∧ (x.Decls.length ≤ bd ∧ ∀ y ∈ x.Decls, k_api_Decl y) ∧ ((Lit.int .i64 x.States).wf = true) ∧ ((Lit.int .i64 x.Start).wf = true) ∧ ((Lit.int .i64 x.End).wf = true) ∧ (x.Edges.length ≤ bd ∧ ∀ y ∈ x.Edges, k_api_Edge y) ∧ (x.Timeouts.length ≤ bd ∧ ∀ y ∈ x.Timeouts, k_api_Timeout y)
end Gx
end
section
/- Plain law: what the sizes of arguments give. -/
set_option linter.unusedVariables false
set_option linter.unusedSimpArgs false
namespace Gp
open Go Go.Kx Gx
theorem sizeD_of {x : T0} (h : k_api_Decl x) : SizeD x := by
 obtain ⟨_, h1, _, h2⟩ := h
 exact ⟨by have := h1.1; unfold bd at this; omega, by have := h2.1.1; unfold bd at this; omega, by have := h2.2.1; unfold bd at this; omega⟩
theorem sizeG_of {x : T4} (h : k_api_Global x) : SizeG x := by
 obtain ⟨_, h1, h2, _, _, _, h3, h4⟩ := h
 exact ⟨by have := h1.1; unfold bd at this; omega, by have := h2.1; unfold bd at this; omega, fun d hd => sizeD_of (h2.2 d hd), by have := h3.1; unfold bd at this; omega, by have := h4.1; unfold bd at this; omega⟩
theorem numE_of {x : T4} (h : k_api_Global x) : NumE x := by
 obtain ⟨_, h1, h2, _, _, _, h3, h4⟩ := h
 intro e he
 have := (h3.2 e he).2.1
 exact ⟨I64.of this.2.1, I64.of this.2.2⟩
theorem nameD_of {x : T0} (h : k_api_Decl x) : NameD x := by
 obtain ⟨h0, h1, _, h2⟩ := h
 exact ⟨by unfold bd at h0; omega, fun f hf => by have := (h1.2 f hf).1; unfold bd at this; omega⟩
theorem sizeN_of {x : T4} (h : k_api_Global x) : SizeN x := by
 obtain ⟨h0, h1, h2, _⟩ := h
 exact ⟨by unfold bd at h0; omega, fun s hs => by have := h1.2 s hs; unfold bd at this; omega, fun d hd => nameD_of (h2.2 d hd)⟩
end Gp
end
section
open Go Go.Kx Gx
set_option maxRecDepth 100000
theorem awake_c (n : Nat) : z12 (n + 300) = some true := by kernel_rfl
end
section
/- Plain law: valid, canonical, and the distances to End. -/
set_option linter.unusedVariables false
set_option linter.unusedSimpArgs false
namespace Gp
open Go Go.Kx Gx
variable {N : Nat}
theorem Ends_both (hN : 4194304 < N) (g : T4) (hg : SizeG g) (hs : SizeN g) (hn : NumE g) : ∃ e, z35 N g = some e ∧ z36 N g = some e ∧ e.1.length ≤ 4194304 := by
 obtain ⟨b, b1, b2, b3⟩ := Valid_both hN g hg hs hn
 unfold z35 z36
 rw [b1, b2]
 simp only [Option.bind_some]
 cases b
 ·exact ⟨_, rfl, rfl, by simp⟩
 have hv := b3.mp rfl
 obtain ⟨o1, o2, o3, o4, o5, o6, o7⟩ := numV_head hv.num
 obtain ⟨L, l1, hD⟩ := spread_eq hN g hv.num true g.End o5 o6
 rw [l1, ends_eq hN g hv.num hD]
 exact ⟨(L, 0), rfl, rfl, by show L.length ≤ _; rw [hD.len]; omega⟩
theorem plain : ∀ (x0 : T4), k_api_Global x0 → ∃ N, law18_GlobalValid N x0 = some true := by
 intro g hg
 refine ⟨33554432 + 300, ?_⟩
 have aw : z12 (33554432 + 300) = some true := awake_c _
 generalize hN : 33554432 + 300 = N at aw ⊢
 have s0 := sizeG_of hg
 obtain ⟨a, a1, a2⟩ := few18_some (N := N) (by omega) g s0
 obtain ⟨b, b1, b2, b3⟩ := Valid_both (N := N) (by omega) g s0 (sizeN_of hg) (numE_of hg)
 obtain ⟨r, r1, r2, r3, r4⟩ := Canonical_both (N := N) (by omega) g s0 (sizeN_of hg) (numE_of hg)
 obtain ⟨e, e1, e2, e3⟩ := Ends_both (N := N) (by omega) g s0 (sizeN_of hg) (numE_of hg)
 unfold law18_GlobalValid
 rw [aw]
 simp only [Option.bind_some, Bool.not_true, cond_false]
 rw [a1]
 simp only [Option.bind_some]
 cases a
 ·simp
 simp only [Bool.not_true, cond_false]
 rw [r1, r2, e1, e2, b1, b2]
 simp only [Option.bind_some, beq_self_eq_true, cond_true]
 rw [refEqual_eq (N := N) (by omega) r.1 r.1 r3, eqGlobal_refl]
 simp only [Option.bind_some, cond_true]
 rw [sameInts_refl (N := N) (by omega) e.1 e3]
 rfl
end Gp
end
