/- The plain law, part 2: what the functions compute answers as the statement says. -/
import Derived.KernelRfl
import Derived.Test.YtenajajnbmfijaaGreatDoorGlobalWordsPlain1
set_option linter.all false
section
/- Plain law: both sides find the same automata valid. -/
set_option linter.unusedVariables false
set_option linter.unusedSimpArgs false
namespace Gp
open Go Go.Kx Gx
variable {N : Nat}
/-- Sizes of the names of a declaration. -/
structure NameD (x : T0) : Prop where
 n : x.Name.size ≤ 4000000
 f : ∀ f ∈ x.Fields, f.Name.size ≤ 4000000
def fieldV (x : T0) (f : T3) (j : Nat) : Bool := isWord f.Name && (decide (sortOk f.Sort') && !((x.Fields.take j).any fun y => eqStr y.Name f.Name))
def declV (fl : List T3) (l : List T0) (x : T0) (k : Nat) : Bool :=
 pathV x.Name && (decide (x.Fields.length ≤ 4) && (decide (x.First = ((flat (l.take k)).length : Int)) && (!((l.take k).any fun y => eqStr y.Name x.Name) && (allV (fieldV x) x.Fields 0 && guardV fl x.Guard))))
def validD (l : List T0) : Bool := decide (l.length ≤ 40) && (decide ((flat l).length ≤ 24) && allV (declV (flat l) l) l 0)
theorem containsD_eq (hN : 4194304 < N) (l : List T0) (hl : l.length ≤ 4194304) (x : T0) : z177_4 N l x = some (l.any fun y => eqStr y.Name x.Name) := by
 unfold z177_4 z77_3
 rw [look l hl (fun y k r => bif eqStr y.Name x.Name then some k else r) (z77_3_l2 N l x) (some (-1)) hN]
 ·obtain ⟨i, h1, h2⟩ := whereV_any (fun y : T0 => eqStr y.Name x.Name) l 0
  rw [h1, Option.bind_some, h2]
 ·intro n k y hk hy
  simp only [z77_3_l2, lt_t hk, idx_nat, hy, cond_true, Option.bind_some, z178_2, eqStr]
 ·intro n k hk
  simp only [z77_3_l2, lt_f hk, cond_false, z77_3_k1]
theorem containsF_eq (hN : 4194304 < N) (l : List T3) (hl : l.length ≤ 4194304) (x : T3) : z180_7 N l x = some (l.any fun y => eqStr y.Name x.Name) := by
 unfold z180_7 z190_6
 rw [look l hl (fun y k r => bif eqStr y.Name x.Name then some k else r) (z190_6_l2 N l x) (some (-1)) hN]
 ·obtain ⟨i, h1, h2⟩ := whereV_any (fun y : T3 => eqStr y.Name x.Name) l 0
  rw [h1, Option.bind_some, h2]
 ·intro n k y hk hy
  simp only [z190_6_l2, lt_t hk, idx_nat, hy, cond_true, Option.bind_some, z181_5, eqStr]
 ·intro n k hk
  simp only [z190_6_l2, lt_f hk, cond_false, z190_6_k1]
theorem flat_next {l : List T0} {k : Nat} {x : T0} (h : l[k]? = some x) : (flat (l.take (k + 1))).length = (flat (l.take k)).length + x.Fields.length := by
 rw [List.take_add_one, h]
 show (flat (l.take k ++ [x])).length = _
 rw [flat_app, List.length_append]; simp [flat]
theorem flat_take_le (l : List T0) (k : Nat) : (flat (l.take k)).length ≤ (flat l).length := by
 have : flat l = flat (l.take k) ++ flat (l.drop k) := by rw [← flat_app, List.take_append_drop]
 rw [this, List.length_append]; omega
theorem valid_eq (hN : 4194304 < N) (l : List T0) (hl : l.length ≤ 4194304) (hd : ∀ d ∈ l, SizeD d) (hn : ∀ d ∈ l, NameD d) : z158 N l = some (validD l) := by
 unfold z158 validD
 by_cases c1 : (l.length : Int) > 40
 ·rw [decide_eq_true c1, decide_eq_false (show ¬ l.length ≤ 40 by omega)]; rfl
 rw [decide_eq_false c1, decide_eq_true (show l.length ≤ 40 by omega), fields_eq hN l (by omega) hd]
 simp only [cond_false, Option.bind_some, Bool.true_and]
 by_cases c2 : ((flat l).length : Int) > 24
 ·rw [decide_eq_true c2, decide_eq_false (show ¬ (flat l).length ≤ 24 by omega)]; rfl
 rw [decide_eq_false c2, decide_eq_true (show (flat l).length ≤ 24 by omega)]
 simp only [cond_false, Bool.true_and]
 have hfl := flat_le l hd
 have h := allV_from (declV (flat l) l) (xs := l) (F := fun n i => z158_l2 N l (flat l) n ((flat (l.take i.toNat)).length : Int) i) (e := some true) (n := N) (by omega) (by
  intro n k x hk hx
  show z158_l2 N l (flat l) (n + 1) ((flat (l.take k)).length : Int) (k : Int) = bif declV (flat l) l x k then z158_l2 N l (flat l) n ((flat (l.take (k + 1))).length : Int) ((k + 1 : Nat) : Int) else some false
  have hxm : x ∈ l := List.mem_of_getElem? hx
  have sx := hd x hxm
  have nx := hn x hxm
  have ht : lsl l none (some (k : Int)) = some (l.take k) := lsl_to (A := l.take k) (B := l.drop k) (List.take_append_drop k l).symm (by simp; omega)
  have hft := flat_take_le l k
  have hnext : w64 (((flat (l.take k)).length : Int) + (x.Fields.length : Int)) = ((flat (l.take (k + 1))).length : Int) := by rw [flat_next hx, w64_id (by have := sx.f; omega) (by have := sx.f; omega)]; omega
  have inner : z158_l4 N (flat l) ((flat (l.take k)).length : Int) (k : Int) (z158_l2 N l (flat l) n) x N (0 : Int) = bif allV (fieldV x) x.Fields 0 then z158_k3 N (flat l) ((flat (l.take k)).length : Int) (k : Int) (z158_l2 N l (flat l) n) x else some false := by
   refine allV_from (fieldV x) (by have := sx.f; omega) ?_ ?_
   ·intro m j f hj hf
    have sf := sx.f
    have hw := (word_eq hN f.Name (by have := nx.f f (List.mem_of_getElem? hf); omega)).1
    have ht' : lsl x.Fields none (some (j : Int)) = some (x.Fields.take j) := lsl_to (A := x.Fields.take j) (B := x.Fields.drop j) (List.take_append_drop j _).symm (by simp; omega)
    have hc := containsF_eq hN (x.Fields.take j) (by simp; omega) f
    simp only [z158_l4, lt_t hj, cond_true, idx_nat, hf, Option.bind_some, hw, sorted_eq, ht', hc, fieldV]
    rw [w64_succ (by omega)]
    cases isWord f.Name <;> cases decide (sortOk f.Sort') <;> cases ((x.Fields.take j).any fun y => eqStr y.Name f.Name) <;> rfl
   ·intro m j hj
    simp only [z158_l4, lt_f hj, cond_false]
  have hc := containsD_eq hN (l.take k) (by simp; omega) x
  simp only [z158_l2, lt_t hk, cond_true, idx_nat, hx, Option.bind_some, path_eq hN, ht, hc, inner, z158_k3, guarded_eq hN, declV, hnext]
  rw [w64_succ (by omega)]
  have e1 : decide ((x.Fields.length : Int) > 4) = !decide (x.Fields.length ≤ 4) := by
   by_cases q : x.Fields.length ≤ 4
   ·rw [decide_eq_true q, decide_eq_false (by omega)]; rfl
   ·rw [decide_eq_false q, decide_eq_true (by omega)]; rfl
  have e2 : (x.First != ((flat (l.take k)).length : Int)) = !decide (x.First = ((flat (l.take k)).length : Int)) := by
   by_cases q : x.First = ((flat (l.take k)).length : Int)
   ·rw [decide_eq_true q]; simp [q]
   ·rw [decide_eq_false q]; simp [q]
  rw [e1, e2]
  cases pathV x.Name <;> cases decide (x.Fields.length ≤ 4) <;> cases decide (x.First = ((flat (l.take k)).length : Int)) <;> cases ((l.take k).any fun y => eqStr y.Name x.Name) <;> cases allV (fieldV x) x.Fields 0 <;> cases guardV (flat l) x.Guard <;> rfl) (by
  intro n k hk
  show z158_l2 N l (flat l) (n + 1) ((flat (l.take k)).length : Int) (k : Int) = some true
  simp only [z158_l2, lt_f hk, cond_false, z158_k1])
 have h' : z158_l2 N l (flat l) N (0 : Int) (0 : Int) = bif allV (declV (flat l) l) l 0 then some true else some false := h
 rw [h']
 cases allV (declV (flat l) l) l 0 <;> rfl
theorem allV_not_any {α : Type} (f : α → Bool) : ∀ (l : List α) (k : Nat), allV (fun y _ => !f y) l k = !(l.any f)
 | [], _ => rfl
 | x :: l, k => by
  show (!f x && allV _ l (k + 1)) = _
  rw [allV_not_any f l, List.any_cons]
  cases f x <;> rfl
theorem take_get {α : Type} {l : List α} {k i : Nat} {x : α} (h : (l.take k)[i]? = some x) : l[i]? = some x ∧ i < k := by
 rw [List.getElem?_take] at h
 split at h
 ·exact ⟨h, by assumption⟩
 ·cases h
theorem refValid_eq (hN : 4194304 < N) (l : List T0) (hl : l.length ≤ 4194304) (hd : ∀ d ∈ l, SizeD d) (hn : ∀ d ∈ l, NameD d) : z113 N l = some (validD l) := by
 unfold z113 validD
 by_cases c1 : (l.length : Int) > 40
 ·rw [decide_eq_true c1, decide_eq_false (show ¬ l.length ≤ 40 by omega)]; rfl
 rw [decide_eq_false c1, decide_eq_true (show l.length ≤ 40 by omega), vars_eq hN l (by omega) hd]
 simp only [cond_false, Option.bind_some, Bool.true_and]
 by_cases c2 : ((flat l).length : Int) > 24
 ·rw [decide_eq_true c2, decide_eq_false (show ¬ (flat l).length ≤ 24 by omega)]; rfl
 rw [decide_eq_false c2, decide_eq_true (show (flat l).length ≤ 24 by omega)]
 simp only [cond_false, Bool.true_and]
 have hfl := flat_le l hd
 have h := allV_from (declV (flat l) l) (xs := l) (F := fun n i => z113_l2 N l n ((flat (l.take i.toNat)).length : Int) i) (e := some true) (n := N) (by omega) (by
  intro n k x hk hx
  show z113_l2 N l (n + 1) ((flat (l.take k)).length : Int) (k : Int) = bif declV (flat l) l x k then z113_l2 N l n ((flat (l.take (k + 1))).length : Int) ((k + 1 : Nat) : Int) else some false
  have hxm : x ∈ l := List.mem_of_getElem? hx
  have sx := hd x hxm
  have nx := hn x hxm
  have hft := flat_take_le l k
  have hnext : w64 (((flat (l.take k)).length : Int) + (x.Fields.length : Int)) = ((flat (l.take (k + 1))).length : Int) := by rw [flat_next hx, w64_id (by have := sx.f; omega) (by have := sx.f; omega)]; omega
  have inner8 : z113_l8 N l ((flat (l.take k)).length : Int) (k : Int) (z113_l2 N l n) x N (0 : Int) = bif allV (fun y _ => !eqStr y.Name x.Name) (l.take k) 0 then z113_k7 N l ((flat (l.take k)).length : Int) (k : Int) (z113_l2 N l n) x else some false := by
   refine allV_from (fun (y : T0) _ => !eqStr y.Name x.Name) (by simp; omega) ?_ ?_
   ·intro m j y hj hy
    obtain ⟨hy', hjk⟩ := take_get hy
    simp only [z113_l8, lt_t hjk, cond_true, idx_nat, hy', Option.bind_some, eqStr]
    rw [w64_succ (by omega)]
    cases (y.Name.toList == x.Name.toList) <;> rfl
   ·intro m j hj
    have : k ≤ j := by simp at hj; omega
    simp only [z113_l8, lt_f this, cond_false]
  have inner4 : z113_l4 N l ((flat (l.take k)).length : Int) (k : Int) (z113_l2 N l n) x N (0 : Int) = bif allV (fieldV x) x.Fields 0 then z113_k3 N l ((flat (l.take k)).length : Int) (k : Int) (z113_l2 N l n) x else some false := by
   refine allV_from (fieldV x) (by have := sx.f; omega) ?_ ?_
   ·intro m j f hj hf
    have sf := sx.f
    have hw := (word_eq hN f.Name (by have := nx.f f (List.mem_of_getElem? hf); omega)).2
    have inner6 : z113_l6 x (j : Int) (z113_l4 N l ((flat (l.take k)).length : Int) (k : Int) (z113_l2 N l n) x m) N (0 : Int) = bif allV (fun y _ => !eqStr y.Name f.Name) (x.Fields.take j) 0 then z113_k5 (j : Int) (z113_l4 N l ((flat (l.take k)).length : Int) (k : Int) (z113_l2 N l n) x m) else some false := by
     refine allV_from (fun (y : T3) _ => !eqStr y.Name f.Name) (by simp; omega) ?_ ?_
     ·intro p i y hi hy
      obtain ⟨hy', hij⟩ := take_get hy
      simp only [z113_l6, lt_t hij, cond_true, idx_nat, hy', hf, Option.bind_some, eqStr]
      rw [w64_succ (by omega)]
      cases (y.Name.toList == f.Name.toList) <;> rfl
     ·intro p i hi
      have : j ≤ i := by simp at hi; omega
      simp only [z113_l6, lt_f this, cond_false]
    simp only [z113_l4, lt_t hj, cond_true, idx_nat, hf, Option.bind_some, hw, goodSort_eq, inner6, fieldV, z113_k5, allV_not_any]
    rw [w64_succ (by omega)]
    cases isWord f.Name <;> cases decide (sortOk f.Sort') <;> cases ((x.Fields.take j).any fun y => eqStr y.Name f.Name) <;> rfl
   ·intro m j hj
    simp only [z113_l4, lt_f hj, cond_false]
  have hg := goodGuard_eq hN l (by omega) hd x.Guard sx.d sx.e
  simp only [z113_l2, lt_t hk, cond_true, idx_nat, hx, Option.bind_some, inner8, inner4, z113_k7, z113_k3, refPath_eq hN x.Name nx.n, hg, declV, hnext, allV_not_any]
  rw [w64_succ (by omega)]
  have e1 : decide ((x.Fields.length : Int) > 4) = !decide (x.Fields.length ≤ 4) := by
   by_cases q : x.Fields.length ≤ 4
   ·rw [decide_eq_true q, decide_eq_false (by omega)]; rfl
   ·rw [decide_eq_false q, decide_eq_true (by omega)]; rfl
  have e2 : (x.First != ((flat (l.take k)).length : Int)) = !decide (x.First = ((flat (l.take k)).length : Int)) := by
   by_cases q : x.First = ((flat (l.take k)).length : Int)
   ·rw [decide_eq_true q]; simp [q]
   ·rw [decide_eq_false q]; simp [q]
  rw [e1, e2]
  cases pathV x.Name <;> cases decide (x.Fields.length ≤ 4) <;> cases decide (x.First = ((flat (l.take k)).length : Int)) <;> cases ((l.take k).any fun y => eqStr y.Name x.Name) <;> cases allV (fieldV x) x.Fields 0 <;> cases guardV (flat l) x.Guard <;> rfl) (by
  intro n k hk
  show z113_l2 N l (n + 1) ((flat (l.take k)).length : Int) (k : Int) = some true
  simp only [z113_l2, lt_f hk, cond_false, z113_k1])
 have h' : z113_l2 N l N (0 : Int) (0 : Int) = bif allV (declV (flat l) l) l 0 then some true else some false := h
 rw [h']
 cases allV (declV (flat l) l) l 0 <;> rfl
end Gp
end
section
/- Plain law: both sides find the same automata valid, and what a valid automaton is. -/
set_option linter.unusedVariables false
set_option linter.unusedSimpArgs false
namespace Gp
open Go Go.Kx Gx
variable {N : Nat}
/-- The least numbers of edges are one list. -/
theorem Dist.le {E : List (Int × Int)} {S : Nat} {e : Int} {L M : List Int} (hL : Dist E S e L) (hM : Dist E S e M) : ∀ (k : Nat) (v : Int), idx L v = some (k : Int) → ∃ m, idx M v = some m ∧ 0 ≤ m ∧ m ≤ (k : Int) := by
 intro k
 induction k with
 | zero =>
  intro v hv
  have := hL.zero v hv
  subst this
  exact ⟨0, hM.root, by omega, by omega⟩
 | succ k ih =>
  intro v hv
  obtain ⟨u, hu, hl⟩ := hL.pred v _ hv (by omega)
  obtain ⟨m, m1, m2, m3⟩ := ih u (by rw [hl]; congr 1; omega)
  obtain ⟨d, d1, d2, d3⟩ := hM.succ u v m hu m1 m2
  exact ⟨d, d1, d2, by omega⟩
theorem Dist.uniq {E : List (Int × Int)} {S : Nat} {e : Int} {L M : List Int} (hL : Dist E S e L) (hM : Dist E S e M) : L = M := by
 refine List.ext_getElem? fun i => ?_
 by_cases hi : i < S
 ·obtain ⟨d, hd⟩ := idx_lt (L := L) (v := (i : Int)) (by omega) (by rw [hL.len]; omega)
  obtain ⟨m, hm⟩ := idx_lt (L := M) (v := (i : Int)) (by omega) (by rw [hM.len]; omega)
  have a := (hL.lo _ _ hd).1
  have b := (hM.lo _ _ hm).1
  have one : 0 ≤ d → 0 ≤ m ∧ m ≤ d := by
   intro h
   obtain ⟨x, x1, x2, x3⟩ := hL.le hM d.toNat (i : Int) (by rw [hd]; congr 1; omega)
   rw [hm] at x1; cases x1; exact ⟨x2, by omega⟩
  have two : 0 ≤ m → 0 ≤ d ∧ d ≤ m := by
   intro h
   obtain ⟨x, x1, x2, x3⟩ := hM.le hL m.toNat (i : Int) (by rw [hm]; congr 1; omega)
   rw [hd] at x1; cases x1; exact ⟨x2, by omega⟩
  rw [idx_nat] at hd hm
  rw [hd, hm]
  congr 1
  by_cases h : 0 ≤ d
  ·have := one h; have := two this.1; omega
  ·by_cases h' : 0 ≤ m
   ·have := two h'; omega
   ·omega
 ·rw [List.getElem?_eq_none (by rw [hL.len]; omega), List.getElem?_eq_none (by rw [hM.len]; omega)]
structure SizeN (g : T4) : Prop where
 n : g.Name.size ≤ 4000000
 r : ∀ s ∈ g.Roles, s.size ≤ 4000000
 d : ∀ x ∈ g.Decls, NameD x
def roleV (g : T4) (s : ByteArray) (i : Nat) : Bool := isWord s && !((g.Roles.take i).any fun y => eqStr y s)
def namedV (g : T4) : Bool := isWord g.Name && (decide (1 ≤ g.Roles.length ∧ g.Roles.length ≤ 6) && allV (roleV g) g.Roles 0)
theorem named_eq (hN : 4194304 < N) (g : T4) (hg : SizeG g) (hs : SizeN g) : z61 N g = some (namedV g) := by
 unfold z61 namedV
 rw [(word_eq hN g.Name (by have := hs.n; omega)).1]
 have hr := hg.r
 rw [allV_from (roleV g) (xs := g.Roles) (F := z61_l2 N g) (e := some true) (by omega)]
 ·simp only [Option.bind_some]
  by_cases c1 : (g.Roles.length : Int) < 1
  ·rw [decide_eq_true c1, decide_eq_false (show ¬ (1 ≤ g.Roles.length ∧ g.Roles.length ≤ 6) by omega)]; cases isWord g.Name <;> rfl
  by_cases c2 : (g.Roles.length : Int) > 6
  ·rw [decide_eq_false c1, decide_eq_true c2, decide_eq_false (show ¬ (1 ≤ g.Roles.length ∧ g.Roles.length ≤ 6) by omega)]; cases isWord g.Name <;> rfl
  rw [decide_eq_false c1, decide_eq_false c2, decide_eq_true (show 1 ≤ g.Roles.length ∧ g.Roles.length ≤ 6 by omega)]
  cases isWord g.Name <;> cases allV (roleV g) g.Roles 0 <;> rfl
 ·intro n k x hk hx
  have hw := (word_eq hN x (by have := hs.r x (List.mem_of_getElem? hx); omega)).1
  have ht : lsl g.Roles none (some (k : Int)) = some (g.Roles.take k) := lsl_to (A := g.Roles.take k) (B := g.Roles.drop k) (List.take_append_drop k _).symm (by simp; omega)
  have hc := contains_eq hN (g.Roles.take k) (by simp; omega) x
  simp only [z61_l2, lt_t hk, cond_true, idx_nat, hx, Option.bind_some, hw, ht, hc, roleV]
  rw [w64_succ (by omega)]
  cases isWord x <;> cases ((g.Roles.take k).any fun y => eqStr y x) <;> rfl
 ·intro n k hk
  simp only [z61_l2, lt_f hk, cond_false, z61_k1]
theorem first_before {α : Type} (f : α → Bool) : ∀ (l : List α) (k i : Nat) (x : α), l[i]? = some x → f x = true → ∃ j, lv (fun x (k : Nat) r => bif f x then some (k : Int) else r) (some (-1)) l k = some j ∧ decide (j < ((k + i : Nat) : Int)) = (l.take i).any f
 | [], k, i, x, h, _ => by simp at h
 | y :: l, k, i, x, h, hf => by
  show ∃ j, (bif f y then some (k : Int) else lv _ _ l (k + 1)) = some j ∧ _
  cases i with
  | zero =>
   simp at h; subst h
   rw [hf]
   exact ⟨k, rfl, by simp⟩
  | succ i =>
   rw [List.take_succ_cons, List.any_cons]
   cases hy : f y
   ·obtain ⟨j, j1, j2⟩ := first_before f l (k + 1) i x (by simpa using h) hf
    exact ⟨j, j1, by rw [show k + (i + 1) = k + 1 + i by omega, j2]; rfl⟩
   ·exact ⟨k, rfl, by simp; omega⟩
theorem names_eq (hN : 4194304 < N) (g : T4) (hg : SizeG g) (hs : SizeN g) : z51 N g = some (namedV g && validD g.Decls) := by
 unfold z51 namedV
 have hr := hg.r
 rw [allV_from (roleV g) (xs := g.Roles) (F := z51_l2 N g) (e := z51_k1 N g) (by omega)]
 ·unfold z51_k1
  rw [(word_eq hN g.Name (by have := hs.n; omega)).2, refValid_eq hN g.Decls hg.d hg.dd hs.d]
  simp only [Option.bind_some]
  by_cases c1 : (g.Roles.length : Int) ≥ 1
  ·by_cases c2 : (g.Roles.length : Int) ≤ 6
   ·rw [decide_eq_true c1, decide_eq_true c2, decide_eq_true (show 1 ≤ g.Roles.length ∧ g.Roles.length ≤ 6 by omega)]
    cases isWord g.Name <;> cases allV (roleV g) g.Roles 0 <;> rfl
   ·rw [decide_eq_true c1, decide_eq_false c2, decide_eq_false (show ¬ (1 ≤ g.Roles.length ∧ g.Roles.length ≤ 6) by omega)]
    cases isWord g.Name <;> cases allV (roleV g) g.Roles 0 <;> rfl
  ·rw [decide_eq_false c1, decide_eq_false (show ¬ (1 ≤ g.Roles.length ∧ g.Roles.length ≤ 6) by omega)]
   cases isWord g.Name <;> cases allV (roleV g) g.Roles 0 <;> rfl
 ·intro n k x hk hx
  have hw := (word_eq hN x (by have := hs.r x (List.mem_of_getElem? hx); omega)).2
  obtain ⟨j, j1, j2⟩ := first_before (fun y => eqStr y x) g.Roles 0 k x hx (eqStr_refl x)
  have hi : z76 N g.Roles x = some j := by rw [refIndex_eq hN g.Roles hr]; exact j1
  rw [Nat.zero_add] at j2
  simp only [z51_l2, lt_t hk, cond_true, idx_nat, hx, Option.bind_some, hw, hi, j2, roleV]
  rw [w64_succ (by omega)]
  cases isWord x <;> cases ((g.Roles.take k).any fun y => eqStr y x) <;> rfl
 ·intro n k hk
  simp only [z51_l2, lt_f hk, cond_false]
theorem bounds_l2 (d : T0) (hd : d.Guard.Equals.length ≤ 4194304) : ∀ (l : List (Int × Int)) (k n : Nat) (acc : List T1), d.Guard.Equals.drop k = l → l.length < n → acc.length + 2 * l.length ≤ 4294967296 → ∃ r, z159_l2 d n acc (k : Int) = some r := by
 intro l
 induction l with
 | nil =>
  intro k n acc h hn _
  obtain ⟨n, rfl⟩ : ∃ m, n = m + 1 := ⟨n - 1, by simp at hn; omega⟩
  exact ⟨acc, by simp only [z159_l2, lt_f (drop_nil h), cond_false, z159_k1]⟩
 | cons x l ih =>
  intro k n acc h hn ha
  obtain ⟨n, rfl⟩ : ∃ m, n = m + 1 := ⟨n - 1, by simp at hn; omega⟩
  obtain ⟨a, c, e⟩ := drop_cons h
  simp only [List.length_cons] at ha hn
  simp only [z159_l2, lt_t a, cond_true, idx_nat, c, Option.bind_some]
  rw [appL_some (by simp; omega), Option.bind_some, w64_succ (by omega)]
  exact ih (k + 1) n _ e (by omega) (by simp; omega)
theorem bounds_l4 (hN : 4194304 < N) (d : T0) (hd : SizeD d) : ∀ (l : List T3) (k n : Nat) (acc : List T1), d.Fields.drop k = l → l.length < n → acc.length + 2 * l.length ≤ 16777216 → ∃ r, z159_l4 N d n acc (k : Int) = some r := by
 intro l
 have h1 := hd.f
 have h2 := hd.d
 have h3 := hd.e
 induction l with
 | nil =>
  intro k n acc h hn ha
  obtain ⟨n, rfl⟩ : ∃ m, n = m + 1 := ⟨n - 1, by simp at hn; omega⟩
  simp only [z159_l4, lt_f (drop_nil h), cond_false, z159_k3]
  simp at ha
  rw [appL_some (by omega), Option.bind_some]
  exact bounds_l2 d h3 d.Guard.Equals 0 N _ rfl (by omega) (by simp; omega)
 | cons x l ih =>
  intro k n acc h hn ha
  obtain ⟨n, rfl⟩ : ∃ m, n = m + 1 := ⟨n - 1, by simp at hn; omega⟩
  obtain ⟨a, c, e⟩ := drop_cons h
  simp only [List.length_cons] at ha hn
  simp only [z159_l4, lt_t a, cond_true, idx_nat, c, Option.bind_some]
  rw [appL_some (by simp; omega), Option.bind_some, w64_succ (by omega)]
  exact ih (k + 1) n _ e (by omega) (by simp; omega)
theorem declared_eq (hN : 4194304 < N) (l : List T0) (hl : l.length ≤ 4194304) (hd : ∀ d ∈ l, SizeD d) (hn : ∀ d ∈ l, NameD d) : z63 N l = some (validD l) := by
 unfold z63
 cases l with
 | nil => rfl
 | cons x l =>
  have h0 : (((x :: l).length : Int) == 0) = false := by simp; omega
  have h1 : decide ((0 : Int) < 0) = false := rfl
  have h2 : decide ((0 : Int) ≥ ((x :: l).length : Int)) = false := by simp
  have e0 : idx (x :: l) (0 : Int) = some x := by rw [show (0 : Int) = ((0 : Nat) : Int) from rfl, idx_nat]; rfl
  have hb : ∃ r, z159 N x = some r := bounds_l4 hN x (hd x (by simp)) x.Fields 0 N [] rfl (by have := (hd x (by simp)).f; omega) (by have := (hd x (by simp)).f; simp; omega)
  obtain ⟨r, hr⟩ := hb
  unfold z122
  rw [h0, h1, h2, valid_eq hN (x :: l) hl hd hn, e0]
  simp only [cond_false, Option.bind_some, hr]
  cases validD (x :: l) <;> rfl
/-- A valid automaton. -/
structure ValidG (g : T4) : Prop where
 named : namedV g = true
 num : numV g = true
 decls : validD g.Decls = true
 apart : apartV g = true
 noEnd : (g.Edges.all fun x => !(x.From == g.End)) = true
 time : timeV g = true
 reach : ∃ F, Dist (ers g false) g.States.toNat g.Start F ∧ posV F = true
 ends : ∃ L, Dist (ers g true) g.States.toNat g.End L ∧ posV L = true
theorem Valid_both (hN : 4194304 < N) (g : T4) (hg : SizeG g) (hs : SizeN g) (hn : NumE g) : ∃ b, z22 N g = some b ∧ z19 N g = some b ∧ (b = true ↔ ValidG g) := by
 unfold z22 z19
 rw [named_eq hN g hg hs, numbered_eq hN g hg.e, declared_eq hN g.Decls hg.d hg.dd hs.d, ordered_eq hN g hg.e, timed_eq hN g hg.t, names_eq hN g hg hs, numbers_eq hN g hg.e, apart_eq hN g hg.e]
 simp only [Option.bind_some]
 cases h1 : namedV g
 ·exact ⟨false, by simp, by simp, by simp; intro h; have := h.named; rw [h1] at this; cases this⟩
 cases h2 : numV g
 ·refine ⟨false, by simp, ?_, by simp; intro h; have := h.num; rw [h2] at this; cases this⟩
  cases validD g.Decls <;> rfl
 cases h3 : validD g.Decls
 ·exact ⟨false, by simp, by simp, by simp; intro h; have := h.decls; rw [h3] at this; cases this⟩
 rw [orderV_eq]
 obtain ⟨o1, o2, o3, o4, o5, o6, o7⟩ := numV_head h2
 obtain ⟨F, f1, f2⟩ := spread_eq hN g h2 false g.Start o3 o4
 obtain ⟨L, l1, l2⟩ := spread_eq hN g h2 true g.End o5 o6
 rw [f1, l1, connected_eq hN g h2 hn l2 f2, refTimed_eq hN g hg.t h2]
 have cF := containsInt_eq hN F (by rw [f2.len]; omega) (-1)
 have cL := containsInt_eq hN L (by rw [l2.len]; omega) (-1)
 have pF : (F.any fun d => d == -1) = !posV F := by unfold posV; rw [Bool.not_not]
 have pL : (L.any fun d => d == -1) = !posV L := by unfold posV; rw [Bool.not_not]
 rw [pF] at cF
 rw [pL] at cL
 simp only [Option.bind_some, cF, cL]
 cases h4 : apartV g
 ·exact ⟨false, by simp, by simp, by simp; intro h; have := h.apart; rw [h4] at this; cases this⟩
 cases h5 : (g.Edges.all fun x => !(x.From == g.End))
 ·refine ⟨false, by simp, ?_, ?_⟩
  ·cases posV F <;> cases posV L <;> rfl
  ·simp only [Bool.false_eq_true, false_iff]
   intro h; have := h.noEnd; rw [h5] at this; cases this
 cases h6 : timeV g
 ·refine ⟨false, by simp, ?_, ?_⟩
  ·cases posV F <;> cases posV L <;> rfl
  ·simp only [Bool.false_eq_true, false_iff]
   intro h; have := h.time; rw [h6] at this; cases this
 cases h7 : posV F
 ·refine ⟨false, by simp, by simp, ?_⟩
  simp only [Bool.false_eq_true, false_iff]
  intro h
  obtain ⟨F', a, b⟩ := h.reach
  rw [a.uniq f2, h7] at b; cases b
 cases h8 : posV L
 ·refine ⟨false, by simp, by simp, ?_⟩
  simp only [Bool.false_eq_true, false_iff]
  intro h
  obtain ⟨L', a, b⟩ := h.ends
  rw [a.uniq l2, h8] at b; cases b
 exact ⟨true, by simp, by simp, by simp; exact ⟨h1, h2, h3, h4, h5, h6, ⟨F, f2, h7⟩, ⟨L, l2, h8⟩⟩⟩
end Gp
end
section
/- Plain law: the words of an automaton, first half: what one state adds. -/
set_option linter.unusedVariables false
set_option linter.unusedSimpArgs false
namespace Gp
open Go Go.Kx Gx
variable {N : Nat}
abbrev Word := List T6
/-- The action of an edge by its number. -/
def actOf (g : T4) (k : Int) : T6 := match idx g.Edges k with | some x => x.Act | none => ⟨0, 0, 0⟩
def toOf (g : T4) (k : Int) : Int := match idx g.Edges k with | some x => x.To | none => 0
theorem words_in (g : T4) (i : Nat) (w : Word) (L : List Int) (hL : ∀ k ∈ L, ∃ x, idx g.Edges k = some x) (hLl : L.length ≤ 400) (hw : w.length ≤ 100)
  (ag : List Word → List Int → Int → Option (List Word × Int)) :
  ∀ (l : List Int) (p n : Nat) (out : List Word) (at' : List Int), L.drop p = l → l.length < n → out[i]? = some w → out.length + l.length ≤ 1000000 → at'.length + l.length ≤ 1000000 →
  z14_l4 N g (i : Int) ag L n out at' (p : Int) = z14_k3 (i : Int) ag (out ++ l.map fun k => w ++ [actOf g k]) (at' ++ l.map (toOf g)) := by
 intro l
 induction l with
 | nil =>
  intro p n out at' h hn hw' _ _
  obtain ⟨n, rfl⟩ : ∃ m, n = m + 1 := ⟨n - 1, by simp at hn; omega⟩
  simp only [z14_l4, lt_f (drop_nil h), cond_false, List.map_nil, List.append_nil]
 | cons k l ih =>
  intro p n out at' h hn hw' b1 b2
  obtain ⟨n, rfl⟩ : ∃ m, n = m + 1 := ⟨n - 1, by simp at hn; omega⟩
  obtain ⟨hp, hk, hdr⟩ := drop_cons h
  simp only [List.length_cons] at hn b1 b2
  obtain ⟨x, hx⟩ := hL k (List.mem_of_getElem? hk)
  have hc : z45 N w = some w := by
   unfold z45
   rw [appL_some (by simp; omega)]; rfl
  have hil : i < out.length := (List.getElem?_eq_some_iff.mp hw').1
  simp only [z14_l4, lt_t hp, cond_true, idx_nat, hk, Option.bind_some, hw', hc, hx]
  rw [appL_some (by simp; omega), Option.bind_some, appL_some (by simp; omega), Option.bind_some, appL_some (by simp; omega), Option.bind_some, w64_succ (by omega)]
  rw [ih (p + 1) n (out ++ [w ++ [x.Act]]) (at' ++ [x.To]) hdr (by omega) (by rw [List.getElem?_append_left hil]; exact hw') (by simp; omega) (by simp; omega)]
  simp [actOf, toOf, hx]
theorem refWords_in (g : T4) (i : Nat) (w : Word) (L : List Int) (hL : ∀ k ∈ L, ∃ x, idx g.Edges k = some x) (hLl : L.length ≤ 400) (hw : w.length ≤ 100)
  (ag : List Word → Int → Option (List Word × Int)) :
  ∀ (l : List Int) (p n : Nat) (out : List Word), L.drop p = l → l.length < n → out[i]? = some w → out.length + l.length ≤ 1000000 →
  z15_l4 g (i : Int) ag L n out (p : Int) = z15_k3 (i : Int) ag (out ++ l.map fun k => w ++ [actOf g k]) := by
 intro l
 induction l with
 | nil =>
  intro p n out h hn hw' _
  obtain ⟨n, rfl⟩ : ∃ m, n = m + 1 := ⟨n - 1, by simp at hn; omega⟩
  simp only [z15_l4, lt_f (drop_nil h), cond_false, List.map_nil, List.append_nil]
 | cons k l ih =>
  intro p n out h hn hw' b1
  obtain ⟨n, rfl⟩ : ∃ m, n = m + 1 := ⟨n - 1, by simp at hn; omega⟩
  obtain ⟨hp, hk, hdr⟩ := drop_cons h
  simp only [List.length_cons] at hn b1
  obtain ⟨x, hx⟩ := hL k (List.mem_of_getElem? hk)
  have hil : i < out.length := (List.getElem?_eq_some_iff.mp hw').1
  simp only [z15_l4, lt_t hp, cond_true, idx_nat, hk, Option.bind_some, hw', hx]
  rw [appL_some (by simp; omega), Option.bind_some]
  rw [show ([] ++ w : Word) = w from rfl, appL_some (by simp; omega), Option.bind_some, appL_some (by simp; omega), Option.bind_some, w64_succ (by omega)]
  rw [ih (p + 1) n (out ++ [w ++ [x.Act]]) hdr (by omega) (by rw [List.getElem?_append_left hil]; exact hw') (by simp; omega)]
  simp [actOf, hx]
/-- Where a word leads. -/
def runV (g : T4) (s : Int) : Word → Int
 | [] => s
 | a :: w => runV g ((nextV g s a).getD (0, false)).1 w
theorem runV_app (g : T4) : ∀ (w v : Word) (s : Int), runV g s (w ++ v) = runV g (runV g s w) v
 | [], v, s => rfl
 | a :: w, v, s => runV_app g w v _
theorem last_loop (hN : 4194304 < N) (g : T4) (hg : g.Edges.length ≤ 4194304) (w : Word) (hw : w.length ≤ 4194304) :
  ∀ (l : Word) (k n : Nat) (s : Int), w.drop k = l → l.length < n → z46_l2 N g w n s (k : Int) = some (runV g s l) := by
 intro l
 induction l with
 | nil =>
  intro k n s h hn
  obtain ⟨n, rfl⟩ : ∃ m, n = m + 1 := ⟨n - 1, by simp at hn; omega⟩
  simp only [z46_l2, lt_f (drop_nil h), cond_false, z46_k1]
  rfl
 | cons a l ih =>
  intro k n s h hn
  obtain ⟨n, rfl⟩ : ∃ m, n = m + 1 := ⟨n - 1, by simp at hn; omega⟩
  obtain ⟨hk, ha, hdr⟩ := drop_cons h
  obtain ⟨v, hv⟩ := next_some g s a
  simp only [z46_l2, lt_t hk, cond_true, idx_nat, ha, Option.bind_some, refNext_eq hN g hg, hv]
  rw [w64_succ (by omega), ih (k + 1) n _ hdr (by simp at hn; omega)]
  show _ = some (runV g ((nextV g s a).getD (0, false)).1 l)
  rw [hv]; rfl
theorem last_eq (hN : 4194304 < N) (g : T4) (hg : g.Edges.length ≤ 4194304) (w : Word) (hw : w.length ≤ 1000) : z46 N g w = some (runV g g.Start w) := by
 unfold z46
 exact last_loop hN g hg w (by omega) w 0 N _ rfl (by omega)
theorem eqAct_iff (a b : T6) : ((a.From == b.From) && ((a.To == b.To) && ((a.Label == b.Label) && true))) = true ↔ a = b := by
 cases a; cases b; simp
/-- Of a state's edges, one alone has an action. -/
theorem apart_act {g : T4} (h : apartV g = true) {i j : Nat} {x y : T2} (hx : g.Edges[i]? = some x) (hy : g.Edges[j]? = some y) (hf : x.From = y.From) (ha : x.Act = y.Act) : i = j := by
 have h1 := (allV_iff _ _ _).mp h i x hx
 unfold apartE at h1
 rw [Bool.and_eq_true, Nat.zero_add] at h1
 have h2 := (allV_iff _ _ _).mp h1.2 j y hy
 rw [Nat.zero_add] at h2
 by_cases hij : i = j
 ·exact hij
 ·exfalso
  unfold apartP at h2
  rw [decide_eq_false hij, show (x.From == y.From) = true by simp [hf], (eqAct_iff x.Act y.Act).mpr ha] at h2
  simp at h2
/-- The state behind an edge's action is that of the edge. -/
theorem next_edge {g : T4} (h : apartV g = true) {i : Nat} {x : T2} (hx : g.Edges[i]? = some x) : nextV g x.From x.Act = some (x.To, true) := by
 unfold nextV
 have gen : ∀ (l : List T2) (k : Nat), g.Edges.drop k = l → k ≤ i → lv (fun y (k : Nat) r => nextB x.From x.Act y k r) (some ((0 : Int), false)) l k = some (x.To, true) := by
  intro l
  induction l with
  | nil =>
   intro k hd hk
   have := drop_nil hd
   have := (List.getElem?_eq_some_iff.mp hx).1
   omega
  | cons y l ih =>
   intro k hd hk
   obtain ⟨a, c, d⟩ := drop_cons hd
   show nextB x.From x.Act y k _ = _
   unfold nextB
   by_cases hki : k = i
   ·subst hki
    rw [hx] at c; cases c
    rw [show (x.From == x.From) = true by simp, (eqAct_iff x.Act x.Act).mpr rfl]; rfl
   ·have hrec := ih (k + 1) d (by omega)
    cases hf : (y.From == x.From)
    ·rw [cond_false]; exact hrec
    ·cases hact : ((y.Act.From == x.Act.From) && ((y.Act.To == x.Act.To) && ((y.Act.Label == x.Act.Label) && true)))
     ·rw [cond_true, cond_false]; exact hrec
     ·exact absurd (apart_act h c hx (by simpa using hf) ((eqAct_iff _ _).mp hact)) hki
 exact gen g.Edges 0 rfl (by omega)
end Gp
end
section
/- Plain law: the words of an automaton: both sides answer the same, one state's words behind another's. -/
set_option linter.unusedVariables false
set_option linter.unusedSimpArgs false
namespace Gp
open Go Go.Kx Gx
variable {N : Nat}
theorem placesOf_mem' (g : T4) (s : Int) : ∀ (l : List T2) (k : Nat) (y : Int), y ∈ placesOf g s l k → ∃ m x, l[m]? = some x ∧ x.From = s ∧ y = ((k + m : Nat) : Int)
 | [], k, y, h => by simp [placesOf] at h
 | x :: l, k, y, h => by
  have e0 : placesOf g s (x :: l) k = if x.From = s then (k : Int) :: placesOf g s l (k + 1) else placesOf g s l (k + 1) := rfl
  rw [e0] at h
  split at h
  ·rename_i hf
   rcases List.mem_cons.mp h with h | h
   ·exact ⟨0, x, by simp, hf, by rw [h]; simp⟩
   ·obtain ⟨m, z, h1, h2, h3⟩ := placesOf_mem' g s l (k + 1) y h
    exact ⟨m + 1, z, by simpa using h1, h2, by rw [h3]; congr 1; omega⟩
  ·obtain ⟨m, z, h1, h2, h3⟩ := placesOf_mem' g s l (k + 1) y h
   exact ⟨m + 1, z, by simpa using h1, h2, by rw [h3]; congr 1; omega⟩
theorem edge_of {g : T4} {s : Int} {L : List Int} (h : EdgesAre g s L) : ∀ k ∈ L, ∃ m x, k = ((m : Nat) : Int) ∧ g.Edges[m]? = some x ∧ x.From = s := by
 intro k hk
 obtain ⟨m, x, h1, h2, h3⟩ := placesOf_mem' g s g.Edges 0 k (h.1.mem_iff.mp hk)
 exact ⟨m, x, by rw [h3]; simp, h1, h2⟩
def kids (g : T4) (w : Word) (L : List Int) : List Word := L.map fun k => w ++ [actOf g k]
/-- From the i-th word on, the words of its edges stand from the c-th place on, and so forth. -/
inductive Gen (g : T4) (nn : Nat) (A : List Word) : Nat → Nat → Prop
 | stop (i c : Nat) : A.length ≤ i → Gen g nn A i c
 | full (i c : Nat) (w : Word) : A[i]? = some w → w.length = nn → Gen g nn A i c
 | step (i c : Nat) (w : Word) (L : List Int) (X Y : List Word) : A[i]? = some w → w.length < nn → EdgesAre g (runV g g.Start w) L → A = X ++ (kids g w L ++ Y) → X.length = c → Gen g nn A (i + 1) (c + L.length) → Gen g nn A i c
structure WInv (g : T4) (nn i : Nat) (out : List Word) (at' : List Int) : Prop where
 same : at'.length = out.length
 leads : ∀ (j : Nat) (w : Word), out[j]? = some w → at'[j]? = some (runV g g.Start w)
 most : ∀ w ∈ out, w.length ≤ nn
 up : ∀ (j k : Nat) (v w : Word), j ≤ k → out[j]? = some v → out[k]? = some w → v.length ≤ w.length
 near : ∀ (w : Word), out[i]? = some w → ∀ v ∈ out, v.length ≤ w.length + 1
 le : i ≤ out.length
 few : out.length ≤ 3000
theorem skip_loop (g : T4) (nn : Nat) (out : List Word) (at' : List Int) (hl : out.length ≤ 3000) :
  ∀ (l : List Word) (i n : Nat), out.drop i = l → l.length < n → (∀ w ∈ l, w.length = nn) → z14_l2 N g (nn : Int) n out at' (i : Int) = some (out, 0) := by
 intro l
 induction l with
 | nil =>
  intro i n h hn hw
  obtain ⟨n, rfl⟩ : ∃ m, n = m + 1 := ⟨n - 1, by simp at hn; omega⟩
  simp only [z14_l2, lt_f (drop_nil h), cond_false, z14_k1]
 | cons w l ih =>
  intro i n h hn hw
  obtain ⟨n, rfl⟩ : ∃ m, n = m + 1 := ⟨n - 1, by simp at hn; omega⟩
  obtain ⟨hi, hx, hdr⟩ := drop_cons h
  have he : ((w.length : Int) == (nn : Int)) = true := by simp [hw w (by simp)]
  simp only [z14_l2, lt_t hi, cond_true, idx_nat, hx, Option.bind_some, he]
  rw [w64_succ (by omega)]
  exact ih (i + 1) n hdr (by simp at hn; omega) (fun v hv => hw v (by simp [hv]))
theorem words_out (hN : 16777216 < N) (g : T4) (hv : ValidG g) (hn : NumE g) (hE : g.Edges.length ≤ 400) (nn : Nat) (hnn : nn ≤ 12) :
  ∀ (f m i : Nat) (out : List Word) (at' : List Int), 3001 - i < f → 3001 - i < m → 3001 < f + i → 3001 < m + i → WInv g nn i out at' →
  (z14_l2 N g (nn : Int) f out at' (i : Int) = some ([], 6) ∧ z15_l2 N g (nn : Int) m out (i : Int) = some ([], 6)) ∨
  ∃ A X, A = out ++ X ∧ A.length ≤ 3000 ∧ (∀ w ∈ A, w.length ≤ nn) ∧ z14_l2 N g (nn : Int) f out at' (i : Int) = some (A, 0) ∧ z15_l2 N g (nn : Int) m out (i : Int) = some (A, 0) ∧ Gen g nn A i out.length := by
 intro f
 induction f with
 | zero => intro m i out at' h; omega
 | succ f ih =>
  intro m i out at' hf hm hf2 hm2 hI
  obtain ⟨m, rfl⟩ : ∃ q, m = q + 1 := ⟨m - 1, by omega⟩
  by_cases hi : i < out.length
  ·have hw := List.getElem?_eq_getElem hi
   generalize out[i] = w at hw
   have hwm : w ∈ out := List.mem_of_getElem? hw
   have hwl := hI.most w hwm
   have hfew := hI.few
   by_cases hl : w.length = nn
   ·right
    have he : ((w.length : Int) == (nn : Int)) = true := by simp [hl]
    refine ⟨out, [], by simp, hI.few, hI.most, ?_, ?_, .full i _ w hw hl⟩
    ·refine skip_loop g nn out at' hI.few (out.drop i) i (f + 1) rfl (by simp; omega) ?_
     intro v hvd
     obtain ⟨q, hq⟩ := List.mem_iff_getElem?.mp hvd
     rw [List.getElem?_drop] at hq
     have h1 := hI.up i (i + q) w v (by omega) hw hq
     have h2 := hI.most v (List.mem_of_getElem? hq)
     omega
    ·simp only [z15_l2, lt_t hi, cond_true, idx_nat, hw, Option.bind_some, he, z15_k1]
   ·have he : ((w.length : Int) == (nn : Int)) = false := by simp; omega
    obtain ⟨L, l1, l2, l3⟩ := Edges_both hN g (by omega) hn (runV g g.Start w)
    have hLl : L.length ≤ 400 := by rw [l1.1.length_eq]; have := placesOf_len g (runV g g.Start w) g.Edges 0; omega
    have hLe := edge_of l1
    have hL : ∀ k ∈ L, ∃ x, idx g.Edges k = some x := by
     intro k hk
     obtain ⟨q, x, rfl, h2, _⟩ := hLe k hk
     exact ⟨x, by rw [idx_nat, h2]⟩
    have hat := hI.leads i w hw
    have hsame := hI.same
    have hlast := last_eq (N := N) (by omega) g (by omega) w (by omega)
    have g1 := words_in (N := N) g i w L hL hLl (by omega) (z14_l2 N g (nn : Int) f) L 0 N out at' rfl (by omega) hw (by omega) (by omega)
    have r1 := refWords_in g i w L hL hLl (by omega) (z15_l2 N g (nn : Int) m) L 0 N out rfl (by omega) hw (by omega)
    have eG : z14_l2 N g (nn : Int) (f + 1) out at' (i : Int) = z14_k3 (i : Int) (z14_l2 N g (nn : Int) f) (out ++ kids g w L) (at' ++ L.map (toOf g)) := by
     simp only [z14_l2, lt_t hi, cond_true, idx_nat, hw, Option.bind_some, he, cond_false, hat, l2]
     exact g1
    have eR : z15_l2 N g (nn : Int) (m + 1) out (i : Int) = z15_k3 (i : Int) (z15_l2 N g (nn : Int) m) (out ++ kids g w L) := by
     simp only [z15_l2, lt_t hi, cond_true, idx_nat, hw, Option.bind_some, he, cond_false, hlast, l3]
     exact r1
    rw [eG, eR]
    unfold z14_k3 z15_k3
    by_cases hbig : ((out ++ kids g w L).length : Int) > 3000
    ·left
     rw [decide_eq_true hbig]
     exact ⟨rfl, rfl⟩
    ·rw [decide_eq_false hbig, cond_false, cond_false, w64_succ (by omega)]
     have hkl : ∀ v ∈ kids g w L, v.length = w.length + 1 := by
      intro v hv'
      obtain ⟨k, _, rfl⟩ := List.mem_map.mp hv'
      simp
     have hI' : WInv g nn (i + 1) (out ++ kids g w L) (at' ++ L.map (toOf g)) := by
      refine ⟨by simp [kids, hsame], ?_, ?_, ?_, ?_, by simp; omega, by omega⟩
      ·intro j v hj
       by_cases hjl : j < out.length
       ·rw [List.getElem?_append_left hjl] at hj
        rw [List.getElem?_append_left (by omega)]
        exact hI.leads j v hj
       ·rw [List.getElem?_append_right (by omega)] at hj
        rw [List.getElem?_append_right (by omega), hsame]
        unfold kids at hj
        rw [List.getElem?_map] at hj ⊢
        cases hk : L[j - out.length]? with
        | none => rw [hk] at hj; cases hj
        | some k =>
         rw [hk] at hj
         obtain ⟨q, x, rfl, h2, h3⟩ := hLe k (List.mem_of_getElem? hk)
         have hv' : v = w ++ [actOf g (q : Int)] := (Option.some.inj hj).symm
         have ea : actOf g (q : Int) = x.Act := by simp [actOf, idx_nat, h2]
         have et : toOf g (q : Int) = x.To := by simp [toOf, idx_nat, h2]
         rw [hv', runV_app, ea]
         show some (toOf g (q : Int)) = some ((nextV g (runV g g.Start w) x.Act).getD (0, false)).1
         rw [← h3, next_edge hv.apart h2, et]; rfl
      ·intro v hv'
       rcases List.mem_append.mp hv' with h | h
       ·exact hI.most v h
       ·have := hkl v h; omega
      ·intro j k v u hjk hj hk
       by_cases h1 : k < out.length
       ·rw [List.getElem?_append_left h1] at hk
        rw [List.getElem?_append_left (by omega)] at hj
        exact hI.up j k v u hjk hj hk
       ·rw [List.getElem?_append_right (by omega)] at hk
        have hu := hkl u (List.mem_of_getElem? hk)
        by_cases h2 : j < out.length
        ·rw [List.getElem?_append_left h2] at hj
         have := hI.near w hw v (List.mem_of_getElem? hj)
         omega
        ·rw [List.getElem?_append_right (by omega)] at hj
         have := hkl v (List.mem_of_getElem? hj)
         omega
      ·intro u hu v hv'
       have hwu : w.length ≤ u.length := by
        by_cases h1 : i + 1 < out.length
        ·rw [List.getElem?_append_left h1] at hu
         exact hI.up i (i + 1) w u (by omega) hw hu
        ·rw [List.getElem?_append_right (by omega)] at hu
         have := hkl u (List.mem_of_getElem? hu)
         omega
       rcases List.mem_append.mp hv' with h | h
       ·have := hI.near w hw v h; omega
       ·have := hkl v h; omega
     rcases ih m (i + 1) (out ++ kids g w L) (at' ++ L.map (toOf g)) (by omega) (by omega) (by omega) (by omega) hI' with h | ⟨A, X, a1, a2, a3, a4, a5, a6⟩
     ·exact .inl h
     ·right
      refine ⟨A, kids g w L ++ X, by rw [a1]; simp, a2, a3, a4, a5, ?_⟩
      refine .step i out.length w L out X ?_ (by omega) l1 (by rw [a1]; simp) rfl ?_
      ·rw [a1, List.append_assoc, List.getElem?_append_left hi]; exact hw
      ·have : (out ++ kids g w L).length = out.length + L.length := by simp [kids]
       rw [this] at a6
       exact a6
  ·right
   refine ⟨out, [], by simp, hI.few, hI.most, ?_, ?_, .stop i _ (by omega)⟩
   ·simp only [z14_l2, lt_f (show out.length ≤ i by omega), cond_false, z14_k1]
   ·simp only [z15_l2, lt_f (show out.length ≤ i by omega), cond_false, z15_k1]
end Gp
end
section
/- What the arguments hold that the statement reads: sizes and numbers within their kinds. -/
namespace Gx
open Go Go.Kx
def k_api_Sort (x : T7) : Prop := ((Lit.int .i64 x.Kind).wf = true) ∧ ((Lit.int .i64 x.Lo).wf = true) ∧ ((Lit.int .i64 x.Hi).wf = true)
def k_api_Field (x : T3) : Prop := (x.Name.size ≤ bd) ∧ (k_api_Sort x.Sort')
def k_api_Diff (x : T1) : Prop := ((Lit.int .i64 x.X).wf = true) ∧ ((Lit.int .i64 x.Y).wf = true) ∧ ((Lit.int .i64 x.C).wf = true)
def k_api_Guard (x : T5) : Prop := (x.Diffs.length ≤ bd ∧ ∀ y ∈ x.Diffs, k_api_Diff y) ∧ (x.Equals.length ≤ bd ∧ ∀ y ∈ x.Equals, ((Lit.int .i64 y.1).wf = true) ∧ ((Lit.int .i64 y.2).wf = true))
def k_api_Decl (x : T0) : Prop := (x.Name.size ≤ bd) ∧ (x.Fields.length ≤ bd ∧ ∀ y ∈ x.Fields, k_api_Field y) ∧ ((Lit.int .i64 x.First).wf = true) ∧ (k_api_Guard x.Guard)
def k_api_Interaction (x : T6) : Prop := ((Lit.int .i64 x.From).wf = true) ∧ ((Lit.int .i64 x.To).wf = true) ∧ ((Lit.int .i64 x.Label).wf = true)
def k_api_Edge (x : T2) : Prop := ((Lit.int .i64 x.From).wf = true) ∧ (k_api_Interaction x.Act) ∧ ((Lit.int .i64 x.To).wf = true) ∧ (True)
def k_api_Timeout (x : T8) : Prop := ((Lit.int .i64 x.State).wf = true) ∧ ((Lit.int .i64 x.Ticks).wf = true) ∧ ((Lit.int .i64 x.Else).wf = true)
def k_api_Global (x : T4) : Prop := (x.Name.size ≤ bd) ∧ (x.Roles.length ≤ bd ∧ ∀ y ∈ x.Roles, y.size ≤ bd) ∧ (x.Decls.length ≤ bd ∧ ∀ y ∈ x.Decls, k_api_Decl y) ∧ ((Lit.int .i64 x.States).wf = true) ∧ ((Lit.int .i64 x.Start).wf = true) ∧ ((Lit.int .i64 x.End).wf = true) ∧ (x.Edges.length ≤ bd ∧ ∀ y ∈ x.Edges, k_api_Edge y) ∧ (x.Timeouts.length ≤ bd ∧ ∀ y ∈ x.Timeouts, k_api_Timeout y)
end Gx
end
section
/- Plain law: what the sizes of arguments give. -/
set_option linter.unusedVariables false
set_option linter.unusedSimpArgs false
namespace Gp
open Go Go.Kx Gx
theorem sizeD_of {x : T0} (h : k_api_Decl x) : SizeD x := by
 obtain ⟨_, h1, _, h2⟩ := h
 exact ⟨by have := h1.1; unfold bd at this; omega, by have := h2.1.1; unfold bd at this; omega, by have := h2.2.1; unfold bd at this; omega⟩
theorem sizeG_of {x : T4} (h : k_api_Global x) : SizeG x := by
 obtain ⟨_, h1, h2, _, _, _, h3, h4⟩ := h
 exact ⟨by have := h1.1; unfold bd at this; omega, by have := h2.1; unfold bd at this; omega, fun d hd => sizeD_of (h2.2 d hd), by have := h3.1; unfold bd at this; omega, by have := h4.1; unfold bd at this; omega⟩
theorem numE_of {x : T4} (h : k_api_Global x) : NumE x := by
 obtain ⟨_, h1, h2, _, _, _, h3, h4⟩ := h
 intro e he
 have := (h3.2 e he).2.1
 exact ⟨I64.of this.2.1, I64.of this.2.2⟩
theorem nameD_of {x : T0} (h : k_api_Decl x) : NameD x := by
 obtain ⟨h0, h1, _, h2⟩ := h
 exact ⟨by unfold bd at h0; omega, fun f hf => by have := (h1.2 f hf).1; unfold bd at this; omega⟩
theorem sizeN_of {x : T4} (h : k_api_Global x) : SizeN x := by
 obtain ⟨h0, h1, h2, _⟩ := h
 exact ⟨by unfold bd at h0; omega, fun s hs => by have := h1.2 s hs; unfold bd at this; omega, fun d hd => nameD_of (h2.2 d hd)⟩
end Gp
end
section
open Go Go.Kx Gx
set_option maxRecDepth 100000
theorem awake_c (n : Nat) : z12 (n + 300) = some true := by kernel_rfl
end
section
/- Plain law: the words of an automaton. -/
set_option linter.unusedVariables false
set_option linter.unusedSimpArgs false
namespace Gp
open Go Go.Kx Gx
variable {N : Nat}
theorem allT {α : Type} : ∀ (l : List α) (k : Nat), allV (fun (_ : α) (_ : Nat) => true) l k = true
 | [], _ => rfl
 | x :: l, k => by show (true && allV _ l (k + 1)) = true; rw [allT l]; rfl
theorem sameWords_refl (hN : 4194304 < N) (A : List Word) (hA : A.length ≤ 3000) (hw : ∀ w ∈ A, w.length ≤ 1000) : z16 N A A = some true := by
 unfold z16
 have h0 : ((A.length : Int) != (A.length : Int)) = false := by simp
 rw [h0, cond_false, allV_from (fun _ _ => true) (xs := A) (F := z16_l2 N A A) (e := some true) (by omega), allT]
 ·rfl
 ·intro n k w hk hx
  have hwl := hw w (List.mem_of_getElem? hx)
  have h1 : ((w.length : Int) != (w.length : Int)) = false := by simp
  have inner : z16_l4 A A (k : Int) (z16_l2 N A A n) w N (0 : Int) = z16_k3 (k : Int) (z16_l2 N A A n) := by
   rw [allV_from (fun _ _ => true) (xs := w) (F := z16_l4 A A (k : Int) (z16_l2 N A A n) w) (e := z16_k3 (k : Int) (z16_l2 N A A n)) (by omega), allT]
   ·rfl
   ·intro m i a hi ha
    simp only [z16_l4, lt_t hi, cond_true, idx_nat, hx, ha, Option.bind_some, (eqAct_iff a a).mpr rfl, Bool.not_true, cond_false]
    rw [w64_succ (by omega)]
   ·intro m i hi
    simp only [z16_l4, lt_f hi, cond_false]
  simp only [z16_l2, lt_t hk, cond_true, idx_nat, hx, Option.bind_some, h1, cond_false, inner, z16_k3]
  rw [w64_succ (by omega)]
 ·intro n k hk
  simp only [z16_l2, lt_f hk, cond_false, z16_k1]
theorem run_loop (hN : 4194304 < N) (g : T4) (hg : g.Edges.length ≤ 4194304) (x4 : List Word × Int) (c i : Int) (ag : Int → Int → Option Bool) (w : Word) (hw : w.length ≤ 1000) :
  ∀ (l : Word) (k n : Nat) (s : Int), w.drop k = l → l.length < n → law18_GlobalWords_l6 N g x4 c i ag w n s (k : Int) = law18_GlobalWords_k5 N g x4 c i ag (runV g s l) := by
 intro l
 induction l with
 | nil =>
  intro k n s h hn
  obtain ⟨n, rfl⟩ : ∃ m, n = m + 1 := ⟨n - 1, by simp at hn; omega⟩
  simp only [law18_GlobalWords_l6, lt_f (drop_nil h), cond_false]
  rfl
 | cons a l ih =>
  intro k n s h hn
  obtain ⟨n, rfl⟩ : ∃ m, n = m + 1 := ⟨n - 1, by simp at hn; omega⟩
  obtain ⟨hk, ha, hdr⟩ := drop_cons h
  obtain ⟨v, hv⟩ := next_some g s a
  simp only [law18_GlobalWords_l6, lt_t hk, cond_true, idx_nat, ha, Option.bind_some, Next_eq hN g hg, hv]
  rw [w64_succ (by omega), ih (k + 1) n _ hdr (by simp at hn; omega)]
  show _ = law18_GlobalWords_k5 N g x4 c i ag (runV g ((nextV g s a).getD (0, false)).1 l)
  rw [hv]; rfl
theorem kids_loop (hN : 4194304 < N) (g : T4) (A : List Word) (hA : A.length ≤ 3000) (i : Nat) (w : Word) (hw : A[i]? = some w) (hwl : w.length ≤ 100) (L : List Int) (hLe : ∀ k ∈ L, ∃ m x, k = ((m : Nat) : Int) ∧ g.Edges[m]? = some x ∧ x.From = runV g g.Start w) (hL4 : L.length ≤ 400)
  (ag : Int → Int → Option Bool) :
  ∀ (l : List Int) (p n : Nat) (X Y : List Word), L.drop p = l → l.length < n → A = X ++ (kids g w l ++ Y) →
  law18_GlobalWords_l4 N g (A, (0 : Int)) (i : Int) ag L n (X.length : Int) (p : Int) = ag ((X.length + l.length : Nat) : Int) ((i + 1 : Nat) : Int) := by
 have hil : i < A.length := (List.getElem?_eq_some_iff.mp hw).1
 intro l
 induction l with
 | nil =>
  intro p n X Y h hn hX
  obtain ⟨n, rfl⟩ : ∃ m, n = m + 1 := ⟨n - 1, by simp at hn; omega⟩
  simp only [law18_GlobalWords_l4, lt_f (drop_nil h), cond_false, law18_GlobalWords_k3]
  rw [w64_succ (by omega)]; rfl
 | cons k l ih =>
  intro p n X Y h hn hX
  obtain ⟨n, rfl⟩ : ∃ m, n = m + 1 := ⟨n - 1, by simp at hn; omega⟩
  obtain ⟨hp, hk, hdr⟩ := drop_cons h
  obtain ⟨q, x, rfl, h2, h3⟩ := hLe k (List.mem_of_getElem? hk)
  have ea : actOf g (q : Int) = x.Act := by simp [actOf, idx_nat, h2]
  have hAx : A = X ++ (w ++ [x.Act]) :: (kids g w l ++ Y) := by rw [hX]; simp [kids, ea]
  have hXl : X.length < A.length := by rw [hAx]; simp
  have e1 : A[X.length]? = some (w ++ [x.Act]) := get_at hAx rfl
  have hge : decide ((X.length : Int) ≥ (A.length : Int)) = false := by simp; omega
  have wl : w64 ((w.length : Int) + 1) = ((w.length + 1 : Nat) : Int) := w64_succ (by omega)
  have hne : (((w ++ [x.Act] : Word).length : Int) != ((w.length + 1 : Nat) : Int)) = false := by simp
  have e2 : (w ++ [x.Act] : Word)[w.length]? = some x.Act := get_at (A := w) (B := []) rfl rfl
  have e3 : lsl (w ++ [x.Act] : Word) none (some (w.length : Int)) = some w := lsl_to (A := w) (B := [x.Act]) rfl rfl
  have wi : w64 ((i : Int) + 1) = ((i + 1 : Nat) : Int) := w64_succ (by omega)
  have e4 : lsl A (some (i : Int)) (some ((i + 1 : Nat) : Int)) = some [w] := by
   have b : bnd (some (i : Int)) (some ((i + 1 : Nat) : Int)) A.length = some (i, i + 1) := by
    have q1 : decide ((0 : Int) ≤ (i : Int)) = true := by simp
    have q2 : decide ((i : Int) ≤ ((i + 1 : Nat) : Int)) = true := by simp; omega
    have q3 : decide (((i + 1 : Nat) : Int) ≤ (A.length : Int)) = true := by simp; omega
    unfold bnd
    simp only [Option.getD_some, q1, q2, q3, Bool.and_self, cond_true]
    simp
   unfold lsl
   rw [b, Option.map_some]
   congr 1
   obtain ⟨P, z, Q, hP, hPl⟩ := cut_one A i hil
   rw [hP, get_mid P z Q hPl] at hw
   cases hw
   rw [hP]
   subst hPl
   rw [List.take_append, List.take_of_length_le (by omega), show P.length + 1 - P.length = 1 by omega]
   simp
  have same := sameWords_refl (N := N) hN [w] (by simp) (by intro v hv; simp at hv; subst hv; omega)
  have wp : w64 ((p : Int) + 1) = ((p + 1 : Nat) : Int) := w64_succ (by omega)
  have wX : w64 ((X.length : Int) + 1) = ((X.length + 1 : Nat) : Int) := w64_succ (by omega)
  simp only [law18_GlobalWords_l4, lt_t hp, cond_true, idx_nat, hk, Option.bind_some, hge, cond_false, e1, hw, wl, hne, e2, h2, (eqAct_iff x.Act x.Act).mpr rfl, Bool.not_true, e3, wi, e4, same, wp, wX]
  have := ih (p + 1) n (X ++ [w ++ [x.Act]]) Y hdr (by simp at hn; omega) (by rw [hAx]; simp)
  rw [show ((X.length + 1 : Nat) : Int) = ((X ++ [w ++ [x.Act]] : List Word).length : Int) by simp, this]
  congr 1
  simp; omega
theorem check (hN : 16777216 < N) (g : T4) (hn : NumE g) (hE : g.Edges.length ≤ 400) (nn : Nat) (hnn : nn ≤ 12) (A : List Word) (hA : A.length ≤ 3000) (hw : ∀ w ∈ A, w.length ≤ nn) :
  ∀ (f i c : Nat), 3001 - i < f → 3001 < f + i → Gen g nn A i c → law18_GlobalWords_l2 N g (nn : Int) (A, (0 : Int)) f (c : Int) (i : Int) = some true := by
 intro f
 induction f with
 | zero => intro i c h; omega
 | succ f ih =>
  intro i c hf hf2 hG
  have h0 : ((0 : Int) == 0) = true := rfl
  cases hG with
  | stop _ _ h =>
   simp only [law18_GlobalWords_l2, lt_f h, cond_false, law18_GlobalWords_k1]
  | full _ _ w h1 h2 =>
   have hil : i < A.length := (List.getElem?_eq_some_iff.mp h1).1
   have hlt : decide ((w.length : Int) < (nn : Int)) = false := by simp; omega
   simp only [law18_GlobalWords_l2, lt_t hil, cond_true, h0, idx_nat, h1, Option.bind_some, hlt, cond_false, law18_GlobalWords_k1]
  | step _ _ w L X Y h1 h2 h3 h4 h5 h6 =>
   have hil : i < A.length := (List.getElem?_eq_some_iff.mp h1).1
   have hlt : decide ((w.length : Int) < (nn : Int)) = true := by simp; omega
   have hr := run_loop (N := N) (by omega) g (by omega) (A, (0 : Int)) (c : Int) (i : Int) (law18_GlobalWords_l2 N g (nn : Int) (A, (0 : Int)) f) w (by omega) w 0 N g.Start rfl (by omega)
   obtain ⟨L', l1, l2, _⟩ := Edges_both hN g (by omega) hn (runV g g.Start w)
   have := l1.uniq h3
   subst this
   have hL4 : L'.length ≤ 400 := by rw [l1.1.length_eq]; have := placesOf_len g (runV g g.Start w) g.Edges 0; omega
   have hk := kids_loop (N := N) (by omega) g A hA i w h1 (by omega) L' (edge_of l1) hL4 (law18_GlobalWords_l2 N g (nn : Int) (A, (0 : Int)) f) L' 0 N X Y rfl (by omega) h4
   simp only [law18_GlobalWords_l2, lt_t hil, cond_true, h0, idx_nat, h1, Option.bind_some, hlt]
   rw [show (0 : Int) = ((0 : Nat) : Int) from rfl] at hr ⊢
   rw [hr]
   unfold law18_GlobalWords_k5
   rw [l2, Option.bind_some, ← h5]
   exact hk.trans (ih (i + 1) _ (by omega) (by omega) (by rw [h5]; exact h6))
theorem Words_both (hN : 16777216 < N) (g : T4) (hg : SizeG g) (hs : SizeN g) (hn : NumE g) (n : Int) : ∃ r, z14 N g n = some r ∧ z15 N g n = some r ∧ r.1.length ≤ 3000 ∧ (∀ w ∈ r.1, w.length ≤ 100) ∧ law18_GlobalWords_l2 N g n r N (1 : Int) (0 : Int) = some true := by
 obtain ⟨b, b1, b2, b3⟩ := Valid_both (N := N) (by omega) g hg hs hn
 obtain ⟨f, rfl⟩ : ∃ f, N = f + 1 := ⟨N - 1, by omega⟩
 have none_ok : ∀ e : Int, law18_GlobalWords_l2 (f + 1) g n (([] : List Word), e) (f + 1) (1 : Int) (0 : Int) = some true := by
  intro e
  have : decide ((0 : Int) < (([] : List Word).length : Int)) = false := rfl
  simp only [law18_GlobalWords_l2, this, cond_false, law18_GlobalWords_k1]
 unfold z14 z15
 rw [b1, b2]
 simp only [Option.bind_some]
 cases b
 ·exact ⟨_, rfl, rfl, by simp, by simp, none_ok 1⟩
 have hv := b3.mp rfl
 obtain ⟨o1, o2, o3, o4, o5, o6, o7⟩ := numV_head hv.num
 simp only [Bool.not_true, cond_false]
 by_cases h1 : n < 0
 ·rw [decide_eq_true h1]; exact ⟨_, rfl, rfl, by simp, by simp, none_ok 2⟩
 by_cases h2 : n > 12
 ·rw [decide_eq_false h1, decide_eq_true h2]; exact ⟨_, rfl, rfl, by simp, by simp, none_ok 2⟩
 rw [decide_eq_false h1, decide_eq_false h2]
 simp only [cond_false]
 obtain ⟨nn, rfl⟩ : ∃ nn : Nat, n = (nn : Int) := ⟨n.toNat, by omega⟩
 have hI : WInv g nn 0 [([] : Word)] [g.Start] := by
  refine ⟨rfl, ?_, by simp, ?_, ?_, by simp, by simp⟩
  ·intro j w hj
   cases j with
   | zero => simp at hj; subst hj; rfl
   | succ j => simp at hj
  ·intro j k v w hjk hj hk
   cases k with
   | zero =>
    have : j = 0 := by omega
    subst this
    rw [hj] at hk; cases hk; exact Nat.le_refl _
   | succ k => simp at hk
  ·intro w _ v hv'; simp at hv'; subst hv'; simp
 rcases words_out hN g hv hn o7 nn (by omega) (f + 1) (f + 1) 0 [([] : Word)] [g.Start] (by omega) (by omega) (by omega) (by omega) hI with ⟨w1, w2⟩ | ⟨A, X, a1, a2, a3, a4, a5, a6⟩
 ·exact ⟨([], 6), w1, w2, by simp, by simp, none_ok 6⟩
 ·exact ⟨(A, 0), a4, a5, a2, fun w hw => by have := a3 w hw; omega, check hN g hn o7 nn (by omega) A a2 a3 (f + 1) 0 1 (by omega) (by omega) a6⟩
theorem plain : ∀ (x0 : T4) (x1 : Int), k_api_Global x0 → ((Lit.int .i64 x1).wf = true) → ∃ N, law18_GlobalWords N x0 x1 = some true := by
 intro g n hg _
 refine ⟨33554432 + 300, ?_⟩
 have aw : z12 (33554432 + 300) = some true := awake_c _
 generalize hN : 33554432 + 300 = N at aw ⊢
 have s0 := sizeG_of hg
 obtain ⟨a, a1, a2⟩ := few18_some (N := N) (by omega) g s0
 obtain ⟨r, r1, r2, r3, r4, r5⟩ := Words_both (N := N) (by omega) g s0 (sizeN_of hg) (numE_of hg) n
 have k7t : law18_GlobalWords_k7 N g n true = some true := by
  unfold law18_GlobalWords_k7
  rw [cond_true, aw]; rfl
 have k7f : law18_GlobalWords_k7 N g n false = some true := by
  unfold law18_GlobalWords_k7
  rw [cond_false, r1, r2]
  have e : (r.2 != r.2) = false := by simp
  simp only [Option.bind_some, e, cond_false]
  rw [sameWords_refl (N := N) (by omega) r.1 r3 (fun w hw => by have := r4 w hw; omega)]
  exact r5
 unfold law18_GlobalWords
 rw [aw]
 simp only [Option.bind_some, Bool.not_true, cond_false]
 rw [a1]
 simp only [Option.bind_some]
 cases a
 ·exact k7t
 simp only [Bool.not_true, cond_false]
 by_cases h : n > 5
 ·rw [decide_eq_true h, cond_true]
  cases decide (n ≤ 12)
  ·exact k7f
  ·exact k7t
 ·rw [decide_eq_false h, cond_false]
  exact k7f
end Gp
end
