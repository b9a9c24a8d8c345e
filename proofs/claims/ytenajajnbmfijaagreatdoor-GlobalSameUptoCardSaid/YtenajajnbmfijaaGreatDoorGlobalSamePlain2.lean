/- The plain law, part 2: what the functions compute answers as the statement says. -/
import Derived.KernelRfl
import Derived.Test.YtenajajnbmfijaaGreatDoorGlobalSamePlain1
set_option linter.all false
section
/- Plain law: both sides find the same automata valid. -/
namespace Gp
open Go Go.Kx Gx
variable {N : Nat}
/-- Sizes of the names of a declaration. -/
structure NameD (x : T0) : Prop where
 n : x.Name.size ≤ 4000000
 f : ∀ f ∈ x.Fields, f.Name.size ≤ 4000000
def fieldV (x : T0) (f : T3) (j : Nat) : Bool := isWord f.Name && (decide (sortOk f.Sort') && !((x.Fields.take j).any fun y => eqStr y.Name f.Name))
def declV (fl : List T3) (l : List T0) (x : T0) (k : Nat) : Bool :=
 pathV x.Name && (decide (x.Fields.length ≤ 4) && (decide (x.First = ((flat (l.take k)).length : Int)) && (!((l.take k).any fun y => eqStr y.Name x.Name) && (allV (fieldV x) x.Fields 0 && guardV fl x.Guard))))
def validD (l : List T0) : Bool := decide (l.length ≤ 40) && (decide ((flat l).length ≤ 24) && allV (declV (flat l) l) l 0)
theorem containsD_eq (hN : 4194304 < N) (l : List T0) (hl : l.length ≤ 4194304) (x : T0) : z177_4 N l x = some (l.any fun y => eqStr y.Name x.Name) := by
 unfold z177_4 z77_3
 rw [look l hl (fun y k r => bif eqStr y.Name x.Name then some k else r) (z77_3_l2 N l x) (some (-1)) hN]
 ·obtain ⟨i, h1, h2⟩ := whereV_any (fun y : T0 => eqStr y.Name x.Name) l 0
  rw [h1, Option.bind_some, h2]
 ·intro n k y hk hy
  simp only [z77_3_l2, lt_t hk, idx_nat, hy, cond_true, Option.bind_some, z178_2, eqStr]
 ·intro n k hk
  simp only [z77_3_l2, lt_f hk, cond_false, z77_3_k1]
theorem containsF_eq (hN : 4194304 < N) (l : List T3) (hl : l.length ≤ 4194304) (x : T3) : z180_7 N l x = some (l.any fun y => eqStr y.Name x.Name) := by
 unfold z180_7 z190_6
 rw [look l hl (fun y k r => bif eqStr y.Name x.Name then some k else r) (z190_6_l2 N l x) (some (-1)) hN]
 ·obtain ⟨i, h1, h2⟩ := whereV_any (fun y : T3 => eqStr y.Name x.Name) l 0
  rw [h1, Option.bind_some, h2]
 ·intro n k y hk hy
  simp only [z190_6_l2, lt_t hk, idx_nat, hy, cond_true, Option.bind_some, z181_5, eqStr]
 ·intro n k hk
  simp only [z190_6_l2, lt_f hk, cond_false, z190_6_k1]
theorem flat_next {l : List T0} {k : Nat} {x : T0} (h : l[k]? = some x) : (flat (l.take (k + 1))).length = (flat (l.take k)).length + x.Fields.length := by
 rw [List.take_add_one, h]
 show (flat (l.take k ++ [x])).length = _
 rw [flat_app, List.length_append]; simp [flat]
theorem flat_take_le (l : List T0) (k : Nat) : (flat (l.take k)).length ≤ (flat l).length := by
 have : flat l = flat (l.take k) ++ flat (l.drop k) := by rw [← flat_app, List.take_append_drop]
 rw [this, List.length_append]; omega
theorem valid_eq (hN : 4194304 < N) (l : List T0) (hl : l.length ≤ 4194304) (hd : ∀ d ∈ l, SizeD d) (hn : ∀ d ∈ l, NameD d) : z158 N l = some (validD l) := by
 unfold z158 validD
 by_cases c1 : (l.length : Int) > 40
 ·rw [decide_eq_true c1, decide_eq_false (show ¬ l.length ≤ 40 by omega)]; rfl
 rw [decide_eq_false c1, decide_eq_true (show l.length ≤ 40 by omega), fields_eq hN l (by omega) hd]
 simp only [cond_false, Option.bind_some, Bool.true_and]
 by_cases c2 : ((flat l).length : Int) > 24
 ·rw [decide_eq_true c2, decide_eq_false (show ¬ (flat l).length ≤ 24 by omega)]; rfl
 rw [decide_eq_false c2, decide_eq_true (show (flat l).length ≤ 24 by omega)]
 simp only [cond_false, Bool.true_and]
 have hfl := flat_le l hd
 have h := allV_from (declV (flat l) l) (xs := l) (F := fun n i => z158_l2 N l (flat l) n ((flat (l.take i.toNat)).length : Int) i) (e := some true) (n := N) (by omega) (by
  intro n k x hk hx
  show z158_l2 N l (flat l) (n + 1) ((flat (l.take k)).length : Int) (k : Int) = bif declV (flat l) l x k then z158_l2 N l (flat l) n ((flat (l.take (k + 1))).length : Int) ((k + 1 : Nat) : Int) else some false
  have hxm : x ∈ l := List.mem_of_getElem? hx
  have sx := hd x hxm
  have nx := hn x hxm
  have ht : lsl l none (some (k : Int)) = some (l.take k) := lsl_to (A := l.take k) (B := l.drop k) (List.take_append_drop k l).symm (by simp; omega)
  have hft := flat_take_le l k
  have hnext : w64 (((flat (l.take k)).length : Int) + (x.Fields.length : Int)) = ((flat (l.take (k + 1))).length : Int) := by rw [flat_next hx, w64_id (by have := sx.f; omega) (by have := sx.f; omega)]; omega
  have inner : z158_l4 N (flat l) ((flat (l.take k)).length : Int) (k : Int) (z158_l2 N l (flat l) n) x N (0 : Int) = bif allV (fieldV x) x.Fields 0 then z158_k3 N (flat l) ((flat (l.take k)).length : Int) (k : Int) (z158_l2 N l (flat l) n) x else some false := by
   refine allV_from (fieldV x) (by have := sx.f; omega) ?_ ?_
   ·intro m j f hj hf
    have sf := sx.f
    have hw := (word_eq hN f.Name (by have := nx.f f (List.mem_of_getElem? hf); omega)).1
    have ht' : lsl x.Fields none (some (j : Int)) = some (x.Fields.take j) := lsl_to (A := x.Fields.take j) (B := x.Fields.drop j) (List.take_append_drop j _).symm (by simp; omega)
    have hc := containsF_eq hN (x.Fields.take j) (by simp; omega) f
    simp only [z158_l4, lt_t hj, cond_true, idx_nat, hf, Option.bind_some, hw, sorted_eq, ht', hc, fieldV]
    rw [w64_succ (by omega)]
    cases isWord f.Name <;> cases decide (sortOk f.Sort') <;> cases ((x.Fields.take j).any fun y => eqStr y.Name f.Name) <;> rfl
   ·intro m j hj
    simp only [z158_l4, lt_f hj, cond_false]
  have hc := containsD_eq hN (l.take k) (by simp; omega) x
  simp only [z158_l2, lt_t hk, cond_true, idx_nat, hx, Option.bind_some, path_eq hN, ht, hc, inner, z158_k3, guarded_eq hN, declV, hnext]
  rw [w64_succ (by omega)]
  have e1 : decide ((x.Fields.length : Int) > 4) = !decide (x.Fields.length ≤ 4) := by
   by_cases q : x.Fields.length ≤ 4
   ·rw [decide_eq_true q, decide_eq_false (by omega)]; rfl
   ·rw [decide_eq_false q, decide_eq_true (by omega)]; rfl
  have e2 : (x.First != ((flat (l.take k)).length : Int)) = !decide (x.First = ((flat (l.take k)).length : Int)) := by
   by_cases q : x.First = ((flat (l.take k)).length : Int)
   ·rw [decide_eq_true q]; simp [q]
   ·rw [decide_eq_false q]; simp [q]
  rw [e1, e2]
  cases pathV x.Name <;> cases decide (x.Fields.length ≤ 4) <;> cases decide (x.First = ((flat (l.take k)).length : Int)) <;> cases ((l.take k).any fun y => eqStr y.Name x.Name) <;> cases allV (fieldV x) x.Fields 0 <;> cases guardV (flat l) x.Guard <;> rfl) (by
  intro n k hk
  show z158_l2 N l (flat l) (n + 1) ((flat (l.take k)).length : Int) (k : Int) = some true
  simp only [z158_l2, lt_f hk, cond_false, z158_k1])
 have h' : z158_l2 N l (flat l) N (0 : Int) (0 : Int) = bif allV (declV (flat l) l) l 0 then some true else some false := h
 rw [h']
 cases allV (declV (flat l) l) l 0 <;> rfl
theorem allV_not_any {α : Type} (f : α → Bool) : ∀ (l : List α) (k : Nat), allV (fun y _ => !f y) l k = !(l.any f)
 | [], _ => rfl
 | x :: l, k => by
  show (!f x && allV _ l (k + 1)) = _
  rw [allV_not_any f l, List.any_cons]
  cases f x <;> rfl
theorem take_get {α : Type} {l : List α} {k i : Nat} {x : α} (h : (l.take k)[i]? = some x) : l[i]? = some x ∧ i < k := by
 rw [List.getElem?_take] at h
 split at h
 ·exact ⟨h, by assumption⟩
 ·cases h
theorem refValid_eq (hN : 4194304 < N) (l : List T0) (hl : l.length ≤ 4194304) (hd : ∀ d ∈ l, SizeD d) (hn : ∀ d ∈ l, NameD d) : z113 N l = some (validD l) := by
 unfold z113 validD
 by_cases c1 : (l.length : Int) > 40
 ·rw [decide_eq_true c1, decide_eq_false (show ¬ l.length ≤ 40 by omega)]; rfl
 rw [decide_eq_false c1, decide_eq_true (show l.length ≤ 40 by omega), vars_eq hN l (by omega) hd]
 simp only [cond_false, Option.bind_some, Bool.true_and]
 by_cases c2 : ((flat l).length : Int) > 24
 ·rw [decide_eq_true c2, decide_eq_false (show ¬ (flat l).length ≤ 24 by omega)]; rfl
 rw [decide_eq_false c2, decide_eq_true (show (flat l).length ≤ 24 by omega)]
 simp only [cond_false, Bool.true_and]
 have hfl := flat_le l hd
 have h := allV_from (declV (flat l) l) (xs := l) (F := fun n i => z113_l2 N l n ((flat (l.take i.toNat)).length : Int) i) (e := some true) (n := N) (by omega) (by
  intro n k x hk hx
  show z113_l2 N l (n + 1) ((flat (l.take k)).length : Int) (k : Int) = bif declV (flat l) l x k then z113_l2 N l n ((flat (l.take (k + 1))).length : Int) ((k + 1 : Nat) : Int) else some false
  have hxm : x ∈ l := List.mem_of_getElem? hx
  have sx := hd x hxm
  have nx := hn x hxm
  have hft := flat_take_le l k
  have hnext : w64 (((flat (l.take k)).length : Int) + (x.Fields.length : Int)) = ((flat (l.take (k + 1))).length : Int) := by rw [flat_next hx, w64_id (by have := sx.f; omega) (by have := sx.f; omega)]; omega
  have inner8 : z113_l8 N l ((flat (l.take k)).length : Int) (k : Int) (z113_l2 N l n) x N (0 : Int) = bif allV (fun y _ => !eqStr y.Name x.Name) (l.take k) 0 then z113_k7 N l ((flat (l.take k)).length : Int) (k : Int) (z113_l2 N l n) x else some false := by
   refine allV_from (fun (y : T0) _ => !eqStr y.Name x.Name) (by simp; omega) ?_ ?_
   ·intro m j y hj hy
    obtain ⟨hy', hjk⟩ := take_get hy
    simp only [z113_l8, lt_t hjk, cond_true, idx_nat, hy', Option.bind_some, eqStr]
    rw [w64_succ (by omega)]
    cases (y.Name.toList == x.Name.toList) <;> rfl
   ·intro m j hj
    have : k ≤ j := by simp at hj; omega
    simp only [z113_l8, lt_f this, cond_false]
  have inner4 : z113_l4 N l ((flat (l.take k)).length : Int) (k : Int) (z113_l2 N l n) x N (0 : Int) = bif allV (fieldV x) x.Fields 0 then z113_k3 N l ((flat (l.take k)).length : Int) (k : Int) (z113_l2 N l n) x else some false := by
   refine allV_from (fieldV x) (by have := sx.f; omega) ?_ ?_
   ·intro m j f hj hf
    have sf := sx.f
    have hw := (word_eq hN f.Name (by have := nx.f f (List.mem_of_getElem? hf); omega)).2
    have inner6 : z113_l6 x (j : Int) (z113_l4 N l ((flat (l.take k)).length : Int) (k : Int) (z113_l2 N l n) x m) N (0 : Int) = bif allV (fun y _ => !eqStr y.Name f.Name) (x.Fields.take j) 0 then z113_k5 (j : Int) (z113_l4 N l ((flat (l.take k)).length : Int) (k : Int) (z113_l2 N l n) x m) else some false := by
     refine allV_from (fun (y : T3) _ => !eqStr y.Name f.Name) (by simp; omega) ?_ ?_
     ·intro p i y hi hy
      obtain ⟨hy', hij⟩ := take_get hy
      simp only [z113_l6, lt_t hij, cond_true, idx_nat, hy', hf, Option.bind_some, eqStr]
      rw [w64_succ (by omega)]
      cases (y.Name.toList == f.Name.toList) <;> rfl
     ·intro p i hi
      have : j ≤ i := by simp at hi; omega
      simp only [z113_l6, lt_f this, cond_false]
    simp only [z113_l4, lt_t hj, cond_true, idx_nat, hf, Option.bind_some, hw, goodSort_eq, inner6, fieldV, z113_k5, allV_not_any]
    rw [w64_succ (by omega)]
    cases isWord f.Name <;> cases decide (sortOk f.Sort') <;> cases ((x.Fields.take j).any fun y => eqStr y.Name f.Name) <;> rfl
   ·intro m j hj
    simp only [z113_l4, lt_f hj, cond_false]
  have hg := goodGuard_eq hN l (by omega) hd x.Guard sx.d sx.e
  simp only [z113_l2, lt_t hk, cond_true, idx_nat, hx, Option.bind_some, inner8, inner4, z113_k7, z113_k3, refPath_eq hN x.Name nx.n, hg, declV, hnext, allV_not_any]
  rw [w64_succ (by omega)]
  have e1 : decide ((x.Fields.length : Int) > 4) = !decide (x.Fields.length ≤ 4) := by
   by_cases q : x.Fields.length ≤ 4
   ·rw [decide_eq_true q, decide_eq_false (by omega)]; rfl
   ·rw [decide_eq_false q, decide_eq_true (by omega)]; rfl
  have e2 : (x.First != ((flat (l.take k)).length : Int)) = !decide (x.First = ((flat (l.take k)).length : Int)) := by
   by_cases q : x.First = ((flat (l.take k)).length : Int)
   ·rw [decide_eq_true q]; simp [q]
   ·rw [decide_eq_false q]; simp [q]
  rw [e1, e2]
  cases pathV x.Name <;> cases decide (x.Fields.length ≤ 4) <;> cases decide (x.First = ((flat (l.take k)).length : Int)) <;> cases ((l.take k).any fun y => eqStr y.Name x.Name) <;> cases allV (fieldV x) x.Fields 0 <;> cases guardV (flat l) x.Guard <;> rfl) (by
  intro n k hk
  show z113_l2 N l (n + 1) ((flat (l.take k)).length : Int) (k : Int) = some true
  simp only [z113_l2, lt_f hk, cond_false, z113_k1])
 have h' : z113_l2 N l N (0 : Int) (0 : Int) = bif allV (declV (flat l) l) l 0 then some true else some false := h
 rw [h']
 cases allV (declV (flat l) l) l 0 <;> rfl
end Gp
end
section
/- Plain law: both sides find the same automata valid, and what a valid automaton is. -/
namespace Gp
open Go Go.Kx Gx
variable {N : Nat}
/-- The least numbers of edges are one list. -/
theorem Dist.le {E : List (Int × Int)} {S : Nat} {e : Int} {L M : List Int} (hL : Dist E S e L) (hM : Dist E S e M) : ∀ (k : Nat) (v : Int), idx L v = some (k : Int) → ∃ m, idx M v = some m ∧ 0 ≤ m ∧ m ≤ (k : Int) := by
 intro k
 induction k with
 | zero =>
  intro v hv
  have := hL.zero v hv
  subst this
  exact ⟨0, hM.root, by omega, by omega⟩
 | succ k ih =>
  intro v hv
  obtain ⟨u, hu, hl⟩ := hL.pred v _ hv (by omega)
  obtain ⟨m, m1, m2, m3⟩ := ih u (by rw [hl]; congr 1; omega)
  obtain ⟨d, d1, d2, d3⟩ := hM.succ u v m hu m1 m2
  exact ⟨d, d1, d2, by omega⟩
theorem Dist.uniq {E : List (Int × Int)} {S : Nat} {e : Int} {L M : List Int} (hL : Dist E S e L) (hM : Dist E S e M) : L = M := by
 refine List.ext_getElem? fun i => ?_
 by_cases hi : i < S
 ·obtain ⟨d, hd⟩ := idx_lt (L := L) (v := (i : Int)) (by omega) (by rw [hL.len]; omega)
  obtain ⟨m, hm⟩ := idx_lt (L := M) (v := (i : Int)) (by omega) (by rw [hM.len]; omega)
  have a := (hL.lo _ _ hd).1
  have b := (hM.lo _ _ hm).1
  have one : 0 ≤ d → 0 ≤ m ∧ m ≤ d := by
   intro h
   obtain ⟨x, x1, x2, x3⟩ := hL.le hM d.toNat (i : Int) (by rw [hd]; congr 1; omega)
   rw [hm] at x1; cases x1; exact ⟨x2, by omega⟩
  have two : 0 ≤ m → 0 ≤ d ∧ d ≤ m := by
   intro h
   obtain ⟨x, x1, x2, x3⟩ := hM.le hL m.toNat (i : Int) (by rw [hm]; congr 1; omega)
   rw [hd] at x1; cases x1; exact ⟨x2, by omega⟩
  rw [idx_nat] at hd hm
  rw [hd, hm]
  congr 1
  by_cases h : 0 ≤ d
  ·have := one h; have := two this.1; omega
  ·by_cases h' : 0 ≤ m
   ·have := two h'; omega
   ·omega
 ·rw [List.getElem?_eq_none (by rw [hL.len]; omega), List.getElem?_eq_none (by rw [hM.len]; omega)]
structure SizeN (g : T4) : Prop where
 n : g.Name.size ≤ 4000000
 r : ∀ s ∈ g.Roles, s.size ≤ 4000000
 d : ∀ x ∈ g.Decls, NameD x
def roleV (g : T4) (s : ByteArray) (i : Nat) : Bool := isWord s && !((g.Roles.take i).any fun y => eqStr y s)
def namedV (g : T4) : Bool := isWord g.Name && (decide (1 ≤ g.Roles.length ∧ g.Roles.length ≤ 6) && allV (roleV g) g.Roles 0)
theorem named_eq (hN : 4194304 < N) (g : T4) (hg : SizeG g) (hs : SizeN g) : z61 N g = some (namedV g) := by
 unfold z61 namedV
 rw [(word_eq hN g.Name (by have := hs.n; omega)).1]
 have hr := hg.r
 rw [allV_from (roleV g) (xs := g.Roles) (F := z61_l2 N g) (e := some true) (by omega)]
 ·simp only [Option.bind_some]
  by_cases c1 : (g.Roles.length : Int) < 1
  ·rw [decide_eq_true c1, decide_eq_false (show ¬ (1 ≤ g.Roles.length ∧ g.Roles.length ≤ 6) by omega)]; cases isWord g.Name <;> rfl
  by_cases c2 : (g.Roles.length : Int) > 6
  ·rw [decide_eq_false c1, decide_eq_true c2, decide_eq_false (show ¬ (1 ≤ g.Roles.length ∧ g.Roles.length ≤ 6) by omega)]; cases isWord g.Name <;> rfl
  rw [decide_eq_false c1, decide_eq_false c2, decide_eq_true (show 1 ≤ g.Roles.length ∧ g.Roles.length ≤ 6 by omega)]
  cases isWord g.Name <;> cases allV (roleV g) g.Roles 0 <;> rfl
 ·intro n k x hk hx
  have hw := (word_eq hN x (by have := hs.r x (List.mem_of_getElem? hx); omega)).1
  have ht : lsl g.Roles none (some (k : Int)) = some (g.Roles.take k) := lsl_to (A := g.Roles.take k) (B := g.Roles.drop k) (List.take_append_drop k _).symm (by simp; omega)
  have hc := contains_eq hN (g.Roles.take k) (by simp; omega) x
  simp only [z61_l2, lt_t hk, cond_true, idx_nat, hx, Option.bind_some, hw, ht, hc, roleV]
  rw [w64_succ (by omega)]
  cases isWord x <;> cases ((g.Roles.take k).any fun y => eqStr y x) <;> rfl
 ·intro n k hk
  simp only [z61_l2, lt_f hk, cond_false, z61_k1]
theorem first_before {α : Type} (f : α → Bool) : ∀ (l : List α) (k i : Nat) (x : α), l[i]? = some x → f x = true → ∃ j, lv (fun x (k : Nat) r => bif f x then some (k : Int) else r) (some (-1)) l k = some j ∧ decide (j < ((k + i : Nat) : Int)) = (l.take i).any f
 | [], k, i, x, h, _ => by simp at h
 | y :: l, k, i, x, h, hf => by
  show ∃ j, (bif f y then some (k : Int) else lv _ _ l (k + 1)) = some j ∧ _
  cases i with
  | zero =>
   simp at h; subst h
   rw [hf]
   exact ⟨k, rfl, by simp⟩
  | succ i =>
   rw [List.take_succ_cons, List.any_cons]
   cases hy : f y
   ·obtain ⟨j, j1, j2⟩ := first_before f l (k + 1) i x (by simpa using h) hf
    exact ⟨j, j1, by rw [show k + (i + 1) = k + 1 + i by omega, j2]; rfl⟩
   ·exact ⟨k, rfl, by simp; omega⟩
theorem names_eq (hN : 4194304 < N) (g : T4) (hg : SizeG g) (hs : SizeN g) : z51 N g = some (namedV g && validD g.Decls) := by
 unfold z51 namedV
 have hr := hg.r
 rw [allV_from (roleV g) (xs := g.Roles) (F := z51_l2 N g) (e := z51_k1 N g) (by omega)]
 ·unfold z51_k1
  rw [(word_eq hN g.Name (by have := hs.n; omega)).2, refValid_eq hN g.Decls hg.d hg.dd hs.d]
  simp only [Option.bind_some]
  by_cases c1 : (g.Roles.length : Int) ≥ 1
  ·by_cases c2 : (g.Roles.length : Int) ≤ 6
   ·rw [decide_eq_true c1, decide_eq_true c2, decide_eq_true (show 1 ≤ g.Roles.length ∧ g.Roles.length ≤ 6 by omega)]
    cases isWord g.Name <;> cases allV (roleV g) g.Roles 0 <;> rfl
   ·rw [decide_eq_true c1, decide_eq_false c2, decide_eq_false (show ¬ (1 ≤ g.Roles.length ∧ g.Roles.length ≤ 6) by omega)]
    cases isWord g.Name <;> cases allV (roleV g) g.Roles 0 <;> rfl
  ·rw [decide_eq_false c1, decide_eq_false (show ¬ (1 ≤ g.Roles.length ∧ g.Roles.length ≤ 6) by omega)]
   cases isWord g.Name <;> cases allV (roleV g) g.Roles 0 <;> rfl
 ·intro n k x hk hx
  have hw := (word_eq hN x (by have := hs.r x (List.mem_of_getElem? hx); omega)).2
  obtain ⟨j, j1, j2⟩ := first_before (fun y => eqStr y x) g.Roles 0 k x hx (eqStr_refl x)
  have hi : z76 N g.Roles x = some j := by rw [refIndex_eq hN g.Roles hr]; exact j1
  rw [Nat.zero_add] at j2
  simp only [z51_l2, lt_t hk, cond_true, idx_nat, hx, Option.bind_some, hw, hi, j2, roleV]
  rw [w64_succ (by omega)]
  cases isWord x <;> cases ((g.Roles.take k).any fun y => eqStr y x) <;> rfl
 ·intro n k hk
  simp only [z51_l2, lt_f hk, cond_false]
theorem bounds_l2 (d : T0) (hd : d.Guard.Equals.length ≤ 4194304) : ∀ (l : List (Int × Int)) (k n : Nat) (acc : List T1), d.Guard.Equals.drop k = l → l.length < n → acc.length + 2 * l.length ≤ 4294967296 → ∃ r, z159_l2 d n acc (k : Int) = some r := by
 intro l
 induction l with
 | nil =>
  intro k n acc h hn _
  obtain ⟨n, rfl⟩ : ∃ m, n = m + 1 := ⟨n - 1, by simp at hn; omega⟩
  exact ⟨acc, by simp only [z159_l2, lt_f (drop_nil h), cond_false, z159_k1]⟩
 | cons x l ih =>
  intro k n acc h hn ha
  obtain ⟨n, rfl⟩ : ∃ m, n = m + 1 := ⟨n - 1, by simp at hn; omega⟩
  obtain ⟨a, c, e⟩ := drop_cons h
  simp only [List.length_cons] at ha hn
  simp only [z159_l2, lt_t a, cond_true, idx_nat, c, Option.bind_some]
  rw [appL_some (by simp; omega), Option.bind_some, w64_succ (by omega)]
  exact ih (k + 1) n _ e (by omega) (by simp; omega)
theorem bounds_l4 (hN : 4194304 < N) (d : T0) (hd : SizeD d) : ∀ (l : List T3) (k n : Nat) (acc : List T1), d.Fields.drop k = l → l.length < n → acc.length + 2 * l.length ≤ 16777216 → ∃ r, z159_l4 N d n acc (k : Int) = some r := by
 intro l
 have h1 := hd.f
 have h2 := hd.d
 have h3 := hd.e
 induction l with
 | nil =>
  intro k n acc h hn ha
  obtain ⟨n, rfl⟩ : ∃ m, n = m + 1 := ⟨n - 1, by simp at hn; omega⟩
  simp only [z159_l4, lt_f (drop_nil h), cond_false, z159_k3]
  simp at ha
  rw [appL_some (by omega), Option.bind_some]
  exact bounds_l2 d h3 d.Guard.Equals 0 N _ rfl (by omega) (by simp; omega)
 | cons x l ih =>
  intro k n acc h hn ha
  obtain ⟨n, rfl⟩ : ∃ m, n = m + 1 := ⟨n - 1, by simp at hn; omega⟩
  obtain ⟨a, c, e⟩ := drop_cons h
  simp only [List.length_cons] at ha hn
  simp only [z159_l4, lt_t a, cond_true, idx_nat, c, Option.bind_some]
  rw [appL_some (by simp; omega), Option.bind_some, w64_succ (by omega)]
  exact ih (k + 1) n _ e (by omega) (by simp; omega)
theorem declared_eq (hN : 4194304 < N) (l : List T0) (hl : l.length ≤ 4194304) (hd : ∀ d ∈ l, SizeD d) (hn : ∀ d ∈ l, NameD d) : z63 N l = some (validD l) := by
 unfold z63
 cases l with
 | nil => rfl
 | cons x l =>
  have h0 : (((x :: l).length : Int) == 0) = false := by simp; omega
  have h1 : decide ((0 : Int) < 0) = false := rfl
  have h2 : decide ((0 : Int) ≥ ((x :: l).length : Int)) = false := by simp
  have e0 : idx (x :: l) (0 : Int) = some x := by rw [show (0 : Int) = ((0 : Nat) : Int) from rfl, idx_nat]; rfl
  have hb : ∃ r, z159 N x = some r := bounds_l4 hN x (hd x (by simp)) x.Fields 0 N [] rfl (by have := (hd x (by simp)).f; omega) (by have := (hd x (by simp)).f; simp; omega)
  obtain ⟨r, hr⟩ := hb
  unfold z122
  rw [h0, h1, h2, valid_eq hN (x :: l) hl hd hn, e0]
  simp only [cond_false, Option.bind_some, hr]
  cases validD (x :: l) <;> rfl
/-- A valid automaton. -/
structure ValidG (g : T4) : Prop where
 named : namedV g = true
 num : numV g = true
 decls : validD g.Decls = true
 apart : apartV g = true
 noEnd : (g.Edges.all fun x => !(x.From == g.End)) = true
 time : timeV g = true
 reach : ∃ F, Dist (ers g false) g.States.toNat g.Start F ∧ posV F = true
 ends : ∃ L, Dist (ers g true) g.States.toNat g.End L ∧ posV L = true
theorem Valid_both (hN : 4194304 < N) (g : T4) (hg : SizeG g) (hs : SizeN g) (hn : NumE g) : ∃ b, z22 N g = some b ∧ z19 N g = some b ∧ (b = true ↔ ValidG g) := by
 unfold z22 z19
 rw [named_eq hN g hg hs, numbered_eq hN g hg.e, declared_eq hN g.Decls hg.d hg.dd hs.d, ordered_eq hN g hg.e, timed_eq hN g hg.t, names_eq hN g hg hs, numbers_eq hN g hg.e, apart_eq hN g hg.e]
 simp only [Option.bind_some]
 cases h1 : namedV g
 ·exact ⟨false, by simp, by simp, by simp; intro h; have := h.named; rw [h1] at this; cases this⟩
 cases h2 : numV g
 ·refine ⟨false, by simp, ?_, by simp; intro h; have := h.num; rw [h2] at this; cases this⟩
  cases validD g.Decls <;> rfl
 cases h3 : validD g.Decls
 ·exact ⟨false, by simp, by simp, by simp; intro h; have := h.decls; rw [h3] at this; cases this⟩
 rw [orderV_eq]
 obtain ⟨o1, o2, o3, o4, o5, o6, o7⟩ := numV_head h2
 obtain ⟨F, f1, f2⟩ := spread_eq hN g h2 false g.Start o3 o4
 obtain ⟨L, l1, l2⟩ := spread_eq hN g h2 true g.End o5 o6
 rw [f1, l1, connected_eq hN g h2 hn l2 f2, refTimed_eq hN g hg.t h2]
 have cF := containsInt_eq hN F (by rw [f2.len]; omega) (-1)
 have cL := containsInt_eq hN L (by rw [l2.len]; omega) (-1)
 have pF : (F.any fun d => d == -1) = !posV F := by unfold posV; rw [Bool.not_not]
 have pL : (L.any fun d => d == -1) = !posV L := by unfold posV; rw [Bool.not_not]
 rw [pF] at cF
 rw [pL] at cL
 simp only [Option.bind_some, cF, cL]
 cases h4 : apartV g
 ·exact ⟨false, by simp, by simp, by simp; intro h; have := h.apart; rw [h4] at this; cases this⟩
 cases h5 : (g.Edges.all fun x => !(x.From == g.End))
 ·refine ⟨false, by simp, ?_, ?_⟩
  ·cases posV F <;> cases posV L <;> rfl
  ·simp only [Bool.false_eq_true, false_iff]
   intro h; have := h.noEnd; rw [h5] at this; cases this
 cases h6 : timeV g
 ·refine ⟨false, by simp, ?_, ?_⟩
  ·cases posV F <;> cases posV L <;> rfl
  ·simp only [Bool.false_eq_true, false_iff]
   intro h; have := h.time; rw [h6] at this; cases this
 cases h7 : posV F
 ·refine ⟨false, by simp, by simp, ?_⟩
  simp only [Bool.false_eq_true, false_iff]
  intro h
  obtain ⟨F', a, b⟩ := h.reach
  rw [a.uniq f2, h7] at b; cases b
 cases h8 : posV L
 ·refine ⟨false, by simp, by simp, ?_⟩
  simp only [Bool.false_eq_true, false_iff]
  intro h
  obtain ⟨L', a, b⟩ := h.ends
  rw [a.uniq l2, h8] at b; cases b
 exact ⟨true, by simp, by simp, by simp; exact ⟨h1, h2, h3, h4, h5, h6, ⟨F, f2, h7⟩, ⟨L, l2, h8⟩⟩⟩
end Gp
end
section
/- Plain law: both sides number the states alike. -/
namespace Gp
open Go Go.Kx Gx
variable {N : Nat}
/-- The first place of a number, from k on. -/
def plc : List Int → Int → Nat → Int
 | [], _, _ => -1
 | x :: l, v, k => if x = v then (k : Int) else plc l v (k + 1)
theorem place_eq (hN : 4194304 < N) (l : List Int) (hl : l.length ≤ 4194304) (v : Int) : ref18_place N l v = some (plc l v 0) := by
 unfold ref18_place
 rw [look l hl (fun x k r => bif x == v then some k else r) (ref18_place_l2 l v) (some (-1)) hN]
 ·generalize (0 : Nat) = k
  clear hl
  induction l generalizing k with
  | nil => rfl
  | cons x l ih =>
   show (bif x == v then some (k : Int) else lv _ _ l (k + 1)) = some (if x = v then (k : Int) else plc l v (k + 1))
   by_cases h : x = v
   ·rw [if_pos h, show (x == v) = true by simp [h]]; rfl
   ·rw [if_neg h, show (x == v) = false by simp [h]]; exact ih (k + 1)
 ·intro n k x hk hx
  simp only [ref18_place_l2, lt_t hk, idx_nat, hx, cond_true, Option.bind_some]
 ·intro n k hk
  simp only [ref18_place_l2, lt_f hk, cond_false, ref18_place_k1]
theorem plc_mem : ∀ (l : List Int) (v : Int) (k : Nat), (0 ≤ plc l v k ↔ v ∈ l) ∧ (plc l v k < 0 ↔ v ∉ l)
 | [], v, k => by simp [plc]
 | x :: l, v, k => by
  unfold plc
  by_cases h : x = v
  ·subst h; rw [if_pos rfl]; simp
  ·rw [if_neg h]
   have := plc_mem l v (k + 1)
   rw [List.mem_cons, this.1, this.2]
   constructor
   ·exact ⟨fun g => .inr g, fun g => by rcases g with g | g; exact absurd g.symm h; exact g⟩
   ·exact ⟨fun g g' => by rcases g' with g' | g'; exact h g'.symm; exact g g', fun g g' => g (.inr g')⟩
theorem plc_app : ∀ (l : List Int) (v w : Int) (k : Nat), v ∉ l → plc (l ++ [v]) w k = if w = v then ((k + l.length : Nat) : Int) else plc l w k
 | [], v, w, k, _ => by
  show (if v = w then (k : Int) else -1) = _
  by_cases h : w = v
  ·subst h; rw [if_pos rfl, if_pos rfl]; simp
  ·rw [if_neg (fun g => h g.symm), if_neg h]; rfl
 | x :: l, v, w, k, hv => by
  show (if x = w then (k : Int) else plc (l ++ [v]) w (k + 1)) = _
  have hxv : x ≠ v := fun g => hv (by simp [g])
  rw [plc_app l v w (k + 1) (fun g => hv (by simp [g]))]
  by_cases h : w = v
  ·subst h
   rw [if_neg hxv, if_pos rfl, if_pos rfl, List.length_cons]; congr 1; omega
  ·rw [if_neg h, if_neg h]; rfl
/-- The numbers of states follow the order in which they were found. -/
def NumR (S : Nat) (num ord : List Int) : Prop := num.length = S ∧ ∀ v, 0 ≤ v → v < (S : Int) → idx num v = some (plc ord v 0)
def tmos (g : T4) (k : Int) : List T8 := g.Timeouts.filter fun t => t.Else == k
def ordN (ord : List Int) (v : Int) : List Int := if v ∈ ord then ord else ord ++ [v]
structure CSt where
 E : List T2
 T : List T8
 O : List Int
def stepC (g : T4) (i : Int) (s : CSt) (k : Int) : CSt :=
 match idx g.Edges k with
 | some x => ⟨s.E ++ [⟨i, x.Act, plc (ordN s.O x.To) x.To 0, x.Again⟩], s.T ++ (tmos g k).map (fun t => ⟨i, t.Ticks, (s.E.length : Int)⟩), ordN s.O x.To⟩
 | none => s
theorem timeV_sorted {g : T4} (h : timeV g = true) : g.Timeouts.Pairwise (fun a b => a.State < b.State) := by
 have h := (allV_iff _ _ _).mp h
 have one : ∀ i x, g.Timeouts[i]? = some x → lastV g i < x.State := fun i x hx => by
  have := of_decide_eq_true (h i x hx)
  rw [Nat.zero_add] at this
  exact this.1
 have lt : ∀ (j i : Nat) x y, i < j → g.Timeouts[i]? = some x → g.Timeouts[j]? = some y → x.State < y.State := by
  intro j
  induction j with
  | zero => intro i x y hij; omega
  | succ j ih =>
   intro i x y hij hx hy
   have h1 := one (j + 1) y hy
   have hj : j < g.Timeouts.length := by have := (List.getElem?_eq_some_iff.mp hy).1; omega
   have hz := List.getElem?_eq_getElem hj
   simp only [lastV, hz] at h1
   by_cases e : i = j
   ·subst e; rw [hz] at hx; cases hx; exact h1
   ·exact Int.lt_trans (ih i x _ (by omega) hx hz) h1
 rw [List.pairwise_iff_getElem]
 intro i j hi hj hij
 exact lt j i _ _ hij (List.getElem?_eq_getElem hi) (List.getElem?_eq_getElem hj)
theorem timeV_else {g : T4} (h : timeV g = true) {t : T8} (ht : t ∈ g.Timeouts) : ∃ x, idx g.Edges t.Else = some x ∧ x.From = t.State ∧ x.Again = false := by
 obtain ⟨i, hi⟩ := List.mem_iff_getElem?.mp ht
 have := of_decide_eq_true ((allV_iff _ _ _).mp h i t hi)
 obtain ⟨_, _, _, h3, h4, h5⟩ := this
 obtain ⟨e, he, _⟩ := else_some h3 h4
 unfold elseOk at h5
 rw [he] at h5
 simp only [Bool.and_eq_true, beq_iff_eq, Bool.not_eq_true'] at h5
 exact ⟨e, he, h5.1, h5.2⟩
/-- At most one time limit leads by an edge: the one of its state. -/
theorem filt (s k : Int) : ∀ (l : List T8), l.Pairwise (fun a b => a.State < b.State) → (∀ t ∈ l, t.Else = k → t.State = s) →
  l.filter (fun t => t.Else == k) = match l.find? (fun t => t.State == s) with | some t => if t.Else = k then [t] else [] | none => []
 | [], _, _ => rfl
 | x :: l, hp, hs => by
  obtain ⟨h1, h2⟩ := List.pairwise_cons.mp hp
  rw [List.filter_cons, List.find?_cons]
  by_cases hx : x.State = s
  ·rw [show (x.State == s) = true by simp [hx]]
   have hrest : l.filter (fun t => t.Else == k) = [] := by
    rw [List.filter_eq_nil_iff]
    intro t ht hk
    have hk : t.Else = k := by simpa using hk
    have := hs t (by simp [ht]) hk
    have := h1 t ht
    omega
   rw [hrest]
   by_cases hk : x.Else = k
   ·simp [hk]
   ·simp [hk]
  ·rw [show (x.State == s) = false by simp [hx]]
   have hk : ¬ x.Else = k := fun g => hx (hs x (by simp) g)
   rw [show (x.Else == k) = false by simp [hk]]
   exact filt s k l h2 (fun t ht => hs t (by simp [ht]))
theorem find_where (f : T8 → Bool) : ∀ (l : List T8) (k : Nat), ∃ j, lv (fun x (k : Nat) r => bif f x then some (k : Int) else r) (some (-1)) l k = some j ∧
  ((l.find? f = none ∧ j = -1) ∨ ∃ t m, l.find? f = some t ∧ j = ((k + m : Nat) : Int) ∧ l[m]? = some t)
 | [], k => ⟨-1, rfl, .inl ⟨rfl, rfl⟩⟩
 | x :: l, k => by
  show ∃ j, (bif f x then some (k : Int) else lv _ _ l (k + 1)) = some j ∧ _
  rw [List.find?_cons]
  cases hx : f x
  ·obtain ⟨j, j1, j2⟩ := find_where f l (k + 1)
   refine ⟨j, j1, ?_⟩
   rcases j2 with ⟨h1, h2⟩ | ⟨t, m, h1, h2, h3⟩
   ·exact .inl ⟨h1, h2⟩
   ·exact .inr ⟨t, m + 1, h1, by rw [h2]; congr 1; omega, by simpa using h3⟩
  ·exact ⟨k, rfl, .inr ⟨x, 0, rfl, by simp, by simp⟩⟩
theorem limit_eq (hN : 4194304 < N) (l : List T8) (hl : l.length ≤ 4194304) (s : Int) : ∃ j, z59_19 N l s = some j ∧
  ((l.find? (fun t => t.State == s) = none ∧ j = -1) ∨ ∃ t m, l.find? (fun t => t.State == s) = some t ∧ j = ((m : Nat) : Int) ∧ l[m]? = some t) := by
 unfold z59_19
 rw [look l hl (fun x k r => bif x.State == s then some k else r) (z59_19_l2 N l s) (some (-1)) hN]
 ·obtain ⟨j, j1, j2⟩ := find_where (fun t => t.State == s) l 0
  refine ⟨j, j1, ?_⟩
  rcases j2 with h | ⟨t, m, h1, h2, h3⟩
  ·exact .inl h
  ·exact .inr ⟨t, m, h1, by rw [h2]; congr 1; omega, h3⟩
 ·intro n k x hk hx
  simp only [z59_19_l2, lt_t hk, idx_nat, hx, cond_true, Option.bind_some, z60_18]
 ·intro n k hk
  simp only [z59_19_l2, lt_f hk, cond_false, z59_19_k1]
theorem ordN_len (ord : List Int) (v : Int) : (ordN ord v).length ≤ ord.length + 1 := by unfold ordN; split <;> simp
/-- The numbers after one more state. -/
theorem NumR.next {S : Nat} {num ord : List Int} (h : NumR S num ord) {v : Int} (v0 : 0 ≤ v) (v1 : v < (S : Int)) (hv : v ∉ ord) : NumR S (setL' num v (ord.length : Int)) (ord ++ [v]) := by
 refine ⟨by rw [setL_len _ _ v0, h.1], ?_⟩
 intro w w0 w1
 rw [idx_set v0 (by rw [h.1]; exact v1), plc_app ord v w 0 hv]
 split
 ·simp
 ·exact h.2 w w0 w1
theorem canon_in (g : T4) (S : Nat) (hS2 : S ≤ 200) (hv : ValidG g) (hS : g.States = (S : Int)) (hT : g.Timeouts.length ≤ 4194304) (i : Nat) (s j : Int)
  (hj : ((g.Timeouts.find? (fun t => t.State == s) = none ∧ j = -1) ∨ ∃ t m, g.Timeouts.find? (fun t => t.State == s) = some t ∧ j = ((m : Nat) : Int) ∧ g.Timeouts[m]? = some t))
  (ag : Int → List T2 → List T8 → List Int → List Int → Option (T4 × Int)) (L : List Int) (hL : ∀ k ∈ L, ∃ x, idx g.Edges k = some x ∧ x.From = s) (hLl : L.length ≤ 400) :
  ∀ (l : List Int) (p n : Nat) (st : CSt) (num : List Int), L.drop p = l → l.length < n → NumR S num st.O → st.E.length + l.length ≤ 1000000 → st.T.length + l.length ≤ 1000000 → st.O.length + l.length ≤ 1000000 →
  ∃ num', z21_l4 g (i : Int) ag j L n st.E st.T num st.O (p : Int) = z21_k3 (i : Int) ag (l.foldl (stepC g i) st).E (l.foldl (stepC g i) st).T num' (l.foldl (stepC g i) st).O ∧ NumR S num' (l.foldl (stepC g i) st).O := by
 intro l
 induction l with
 | nil =>
  intro p n st num h hn hR _ _ _
  obtain ⟨n, rfl⟩ : ∃ m, n = m + 1 := ⟨n - 1, by simp at hn; omega⟩
  exact ⟨num, by simp only [z21_l4, lt_f (drop_nil h), cond_false, List.foldl_nil], hR⟩
 | cons k l ih =>
  intro p n st num h hn hR b1 b2 b3
  obtain ⟨n, rfl⟩ : ∃ m, n = m + 1 := ⟨n - 1, by simp at hn; omega⟩
  obtain ⟨hp, hk, hdr⟩ := drop_cons h
  simp only [List.length_cons] at hn b1 b2 b3
  obtain ⟨x, hx, hxs⟩ := hL k (List.mem_of_getElem? hk)
  have hxm : x ∈ g.Edges := by
   obtain ⟨k0, k1⟩ := idx_some hx
   obtain ⟨q, rfl⟩ : ∃ q : Nat, k = (q : Int) := ⟨k.toNat, by omega⟩
   rw [idx_nat] at hx; exact List.mem_of_getElem? hx
  obtain ⟨r1, r2, r3, r4, _⟩ := numV_edge hv.num hxm
  have hnum := hR.2 x.To r3 (by rw [← hS]; exact r4)
  -- the time limits that lead by this edge
  have htm : tmos g k = match g.Timeouts.find? (fun t => t.State == s) with | some t => if t.Else = k then [t] else [] | none => [] := by
   refine filt s k g.Timeouts (timeV_sorted hv.time) ?_
   intro t ht hte
   obtain ⟨y, y1, y2, _⟩ := timeV_else hv.time ht
   rw [hte, hx] at y1
   cases y1
   rw [← y2, hxs]
  have hstep : stepC g (i : Int) st k = ⟨st.E ++ [⟨(i : Int), x.Act, plc (ordN st.O x.To) x.To 0, x.Again⟩], st.T ++ (tmos g k).map (fun t => ⟨(i : Int), t.Ticks, (st.E.length : Int)⟩), ordN st.O x.To⟩ := by
   unfold stepC; rw [hx]
  have wp : w64 ((p : Int) + 1) = ((p + 1 : Nat) : Int) := w64_succ (by omega)
  have hto1 : (tmos g k).length ≤ 1 := by
   rw [htm]; split
   ·split <;> simp
   ·simp
  -- behind the number of the state
  have tail : ∀ (num2 : List Int), NumR S num2 (ordN st.O x.To) →
    ∃ num', z21_k7 g (i : Int) j st.E st.T (p : Int) (z21_l4 g (i : Int) ag j L n) k x num2 (ordN st.O x.To) = z21_k3 (i : Int) ag (l.foldl (stepC g i) (stepC g i st k)).E (l.foldl (stepC g i) (stepC g i st k)).T num' (l.foldl (stepC g i) (stepC g i st k)).O ∧ NumR S num' (l.foldl (stepC g i) (stepC g i st k)).O := by
   intro num2 hR2
   have h5 : z21_k7 g (i : Int) j st.E st.T (p : Int) (z21_l4 g (i : Int) ag j L n) k x num2 (ordN st.O x.To) = z21_l4 g (i : Int) ag j L n (stepC g i st k).E (stepC g i st k).T num2 (stepC g i st k).O ((p + 1 : Nat) : Int) := by
    have k5 : ∀ T', z21_k5 (i : Int) st.E (p : Int) (z21_l4 g (i : Int) ag j L n) x num2 (ordN st.O x.To) T' = z21_l4 g (i : Int) ag j L n (st.E ++ [⟨(i : Int), x.Act, plc (ordN st.O x.To) x.To 0, x.Again⟩]) T' num2 (ordN st.O x.To) ((p + 1 : Nat) : Int) := by
     intro T'
     unfold z21_k5
     rw [hR2.2 x.To r3 (by rw [← hS]; exact r4), Option.bind_some, appL_some (by simp; omega), Option.bind_some, wp]
    rw [hstep, htm]
    unfold z21_k7
    rcases hj with ⟨h1, h2⟩ | ⟨t, m, h1, h2, h3⟩
    ·subst h2
     rw [h1]
     have : decide ((-1 : Int) ≥ 0) = false := rfl
     rw [this, cond_false]
     unfold z21_k6
     rw [cond_false, k5]; simp
    ·subst h2
     rw [h1]
     have : decide (((m : Nat) : Int) ≥ 0) = true := by simp
     rw [this, cond_true, idx_nat, h3, Option.bind_some]
     unfold z21_k6
     by_cases he : t.Else = k
     ·rw [show (t.Else == k) = true by simp [he], cond_true, idx_nat, h3, Option.bind_some, appL_some (by simp; omega), Option.bind_some, k5]
      simp [he]
     ·rw [show (t.Else == k) = false by simp [he], cond_false, k5]
      simp [he]
   rw [h5]
   refine ih (p + 1) n (stepC g i st k) num2 hdr (by omega) (by rw [hstep]; exact hR2) (by rw [hstep]; simp; omega) (by rw [hstep]; simp; omega) ?_
   rw [hstep]
   have := ordN_len st.O x.To
   show (ordN st.O x.To).length + l.length ≤ _
   omega
  simp only [List.foldl_cons]
  by_cases hin : x.To ∈ st.O
  ·have hneg : decide (plc st.O x.To 0 < 0) = false := by
    rw [decide_eq_false]; intro g'; exact (plc_mem st.O x.To 0).2.mp g' hin
   have ho : ordN st.O x.To = st.O := by unfold ordN; rw [if_pos hin]
   simp only [z21_l4, lt_t hp, cond_true, idx_nat, hk, Option.bind_some, hx, hnum, hneg, cond_false]
   have := tail num (by rw [ho]; exact hR)
   rw [ho] at this
   exact this
  ·have hneg : decide (plc st.O x.To 0 < 0) = true := decide_eq_true ((plc_mem st.O x.To 0).2.mpr hin)
   have ho : ordN st.O x.To = st.O ++ [x.To] := by unfold ordN; rw [if_neg hin]
   simp only [z21_l4, lt_t hp, cond_true, idx_nat, hk, Option.bind_some, hx, hnum, hneg]
   rw [appL_some (by simp; omega), Option.bind_some]
   have := tail (setL' num x.To (st.O.length : Int)) (by rw [ho]; exact hR.next r3 (by rw [← hS]; exact r4) hin)
   rw [ho] at this
   exact this
end Gp
end
section
/- Plain law: both sides answer the same canonical automaton. -/
namespace Gp
open Go Go.Kx Gx
variable {N : Nat}
theorem tmos_le1 {g : T4} (hv : ValidG g) {k : Int} : (tmos g k).length ≤ 1 := by
 by_cases h : ∃ t ∈ g.Timeouts, t.Else = k
 ·obtain ⟨t0, ht0, hk0⟩ := h
  obtain ⟨x, x1, x2, _⟩ := timeV_else hv.time ht0
  have := filt t0.State k g.Timeouts (timeV_sorted hv.time) (by
   intro t ht hte
   obtain ⟨y, y1, y2, _⟩ := timeV_else hv.time ht
   rw [hte] at y1; rw [hk0] at x1
   rw [y1] at x1; cases x1
   rw [← y2, x2])
  unfold tmos
  rw [this]
  split
  ·split <;> simp
  ·simp
 ·have : tmos g k = [] := by
   unfold tmos
   rw [List.filter_eq_nil_iff]
   intro t ht hc
   exact h ⟨t, ht, by simpa using hc⟩
  rw [this]; simp
theorem ref_tms (g : T4) (hT : g.Timeouts.length ≤ 4194304) (i p : Int) (k : Int) (L : List Int) (hk : idx L p = some k) (E : List T2) (ag : List T2 → List T8 → List Int → Int → Option (T4 × Int)) (x : T2) (O : List Int) :
  ∀ (l : List T8) (q n : Nat) (T : List T8), g.Timeouts.drop q = l → l.length < n → T.length + l.length ≤ 4294967296 →
  ref18_Canonical_l6 N g i L E p ag x O n T (q : Int) = ref18_Canonical_k5 N i E p ag x O (T ++ (l.filter (fun t => t.Else == k)).map (fun t => ⟨i, t.Ticks, (E.length : Int)⟩)) := by
 intro l
 induction l with
 | nil =>
  intro q n T h hn hb
  obtain ⟨n, rfl⟩ : ∃ m, n = m + 1 := ⟨n - 1, by simp at hn; omega⟩
  simp only [ref18_Canonical_l6, lt_f (drop_nil h), cond_false, List.filter_nil, List.map_nil, List.append_nil]
 | cons t l ih =>
  intro q n T h hn hb
  obtain ⟨n, rfl⟩ : ∃ m, n = m + 1 := ⟨n - 1, by simp at hn; omega⟩
  obtain ⟨hq, ht, hdr⟩ := drop_cons h
  simp only [List.length_cons] at hn hb
  have wq : w64 ((q : Int) + 1) = ((q + 1 : Nat) : Int) := w64_succ (by omega)
  simp only [ref18_Canonical_l6, lt_t hq, cond_true, idx_nat, ht, Option.bind_some, hk, wq]
  rw [List.filter_cons]
  cases hc : (t.Else == k)
  ·simp only [cond_false]
   rw [ih (q + 1) n T hdr (by omega) (by omega)]; simp
  ·simp only [cond_true]
   rw [appL_some (by simp; omega), Option.bind_some, ih (q + 1) n _ hdr (by omega) (by simp; omega)]; simp
theorem canonR_in (hN : 4194304 < N) (g : T4) (hv : ValidG g) (hT : g.Timeouts.length ≤ 4194304) (i : Nat) (s : Int)
  (ag : List T2 → List T8 → List Int → Int → Option (T4 × Int)) (L : List Int) (hL : ∀ k ∈ L, ∃ x, idx g.Edges k = some x ∧ x.From = s) (hi : i ≤ 4194304) :
  ∀ (l : List Int) (p n : Nat) (st : CSt), L.drop p = l → l.length < n → L.length ≤ 4194304 → st.E.length + l.length ≤ 1000000 → st.T.length + l.length ≤ 1000000 → st.O.length + l.length ≤ 1000000 →
  ref18_Canonical_l4 N g (i : Int) ag L n st.E st.T st.O (p : Int) = ag (l.foldl (stepC g i) st).E (l.foldl (stepC g i) st).T (l.foldl (stepC g i) st).O ((i + 1 : Nat) : Int) := by
 intro l
 induction l with
 | nil =>
  intro p n st h hn hLl _ _ _
  obtain ⟨n, rfl⟩ : ∃ m, n = m + 1 := ⟨n - 1, by simp at hn; omega⟩
  simp only [ref18_Canonical_l4, lt_f (drop_nil h), cond_false, List.foldl_nil, ref18_Canonical_k3]
  rw [w64_succ (by omega)]
 | cons k l ih =>
  intro p n st h hn hLl b1 b2 b3
  obtain ⟨n, rfl⟩ : ∃ m, n = m + 1 := ⟨n - 1, by simp at hn; omega⟩
  obtain ⟨hp, hk, hdr⟩ := drop_cons h
  simp only [List.length_cons] at hn b1 b2 b3
  obtain ⟨x, hx, hxs⟩ := hL k (List.mem_of_getElem? hk)
  have hkI : idx L (p : Int) = some k := by rw [idx_nat, hk]
  have hstep : stepC g (i : Int) st k = ⟨st.E ++ [⟨(i : Int), x.Act, plc (ordN st.O x.To) x.To 0, x.Again⟩], st.T ++ (tmos g k).map (fun t => ⟨(i : Int), t.Ticks, (st.E.length : Int)⟩), ordN st.O x.To⟩ := by
   unfold stepC; rw [hx]
  have wp : w64 ((p : Int) + 1) = ((p + 1 : Nat) : Int) := w64_succ (by omega)
  have hto1 := tmos_le1 hv (k := k)
  have hol := ordN_len st.O x.To
  have tail : ref18_Canonical_k7 N g (i : Int) L st.E st.T (p : Int) (ref18_Canonical_l4 N g (i : Int) ag L n) x (ordN st.O x.To) = ag (l.foldl (stepC g i) (stepC g i st k)).E (l.foldl (stepC g i) (stepC g i st k)).T (l.foldl (stepC g i) (stepC g i st k)).O ((i + 1 : Nat) : Int) := by
   unfold ref18_Canonical_k7
   have := ref_tms (N := N) g hT (i : Int) (p : Int) k L hkI st.E (ref18_Canonical_l4 N g (i : Int) ag L n) x (ordN st.O x.To) g.Timeouts 0 N st.T rfl (by omega) (by omega)
   rw [show (0 : Int) = ((0 : Nat) : Int) from rfl, this]
   unfold ref18_Canonical_k5
   rw [place_eq hN _ (by omega), Option.bind_some, appL_some (by simp; omega), Option.bind_some, wp]
   have := ih (p + 1) n (stepC g i st k) hdr (by omega) hLl (by rw [hstep]; simp; omega) (by rw [hstep]; simp; omega) (by rw [hstep]; show (ordN st.O x.To).length + l.length ≤ _; omega)
   rw [hstep] at this ⊢
   exact this
  simp only [List.foldl_cons]
  have hpl := place_eq hN st.O (by omega) x.To
  by_cases hin : x.To ∈ st.O
  ·have hneg : decide (plc st.O x.To 0 < 0) = false := by
    rw [decide_eq_false]; intro g'; exact (plc_mem st.O x.To 0).2.mp g' hin
   have ho : ordN st.O x.To = st.O := by unfold ordN; rw [if_pos hin]
   simp only [ref18_Canonical_l4, lt_t hp, cond_true, idx_nat, hk, Option.bind_some, hx, hpl, hneg, cond_false]
   rw [ho] at tail
   exact tail
  ·have hneg : decide (plc st.O x.To 0 < 0) = true := decide_eq_true ((plc_mem st.O x.To 0).2.mpr hin)
   have ho : ordN st.O x.To = st.O ++ [x.To] := by unfold ordN; rw [if_neg hin]
   simp only [ref18_Canonical_l4, lt_t hp, cond_true, idx_nat, hk, Option.bind_some, hx, hpl, hneg]
   rw [appL_some (by simp; omega), Option.bind_some]
   rw [ho] at tail
   exact tail
/-- What the steps over the edges of a state keep. -/
structure Kept (g : T4) (S : Nat) (st st' : CSt) (L : List Int) : Prop where
 pre : ∃ X, st'.O = st.O ++ X
 nodup : st.O.Nodup → st'.O.Nodup
 range : (∀ v ∈ st.O, 0 ≤ v ∧ v < (S : Int)) → ∀ v ∈ st'.O, 0 ≤ v ∧ v < (S : Int)
 done : ∀ k ∈ L, ∀ x, idx g.Edges k = some x → x.To ∈ st'.O
 lenE : st'.E.length ≤ st.E.length + L.length
 lenT : st'.T.length ≤ st.T.length + L.length
theorem kept (g : T4) (S : Nat) (hv : ValidG g) (hS : g.States = (S : Int)) (i : Int) : ∀ (L : List Int) (st : CSt), Kept g S st (L.foldl (stepC g i) st) L := by
 intro L
 induction L with
 | nil => intro st; exact ⟨⟨[], by simp⟩, id, id, by simp, by simp, by simp⟩
 | cons k L ih =>
  intro st
  rw [List.foldl_cons]
  have h := ih (stepC g i st k)
  cases hx : idx g.Edges k with
  | none =>
   have hs : stepC g i st k = st := by unfold stepC; rw [hx]
   rw [hs] at h ⊢
   refine ⟨h.pre, h.nodup, h.range, ?_, by have := h.lenE; simp; omega, by have := h.lenT; simp; omega⟩
   intro q hq x hqx
   rcases List.mem_cons.mp hq with hq | hq
   ·subst hq; rw [hx] at hqx; cases hqx
   ·exact h.done q hq x hqx
  | some x =>
   have hs : stepC g i st k = ⟨st.E ++ [⟨i, x.Act, plc (ordN st.O x.To) x.To 0, x.Again⟩], st.T ++ (tmos g k).map (fun t => ⟨i, t.Ticks, (st.E.length : Int)⟩), ordN st.O x.To⟩ := by unfold stepC; rw [hx]
   have hxm : x ∈ g.Edges := by
    obtain ⟨k0, k1⟩ := idx_some hx
    obtain ⟨q, rfl⟩ : ∃ q : Nat, k = (q : Int) := ⟨k.toNat, by omega⟩
    rw [idx_nat] at hx; exact List.mem_of_getElem? hx
   obtain ⟨r1, r2, r3, r4, _⟩ := numV_edge hv.num hxm
   have hO : (stepC g i st k).O = ordN st.O x.To := by rw [hs]
   have hpre : ∃ X, ordN st.O x.To = st.O ++ X := by
    unfold ordN; split
    ·exact ⟨[], by simp⟩
    ·exact ⟨[x.To], rfl⟩
   have hmem : x.To ∈ ordN st.O x.To := by
    unfold ordN; split
    ·assumption
    ·simp
   have hto := tmos_le1 hv (k := k)
   obtain ⟨X, hX⟩ := hpre
   obtain ⟨Y, hY⟩ := h.pre
   refine ⟨⟨X ++ Y, by rw [hY, hO, hX]; simp⟩, ?_, ?_, ?_, ?_, ?_⟩
   ·intro hn
    apply h.nodup
    rw [hO]
    unfold ordN; split
    ·exact hn
    ·rename_i hnot
     refine List.nodup_append.mpr ⟨hn, by simp, ?_⟩
     intro a ha b hb
     simp at hb; subst hb
     intro hc; subst hc; exact hnot ha
   ·intro hr
    apply h.range
    rw [hO]
    unfold ordN; split
    ·exact hr
    ·intro v hv'
     rcases List.mem_append.mp hv' with hv' | hv'
     ·exact hr v hv'
     ·simp at hv'; subst hv'; exact ⟨r3, by rw [← hS]; exact r4⟩
   ·intro q hq y hqy
    rcases List.mem_cons.mp hq with hq | hq
    ·subst hq; rw [hx] at hqy; cases hqy
     rw [hY, hO]; simp [hmem]
    ·exact h.done q hq y hqy
   ·have := h.lenE
    rw [hs] at this ⊢
    simp at this ⊢; omega
   ·have := h.lenT
    rw [hs] at this ⊢
    simp at this ⊢; omega
/-- The state of the numbering. -/
structure CInv (g : T4) (S : Nat) (i : Nat) (st : CSt) : Prop where
 nodup : st.O.Nodup
 range : ∀ v ∈ st.O, 0 ≤ v ∧ v < (S : Int)
 start : g.Start ∈ st.O
 closed : ∀ (p : Nat) v, p < i → st.O[p]? = some v → ∀ x ∈ g.Edges, x.From = v → x.To ∈ st.O
 lenE : st.E.length ≤ i * 400
 lenT : st.T.length ≤ i * 400
 le : i ≤ st.O.length
theorem CInv.len {g : T4} {S i : Nat} {st : CSt} (h : CInv g S i st) : st.O.length ≤ S := by
 have h1 : (st.O.map Int.toNat).Nodup := by
  rw [List.nodup_iff_pairwise_ne, List.pairwise_map]
  refine List.Pairwise.imp_of_mem ?_ (List.nodup_iff_pairwise_ne.mp h.nodup)
  intro a b ha hb hne hc
  have := h.range a ha; have := h.range b hb
  omega
 have h2 := h1.length_le_of_subset (l₂ := List.range S) (by
  intro v hv
  obtain ⟨w, hw, rfl⟩ := List.mem_map.mp hv
  have := h.range w hw
  exact List.mem_range.mpr (by omega))
 simpa using h2
theorem placesOf_mem (g : T4) (s : Int) : ∀ (l : List T2) (k : Nat) (y : Int), y ∈ placesOf g s l k ↔ ∃ m x, l[m]? = some x ∧ x.From = s ∧ y = ((k + m : Nat) : Int)
 | [], k, y => by simp [placesOf]
 | x :: l, k, y => by
  have e0 : placesOf g s (x :: l) k = if x.From = s then (k : Int) :: placesOf g s l (k + 1) else placesOf g s l (k + 1) := rfl
  rw [e0]
  have ih := placesOf_mem g s l (k + 1) y
  constructor
  ·intro h
   split at h
   ·rename_i hf
    rcases List.mem_cons.mp h with h | h
    ·exact ⟨0, x, by simp, hf, by rw [h]; simp⟩
    ·obtain ⟨m, z, h1, h2, h3⟩ := ih.mp h
     exact ⟨m + 1, z, by simpa using h1, h2, by rw [h3]; congr 1; omega⟩
   ·obtain ⟨m, z, h1, h2, h3⟩ := ih.mp h
    exact ⟨m + 1, z, by simpa using h1, h2, by rw [h3]; congr 1; omega⟩
  ·rintro ⟨m, z, h1, h2, h3⟩
   cases m with
   | zero =>
    simp at h1; subst h1
    rw [if_pos h2, h3]; simp
   | succ m =>
    have : y ∈ placesOf g s l (k + 1) := ih.mpr ⟨m, z, by simpa using h1, h2, by rw [h3]; congr 1; omega⟩
    split
    ·exact List.mem_cons_of_mem _ this
    ·exact this
theorem edges_mem {g : T4} {s : Int} {L : List Int} (h : EdgesAre g s L) : (∀ k ∈ L, ∃ x, idx g.Edges k = some x ∧ x.From = s) ∧ (∀ x ∈ g.Edges, x.From = s → ∃ k ∈ L, idx g.Edges k = some x) := by
 constructor
 ·intro k hk
  obtain ⟨m, x, h1, h2, h3⟩ := (placesOf_mem g s g.Edges 0 k).mp (h.1.mem_iff.mp hk)
  exact ⟨x, by rw [h3, idx_nat, Nat.zero_add, h1], h2⟩
 ·intro x hx hf
  obtain ⟨m, hm⟩ := List.mem_iff_getElem?.mp hx
  refine ⟨(m : Int), h.1.mem_iff.mpr ((placesOf_mem g s g.Edges 0 _).mpr ⟨m, x, hm, hf, by simp⟩), by rw [idx_nat, hm]⟩
/-- How the numbering runs: from the i-th state on. -/
inductive CRun (g : T4) : Nat → CSt → CSt → Prop
 | stop (i : Nat) (st : CSt) : st.O.length ≤ i → CRun g i st st
 | step (i : Nat) (st r : CSt) (s : Int) (L : List Int) : st.O[i]? = some s → EdgesAre g s L → CRun g (i + 1) (L.foldl (stepC g (i : Int)) st) r → CRun g i st r
theorem canon_out (hN : 16777216 < N) (g : T4) (S : Nat) (hS2 : S ≤ 200) (hv : ValidG g) (hn : NumE g) (hS : g.States = (S : Int)) (hE : g.Edges.length ≤ 400) (hT : g.Timeouts.length ≤ 4194304) (c : T4) :
  ∀ (n m i : Nat) (st : CSt) (num : List Int), S - i < n → S - i < m → CInv g S i st → NumR S num st.O →
  ∃ st' num', CInv g S st'.O.length st' ∧ NumR S num' st'.O ∧
   z21_l2 N g c n (i : Int) st.E st.T num st.O = z21_k1 g c (st'.O.length : Int) st'.E st'.T num' ∧
   ref18_Canonical_l2 N g m st.E st.T st.O (i : Int) = ref18_Canonical_k1 N g st'.E st'.T st'.O ∧ CRun g i st st' := by
 intro n
 induction n with
 | zero => intro m i st num h; omega
 | succ n ih =>
  intro m i st num hn' hm hI hR
  obtain ⟨m, rfl⟩ : ∃ q, m = q + 1 := ⟨m - 1, by omega⟩
  have hlen := hI.len
  by_cases hlt : i < st.O.length
  ·have hs := List.getElem?_eq_getElem hlt
   generalize st.O[i] = s at hs
   obtain ⟨L, l1, l2, l3⟩ := Edges_both hN g (by omega) hn s
   obtain ⟨m1, m2⟩ := edges_mem l1
   have hLl : L.length ≤ 400 := by rw [l1.1.length_eq]; have := placesOf_len g s g.Edges 0; omega
   obtain ⟨j, j1, j2⟩ := limit_eq (N := N) (by omega) g.Timeouts hT s
   have bE := hI.lenE
   have bT := hI.lenT
   have bi : i * 400 ≤ 80000 := by have := Nat.mul_le_mul_right 400 (show i ≤ 200 by omega); omega
   obtain ⟨num', n1, n2⟩ := canon_in g S hS2 hv hS hT i s j j2 (z21_l2 N g c n) L m1 hLl L 0 N st num rfl (by omega) hR (by omega) (by omega) (by omega)
   have r1 := canonR_in (N := N) (by omega) g hv hT i s (ref18_Canonical_l2 N g m) L m1 (by omega) L 0 N st rfl (by omega) (by omega) (by omega) (by omega) (by omega)
   have K := kept g S hv hS (i : Int) L st
   have hI' : CInv g S (i + 1) (L.foldl (stepC g (i : Int)) st) := by
    obtain ⟨X, hX⟩ := K.pre
    refine ⟨K.nodup hI.nodup, K.range hI.range, by rw [hX]; simp [hI.start], ?_, by have := K.lenE; omega, by have := K.lenT; omega, by rw [hX]; simp; omega⟩
    intro p v hp hpv x hx hxv
    rw [hX, List.getElem?_append_left (by omega)] at hpv
    by_cases hpi : p = i
    ·subst hpi
     rw [hs] at hpv; cases hpv
     obtain ⟨k, k1, k2⟩ := m2 x hx hxv
     exact K.done k k1 x k2
    ·rw [hX]
     have := hI.closed p v (by omega) hpv x hx hxv
     simp [this]
   obtain ⟨st', num2, p1, p2, p3, p4, p5⟩ := ih m (i + 1) _ num' (by omega) (by omega) hI' n2
   refine ⟨st', num2, p1, p2, ?_, ?_, .step i st st' s L hs l1 p5⟩
   ·simp only [z21_l2, lt_t hlt, cond_true, idx_nat, hs, Option.bind_some, j1, l2]
    rw [show (0 : Int) = ((0 : Nat) : Int) from rfl, n1]
    unfold z21_k3
    rw [w64_succ (by omega)]
    exact p3
   ·simp only [ref18_Canonical_l2, lt_t hlt, cond_true, idx_nat, hs, Option.bind_some, l3]
    rw [show (0 : Int) = ((0 : Nat) : Int) from rfl, r1]
    exact p4
  ·have hil : i = st.O.length := by have := hI.le; omega
   refine ⟨st, num, by rw [← hil]; exact hI, hR, ?_, ?_, .stop i st (by omega)⟩
   ·simp only [z21_l2, lt_f (show st.O.length ≤ i by omega), cond_false]
    rw [hil]
   ·simp only [ref18_Canonical_l2, lt_f (show st.O.length ≤ i by omega), cond_false]
/-- All states are found. -/
theorem CInv.all {g : T4} {S : Nat} {st : CSt} (h : CInv g S st.O.length st) (hv : ValidG g) (hS : g.States.toNat = S) : st.O.length = S := by
 obtain ⟨F, hF, hp⟩ := hv.reach
 rw [hS] at hF
 have hpos := (posV_iff hF).mp hp
 have hin : ∀ (k : Nat) (v : Int), idx F v = some (k : Int) → v ∈ st.O := by
  intro k
  induction k with
  | zero => intro v hv'; rw [hF.zero v hv']; exact h.start
  | succ k ih =>
   intro v hv'
   obtain ⟨u, hu, hl⟩ := hF.pred v _ hv' (by omega)
   have hm := ih u (by rw [hl]; congr 1; omega)
   obtain ⟨x, hx, hxe⟩ := List.mem_map.mp hu
   obtain ⟨p, hp'⟩ := List.mem_iff_getElem?.mp hm
   have e1 : x.From = u := congrArg Prod.fst hxe
   have e2 : x.To = v := congrArg Prod.snd hxe
   rw [← e2]
   exact h.closed p u (List.getElem?_eq_some_iff.mp hp').1 hp' x hx e1
 have h2 := (List.nodup_range (n := S)).length_le_of_subset (l₂ := st.O.map Int.toNat) (by
  intro v hv'
  have hv' := List.mem_range.mp hv'
  obtain ⟨d, hd⟩ := idx_lt (L := F) (v := (v : Int)) (by omega) (by rw [hF.len]; omega)
  have := hpos _ _ hd
  exact List.mem_map.mpr ⟨(v : Int), hin d.toNat _ (by rw [hd]; congr 1; omega), by simp⟩)
 have := h.len
 simp at h2; omega
end Gp
end
section
/- Plain law: the canonical automaton of both sides. -/
namespace Gp
open Go Go.Kx Gx
variable {N : Nat}
theorem clone_one {α : Type} (l : List α) (h : l.length ≤ 4294967296) : (appL ([] : List α) l).bind (fun x => some x) = some l := by
 rw [appL_some (by simpa using h)]; rfl
theorem copied_loop (g : T4) (hd : ∀ d ∈ g.Decls, SizeD d) (hl : g.Decls.length ≤ 4194304) :
  ∀ (m : List T0) (k n : Nat), g.Decls.drop k = m → m.length < n → z57_l2 N g g.Roles n (g.Decls.take k) (k : Int) = some ⟨g.Name, g.Roles, g.Decls, 0, 0, 0, [], []⟩ := by
 intro m
 induction m with
 | nil =>
  intro k n h hn
  obtain ⟨n, rfl⟩ : ∃ m, n = m + 1 := ⟨n - 1, by simp at hn; omega⟩
  have hk := drop_nil h
  simp only [z57_l2, lt_f hk, cond_false, z57_k1]
  rw [List.take_of_length_le hk]
 | cons x m ih =>
  intro k n h hn
  obtain ⟨n, rfl⟩ : ∃ m, n = m + 1 := ⟨n - 1, by simp at hn; omega⟩
  obtain ⟨a, c, d⟩ := drop_cons h
  have sx := hd x (List.mem_of_getElem? c)
  have s1 := sx.f
  have s2 := sx.d
  have s3 := sx.e
  have c1 : z116 N x.Fields = some x.Fields := clone_one _ (by omega)
  have c2 : z117 N x.Guard.Diffs = some x.Guard.Diffs := clone_one _ (by omega)
  have c3 : z118 N x.Guard.Equals = some x.Guard.Equals := clone_one _ (by omega)
  simp only [z57_l2, lt_t a, cond_true, idx_nat, c, Option.bind_some, c1, c2, c3]
  rw [appL_some (by simp; omega), Option.bind_some, w64_succ (by omega)]
  have := ih (k + 1) n d (by simp at hn; omega)
  rw [take_drop_cons h] at this
  exact this
theorem copied_eq (hN : 4194304 < N) (g : T4) (hg : SizeG g) : z57 N g = some ⟨g.Name, g.Roles, g.Decls, 0, 0, 0, [], []⟩ := by
 unfold z57
 have hr := hg.r
 have c0 : z115 N g.Roles = some g.Roles := clone_one _ (by omega)
 rw [c0, Option.bind_some]
 have hd := hg.d
 exact copied_loop g hg.dd hg.d g.Decls 0 N rfl (by omega)
/-- What a canonical automaton holds. -/
structure CanonOf (g : T4) (r : T4) (st : CSt) : Prop where
 inv : CInv g g.States.toNat st.O.length st
 len : (st.O.length : Int) = g.States
 run : CRun g 0 ⟨[], [], [g.Start]⟩ st
 eq : r = ⟨g.Name, g.Roles, g.Decls, g.States, 0, plc st.O g.End 0, st.E, st.T⟩
theorem Canonical_both (hN : 16777216 < N) (g : T4) (hg : SizeG g) (hs : SizeN g) (hn : NumE g) : ∃ r, z21 N g = some r ∧ ref18_Canonical N g = some r ∧ SizeG r.1 ∧ (ValidG g → r.2 = 0 ∧ ∃ st, CanonOf g r.1 st) := by
 obtain ⟨b, b1, b2, b3⟩ := Valid_both (N := N) (by omega) g hg hs hn
 unfold z21 ref18_Canonical
 rw [b1, b2]
 simp only [Option.bind_some]
 cases b
 ·refine ⟨_, rfl, rfl, ⟨by simp, by simp, by simp, by simp, by simp⟩, ?_⟩
  intro h; have := b3.mpr h; cases this
 have hv := b3.mp rfl
 obtain ⟨o1, o2, o3, o4, o5, o6, o7⟩ := numV_head hv.num
 have hS : g.States = (g.States.toNat : Int) := by omega
 generalize hs' : g.States.toNat = S at *
 rw [copied_eq (by omega) g hg]
 simp only [Option.bind_some, Bool.not_true, cond_false]
 rw [hS, repeat_eq (by omega) (by omega) (by omega)]
 have hrl : (List.replicate S (-1 : Int)).length = S := by simp
 have hri : ∀ v : Int, 0 ≤ v → v < (S : Int) → idx (List.replicate S (-1 : Int)) v = some (-1) := by
  intro v v0 v1
  obtain ⟨k, rfl⟩ : ∃ k : Nat, v = (k : Int) := ⟨v.toNat, by omega⟩
  rw [idx_nat, List.getElem?_replicate, if_pos (by omega)]
 rw [Option.bind_some, hri g.Start o3 (by omega), Option.bind_some]
 have hI : CInv g S 0 ⟨[], [], [g.Start]⟩ := by
  refine ⟨by simp, ?_, by simp, by intro p v hp; omega, by simp, by simp, by simp⟩
  intro v hv'; simp at hv'; subst hv'; exact ⟨o3, by omega⟩
 have hR : NumR S (setL' (List.replicate S (-1 : Int)) g.Start 0) [g.Start] := by
  refine ⟨by rw [setL_len _ _ o3, hrl], ?_⟩
  intro v v0 v1
  rw [idx_set o3 (by rw [hrl]; omega)]
  show _ = some (if g.Start = v then ((0 : Nat) : Int) else -1)
  by_cases h : v = g.Start
  ·rw [if_pos h, if_pos h.symm]; rfl
  ·rw [if_neg h, if_neg (fun q => h q.symm), hri v v0 v1]
 obtain ⟨st, num, p1, p2, p3, p4, p5⟩ := canon_out hN g S (by omega) hv hn hS o7 hg.t ⟨g.Name, g.Roles, g.Decls, 0, 0, 0, [], []⟩ N N 0 ⟨[], [], [g.Start]⟩ _ (by omega) (by omega) hI hR
 have hall := p1.all hv hs'
 have e3 : z21_l2 N g ⟨g.Name, g.Roles, g.Decls, 0, 0, 0, [], []⟩ N (0 : Int) [] [] (setL' (List.replicate S (-1 : Int)) g.Start 0) [g.Start] = z21_k1 g ⟨g.Name, g.Roles, g.Decls, 0, 0, 0, [], []⟩ (st.O.length : Int) st.E st.T num := p3
 have e4 : ref18_Canonical_l2 N g N [] [] [g.Start] (0 : Int) = ref18_Canonical_k1 N g st.E st.T st.O := p4
 rw [e3, e4]
 unfold z21_k1 ref18_Canonical_k1
 rw [p2.2 g.End o5 (by omega), place_eq (by omega) st.O (by have := p1.len; omega)]
 simp only [Option.bind_some]
 have bE := p1.lenE
 have bT := p1.lenT
 rw [hall] at bE bT
 have bi : S * 400 ≤ 80000 := by have := Nat.mul_le_mul_right 400 (show S ≤ 200 by omega); omega
 refine ⟨_, rfl, ?_, ⟨hg.r, hg.d, hg.dd, by show st.E.length ≤ _; omega, by show st.T.length ≤ _; omega⟩, ?_⟩
 ·rw [hall, ← hS]
 ·intro _
  refine ⟨rfl, st, ?_⟩
  refine ⟨by rw [hs']; exact p1, by rw [hall]; exact hS.symm, p5, ?_⟩
  rw [hall, ← hS]
end Gp
end
section
/- Plain law: the words of an automaton, first half: what one state adds. -/
namespace Gp
open Go Go.Kx Gx
variable {N : Nat}
abbrev Word := List T6
/-- The action of an edge by its number. -/
def actOf (g : T4) (k : Int) : T6 := match idx g.Edges k with | some x => x.Act | none => ⟨0, 0, 0⟩
def toOf (g : T4) (k : Int) : Int := match idx g.Edges k with | some x => x.To | none => 0
theorem words_in (g : T4) (i : Nat) (w : Word) (L : List Int) (hL : ∀ k ∈ L, ∃ x, idx g.Edges k = some x) (hLl : L.length ≤ 400) (hw : w.length ≤ 100)
  (ag : List Word → List Int → Int → Option (List Word × Int)) :
  ∀ (l : List Int) (p n : Nat) (out : List Word) (at' : List Int), L.drop p = l → l.length < n → out[i]? = some w → out.length + l.length ≤ 1000000 → at'.length + l.length ≤ 1000000 →
  z14_l4 N g (i : Int) ag L n out at' (p : Int) = z14_k3 (i : Int) ag (out ++ l.map fun k => w ++ [actOf g k]) (at' ++ l.map (toOf g)) := by
 intro l
 induction l with
 | nil =>
  intro p n out at' h hn hw' _ _
  obtain ⟨n, rfl⟩ : ∃ m, n = m + 1 := ⟨n - 1, by simp at hn; omega⟩
  simp only [z14_l4, lt_f (drop_nil h), cond_false, List.map_nil, List.append_nil]
 | cons k l ih =>
  intro p n out at' h hn hw' b1 b2
  obtain ⟨n, rfl⟩ : ∃ m, n = m + 1 := ⟨n - 1, by simp at hn; omega⟩
  obtain ⟨hp, hk, hdr⟩ := drop_cons h
  simp only [List.length_cons] at hn b1 b2
  obtain ⟨x, hx⟩ := hL k (List.mem_of_getElem? hk)
  have hc : z45 N w = some w := by
   unfold z45
   rw [appL_some (by simp; omega)]; rfl
  have hil : i < out.length := (List.getElem?_eq_some_iff.mp hw').1
  simp only [z14_l4, lt_t hp, cond_true, idx_nat, hk, Option.bind_some, hw', hc, hx]
  rw [appL_some (by simp; omega), Option.bind_some, appL_some (by simp; omega), Option.bind_some, appL_some (by simp; omega), Option.bind_some, w64_succ (by omega)]
  rw [ih (p + 1) n (out ++ [w ++ [x.Act]]) (at' ++ [x.To]) hdr (by omega) (by rw [List.getElem?_append_left hil]; exact hw') (by simp; omega) (by simp; omega)]
  simp [actOf, toOf, hx]
theorem refWords_in (g : T4) (i : Nat) (w : Word) (L : List Int) (hL : ∀ k ∈ L, ∃ x, idx g.Edges k = some x) (hLl : L.length ≤ 400) (hw : w.length ≤ 100)
  (ag : List Word → Int → Option (List Word × Int)) :
  ∀ (l : List Int) (p n : Nat) (out : List Word), L.drop p = l → l.length < n → out[i]? = some w → out.length + l.length ≤ 1000000 →
  ref18_Words_l4 g (i : Int) ag L n out (p : Int) = ref18_Words_k3 (i : Int) ag (out ++ l.map fun k => w ++ [actOf g k]) := by
 intro l
 induction l with
 | nil =>
  intro p n out h hn hw' _
  obtain ⟨n, rfl⟩ : ∃ m, n = m + 1 := ⟨n - 1, by simp at hn; omega⟩
  simp only [ref18_Words_l4, lt_f (drop_nil h), cond_false, List.map_nil, List.append_nil]
 | cons k l ih =>
  intro p n out h hn hw' b1
  obtain ⟨n, rfl⟩ : ∃ m, n = m + 1 := ⟨n - 1, by simp at hn; omega⟩
  obtain ⟨hp, hk, hdr⟩ := drop_cons h
  simp only [List.length_cons] at hn b1
  obtain ⟨x, hx⟩ := hL k (List.mem_of_getElem? hk)
  have hil : i < out.length := (List.getElem?_eq_some_iff.mp hw').1
  simp only [ref18_Words_l4, lt_t hp, cond_true, idx_nat, hk, Option.bind_some, hw', hx]
  rw [appL_some (by simp; omega), Option.bind_some]
  rw [show ([] ++ w : Word) = w from rfl, appL_some (by simp; omega), Option.bind_some, appL_some (by simp; omega), Option.bind_some, w64_succ (by omega)]
  rw [ih (p + 1) n (out ++ [w ++ [x.Act]]) hdr (by omega) (by rw [List.getElem?_append_left hil]; exact hw') (by simp; omega)]
  simp [actOf, hx]
/-- Where a word leads. -/
def runV (g : T4) (s : Int) : Word → Int
 | [] => s
 | a :: w => runV g ((nextV g s a).getD (0, false)).1 w
theorem runV_app (g : T4) : ∀ (w v : Word) (s : Int), runV g s (w ++ v) = runV g (runV g s w) v
 | [], v, s => rfl
 | a :: w, v, s => runV_app g w v _
theorem last_loop (hN : 4194304 < N) (g : T4) (hg : g.Edges.length ≤ 4194304) (w : Word) (hw : w.length ≤ 4194304) :
  ∀ (l : Word) (k n : Nat) (s : Int), w.drop k = l → l.length < n → ref18_last_l2 N g w n s (k : Int) = some (runV g s l) := by
 intro l
 induction l with
 | nil =>
  intro k n s h hn
  obtain ⟨n, rfl⟩ : ∃ m, n = m + 1 := ⟨n - 1, by simp at hn; omega⟩
  simp only [ref18_last_l2, lt_f (drop_nil h), cond_false, ref18_last_k1]
  rfl
 | cons a l ih =>
  intro k n s h hn
  obtain ⟨n, rfl⟩ : ∃ m, n = m + 1 := ⟨n - 1, by simp at hn; omega⟩
  obtain ⟨hk, ha, hdr⟩ := drop_cons h
  obtain ⟨v, hv⟩ := next_some g s a
  simp only [ref18_last_l2, lt_t hk, cond_true, idx_nat, ha, Option.bind_some, refNext_eq hN g hg, hv]
  rw [w64_succ (by omega), ih (k + 1) n _ hdr (by simp at hn; omega)]
  show _ = some (runV g ((nextV g s a).getD (0, false)).1 l)
  rw [hv]; rfl
theorem last_eq (hN : 4194304 < N) (g : T4) (hg : g.Edges.length ≤ 4194304) (w : Word) (hw : w.length ≤ 1000) : ref18_last N g w = some (runV g g.Start w) := by
 unfold ref18_last
 exact last_loop hN g hg w (by omega) w 0 N _ rfl (by omega)
theorem eqAct_iff (a b : T6) : ((a.From == b.From) && ((a.To == b.To) && ((a.Label == b.Label) && true))) = true ↔ a = b := by
 cases a; cases b; simp
/-- Of a state's edges, one alone has an action. -/
theorem apart_act {g : T4} (h : apartV g = true) {i j : Nat} {x y : T2} (hx : g.Edges[i]? = some x) (hy : g.Edges[j]? = some y) (hf : x.From = y.From) (ha : x.Act = y.Act) : i = j := by
 have h1 := (allV_iff _ _ _).mp h i x hx
 unfold apartE at h1
 rw [Bool.and_eq_true, Nat.zero_add] at h1
 have h2 := (allV_iff _ _ _).mp h1.2 j y hy
 rw [Nat.zero_add] at h2
 by_cases hij : i = j
 ·exact hij
 ·exfalso
  unfold apartP at h2
  rw [decide_eq_false hij, show (x.From == y.From) = true by simp [hf], (eqAct_iff x.Act y.Act).mpr ha] at h2
  simp at h2
/-- The state behind an edge's action is that of the edge. -/
theorem next_edge {g : T4} (h : apartV g = true) {i : Nat} {x : T2} (hx : g.Edges[i]? = some x) : nextV g x.From x.Act = some (x.To, true) := by
 unfold nextV
 have gen : ∀ (l : List T2) (k : Nat), g.Edges.drop k = l → k ≤ i → lv (fun y (k : Nat) r => nextB x.From x.Act y k r) (some ((0 : Int), false)) l k = some (x.To, true) := by
  intro l
  induction l with
  | nil =>
   intro k hd hk
   have := drop_nil hd
   have := (List.getElem?_eq_some_iff.mp hx).1
   omega
  | cons y l ih =>
   intro k hd hk
   obtain ⟨a, c, d⟩ := drop_cons hd
   show nextB x.From x.Act y k _ = _
   unfold nextB
   by_cases hki : k = i
   ·subst hki
    rw [hx] at c; cases c
    rw [show (x.From == x.From) = true by simp, (eqAct_iff x.Act x.Act).mpr rfl]; rfl
   ·have hrec := ih (k + 1) d (by omega)
    cases hf : (y.From == x.From)
    ·rw [cond_false]; exact hrec
    ·cases hact : ((y.Act.From == x.Act.From) && ((y.Act.To == x.Act.To) && ((y.Act.Label == x.Act.Label) && true)))
     ·rw [cond_true, cond_false]; exact hrec
     ·exact absurd (apart_act h c hx (by simpa using hf) ((eqAct_iff _ _).mp hact)) hki
 exact gen g.Edges 0 rfl (by omega)
end Gp
end
section
/- Plain law: the words of an automaton: both sides answer the same, one state's words behind another's. -/
namespace Gp
open Go Go.Kx Gx
variable {N : Nat}
theorem placesOf_mem' (g : T4) (s : Int) : ∀ (l : List T2) (k : Nat) (y : Int), y ∈ placesOf g s l k → ∃ m x, l[m]? = some x ∧ x.From = s ∧ y = ((k + m : Nat) : Int)
 | [], k, y, h => by simp [placesOf] at h
 | x :: l, k, y, h => by
  have e0 : placesOf g s (x :: l) k = if x.From = s then (k : Int) :: placesOf g s l (k + 1) else placesOf g s l (k + 1) := rfl
  rw [e0] at h
  split at h
  ·rename_i hf
   rcases List.mem_cons.mp h with h | h
   ·exact ⟨0, x, by simp, hf, by rw [h]; simp⟩
   ·obtain ⟨m, z, h1, h2, h3⟩ := placesOf_mem' g s l (k + 1) y h
    exact ⟨m + 1, z, by simpa using h1, h2, by rw [h3]; congr 1; omega⟩
  ·obtain ⟨m, z, h1, h2, h3⟩ := placesOf_mem' g s l (k + 1) y h
   exact ⟨m + 1, z, by simpa using h1, h2, by rw [h3]; congr 1; omega⟩
theorem edge_of {g : T4} {s : Int} {L : List Int} (h : EdgesAre g s L) : ∀ k ∈ L, ∃ m x, k = ((m : Nat) : Int) ∧ g.Edges[m]? = some x ∧ x.From = s := by
 intro k hk
 obtain ⟨m, x, h1, h2, h3⟩ := placesOf_mem' g s g.Edges 0 k (h.1.mem_iff.mp hk)
 exact ⟨m, x, by rw [h3]; simp, h1, h2⟩
def kids (g : T4) (w : Word) (L : List Int) : List Word := L.map fun k => w ++ [actOf g k]
/-- From the i-th word on, the words of its edges stand from the c-th place on, and so forth. -/
inductive Gen (g : T4) (nn : Nat) (A : List Word) : Nat → Nat → Prop
 | stop (i c : Nat) : A.length ≤ i → Gen g nn A i c
 | full (i c : Nat) (w : Word) : A[i]? = some w → w.length = nn → Gen g nn A i c
 | step (i c : Nat) (w : Word) (L : List Int) (X Y : List Word) : A[i]? = some w → w.length < nn → EdgesAre g (runV g g.Start w) L → A = X ++ (kids g w L ++ Y) → X.length = c → Gen g nn A (i + 1) (c + L.length) → Gen g nn A i c
structure WInv (g : T4) (nn i : Nat) (out : List Word) (at' : List Int) : Prop where
 same : at'.length = out.length
 leads : ∀ (j : Nat) (w : Word), out[j]? = some w → at'[j]? = some (runV g g.Start w)
 most : ∀ w ∈ out, w.length ≤ nn
 up : ∀ (j k : Nat) (v w : Word), j ≤ k → out[j]? = some v → out[k]? = some w → v.length ≤ w.length
 near : ∀ (w : Word), out[i]? = some w → ∀ v ∈ out, v.length ≤ w.length + 1
 le : i ≤ out.length
 few : out.length ≤ 3000
theorem skip_loop (g : T4) (nn : Nat) (out : List Word) (at' : List Int) (hl : out.length ≤ 3000) :
  ∀ (l : List Word) (i n : Nat), out.drop i = l → l.length < n → (∀ w ∈ l, w.length = nn) → z14_l2 N g (nn : Int) n out at' (i : Int) = some (out, 0) := by
 intro l
 induction l with
 | nil =>
  intro i n h hn hw
  obtain ⟨n, rfl⟩ : ∃ m, n = m + 1 := ⟨n - 1, by simp at hn; omega⟩
  simp only [z14_l2, lt_f (drop_nil h), cond_false, z14_k1]
 | cons w l ih =>
  intro i n h hn hw
  obtain ⟨n, rfl⟩ : ∃ m, n = m + 1 := ⟨n - 1, by simp at hn; omega⟩
  obtain ⟨hi, hx, hdr⟩ := drop_cons h
  have he : ((w.length : Int) == (nn : Int)) = true := by simp [hw w (by simp)]
  simp only [z14_l2, lt_t hi, cond_true, idx_nat, hx, Option.bind_some, he]
  rw [w64_succ (by omega)]
  exact ih (i + 1) n hdr (by simp at hn; omega) (fun v hv => hw v (by simp [hv]))
/-- How the words are found: from the i-th word on. -/
inductive WRun (g : T4) (nn : Nat) : Nat → List Word → List Word × Int → Prop
 | stop (i : Nat) (out : List Word) : out.length ≤ i → WRun g nn i out (out, 0)
 | full (i : Nat) (out : List Word) (w : Word) : out[i]? = some w → w.length = nn → WRun g nn i out (out, 0)
 | over (i : Nat) (out : List Word) (w : Word) (L : List Int) : out[i]? = some w → w.length < nn → EdgesAre g (runV g g.Start w) L → ((out ++ kids g w L).length : Int) > 3000 → WRun g nn i out ([], 6)
 | step (i : Nat) (out : List Word) (w : Word) (L : List Int) (r : List Word × Int) : out[i]? = some w → w.length < nn → EdgesAre g (runV g g.Start w) L → ¬ ((out ++ kids g w L).length : Int) > 3000 → WRun g nn (i + 1) (out ++ kids g w L) r → WRun g nn i out r
theorem words_out (hN : 16777216 < N) (g : T4) (hv : ValidG g) (hn : NumE g) (hE : g.Edges.length ≤ 400) (nn : Nat) (hnn : nn ≤ 12) :
  ∀ (f m i : Nat) (out : List Word) (at' : List Int), 3001 - i < f → 3001 - i < m → 3001 < f + i → 3001 < m + i → WInv g nn i out at' →
  (z14_l2 N g (nn : Int) f out at' (i : Int) = some ([], 6) ∧ ref18_Words_l2 N g (nn : Int) m out (i : Int) = some ([], 6) ∧ WRun g nn i out ([], 6)) ∨
  ∃ A X, A = out ++ X ∧ A.length ≤ 3000 ∧ (∀ w ∈ A, w.length ≤ nn) ∧ z14_l2 N g (nn : Int) f out at' (i : Int) = some (A, 0) ∧ ref18_Words_l2 N g (nn : Int) m out (i : Int) = some (A, 0) ∧ Gen g nn A i out.length ∧ WRun g nn i out (A, 0) := by
 intro f
 induction f with
 | zero => intro m i out at' h; omega
 | succ f ih =>
  intro m i out at' hf hm hf2 hm2 hI
  obtain ⟨m, rfl⟩ : ∃ q, m = q + 1 := ⟨m - 1, by omega⟩
  by_cases hi : i < out.length
  ·have hw := List.getElem?_eq_getElem hi
   generalize out[i] = w at hw
   have hwm : w ∈ out := List.mem_of_getElem? hw
   have hwl := hI.most w hwm
   have hfew := hI.few
   by_cases hl : w.length = nn
   ·right
    have he : ((w.length : Int) == (nn : Int)) = true := by simp [hl]
    refine ⟨out, [], by simp, hI.few, hI.most, ?_, ?_, .full i _ w hw hl, .full i _ w hw hl⟩
    ·refine skip_loop g nn out at' hI.few (out.drop i) i (f + 1) rfl (by simp; omega) ?_
     intro v hvd
     obtain ⟨q, hq⟩ := List.mem_iff_getElem?.mp hvd
     rw [List.getElem?_drop] at hq
     have h1 := hI.up i (i + q) w v (by omega) hw hq
     have h2 := hI.most v (List.mem_of_getElem? hq)
     omega
    ·simp only [ref18_Words_l2, lt_t hi, cond_true, idx_nat, hw, Option.bind_some, he, ref18_Words_k1]
   ·have he : ((w.length : Int) == (nn : Int)) = false := by simp; omega
    obtain ⟨L, l1, l2, l3⟩ := Edges_both hN g (by omega) hn (runV g g.Start w)
    have hLl : L.length ≤ 400 := by rw [l1.1.length_eq]; have := placesOf_len g (runV g g.Start w) g.Edges 0; omega
    have hLe := edge_of l1
    have hL : ∀ k ∈ L, ∃ x, idx g.Edges k = some x := by
     intro k hk
     obtain ⟨q, x, rfl, h2, _⟩ := hLe k hk
     exact ⟨x, by rw [idx_nat, h2]⟩
    have hat := hI.leads i w hw
    have hsame := hI.same
    have hlast := last_eq (N := N) (by omega) g (by omega) w (by omega)
    have g1 := words_in (N := N) g i w L hL hLl (by omega) (z14_l2 N g (nn : Int) f) L 0 N out at' rfl (by omega) hw (by omega) (by omega)
    have r1 := refWords_in g i w L hL hLl (by omega) (ref18_Words_l2 N g (nn : Int) m) L 0 N out rfl (by omega) hw (by omega)
    have eG : z14_l2 N g (nn : Int) (f + 1) out at' (i : Int) = z14_k3 (i : Int) (z14_l2 N g (nn : Int) f) (out ++ kids g w L) (at' ++ L.map (toOf g)) := by
     simp only [z14_l2, lt_t hi, cond_true, idx_nat, hw, Option.bind_some, he, cond_false, hat, l2]
     exact g1
    have eR : ref18_Words_l2 N g (nn : Int) (m + 1) out (i : Int) = ref18_Words_k3 (i : Int) (ref18_Words_l2 N g (nn : Int) m) (out ++ kids g w L) := by
     simp only [ref18_Words_l2, lt_t hi, cond_true, idx_nat, hw, Option.bind_some, he, cond_false, hlast, l3]
     exact r1
    rw [eG, eR]
    unfold z14_k3 ref18_Words_k3
    by_cases hbig : ((out ++ kids g w L).length : Int) > 3000
    ·left
     rw [decide_eq_true hbig]
     exact ⟨rfl, rfl, .over i out w L hw (by omega) l1 hbig⟩
    ·rw [decide_eq_false hbig, cond_false, cond_false, w64_succ (by omega)]
     have hkl : ∀ v ∈ kids g w L, v.length = w.length + 1 := by
      intro v hv'
      obtain ⟨k, _, rfl⟩ := List.mem_map.mp hv'
      simp
     have hI' : WInv g nn (i + 1) (out ++ kids g w L) (at' ++ L.map (toOf g)) := by
      refine ⟨by simp [kids, hsame], ?_, ?_, ?_, ?_, by simp; omega, by omega⟩
      ·intro j v hj
       by_cases hjl : j < out.length
       ·rw [List.getElem?_append_left hjl] at hj
        rw [List.getElem?_append_left (by omega)]
        exact hI.leads j v hj
       ·rw [List.getElem?_append_right (by omega)] at hj
        rw [List.getElem?_append_right (by omega), hsame]
        unfold kids at hj
        rw [List.getElem?_map] at hj ⊢
        cases hk : L[j - out.length]? with
        | none => rw [hk] at hj; cases hj
        | some k =>
         rw [hk] at hj
         obtain ⟨q, x, rfl, h2, h3⟩ := hLe k (List.mem_of_getElem? hk)
         have hv' : v = w ++ [actOf g (q : Int)] := (Option.some.inj hj).symm
         have ea : actOf g (q : Int) = x.Act := by simp [actOf, idx_nat, h2]
         have et : toOf g (q : Int) = x.To := by simp [toOf, idx_nat, h2]
         rw [hv', runV_app, ea]
         show some (toOf g (q : Int)) = some ((nextV g (runV g g.Start w) x.Act).getD (0, false)).1
         rw [← h3, next_edge hv.apart h2, et]; rfl
      ·intro v hv'
       rcases List.mem_append.mp hv' with h | h
       ·exact hI.most v h
       ·have := hkl v h; omega
      ·intro j k v u hjk hj hk
       by_cases h1 : k < out.length
       ·rw [List.getElem?_append_left h1] at hk
        rw [List.getElem?_append_left (by omega)] at hj
        exact hI.up j k v u hjk hj hk
       ·rw [List.getElem?_append_right (by omega)] at hk
        have hu := hkl u (List.mem_of_getElem? hk)
        by_cases h2 : j < out.length
        ·rw [List.getElem?_append_left h2] at hj
         have := hI.near w hw v (List.mem_of_getElem? hj)
         omega
        ·rw [List.getElem?_append_right (by omega)] at hj
         have := hkl v (List.mem_of_getElem? hj)
         omega
      ·intro u hu v hv'
       have hwu : w.length ≤ u.length := by
        by_cases h1 : i + 1 < out.length
        ·rw [List.getElem?_append_left h1] at hu
         exact hI.up i (i + 1) w u (by omega) hw hu
        ·rw [List.getElem?_append_right (by omega)] at hu
         have := hkl u (List.mem_of_getElem? hu)
         omega
       rcases List.mem_append.mp hv' with h | h
       ·have := hI.near w hw v h; omega
       ·have := hkl v h; omega
     rcases ih m (i + 1) (out ++ kids g w L) (at' ++ L.map (toOf g)) (by omega) (by omega) (by omega) (by omega) hI' with ⟨h1, h2, h3⟩ | ⟨A, X, a1, a2, a3, a4, a5, a6, a7⟩
     ·exact .inl ⟨h1, h2, .step i out w L _ hw (by omega) l1 hbig h3⟩
     ·right
      refine ⟨A, kids g w L ++ X, by rw [a1]; simp, a2, a3, a4, a5, ?_, .step i out w L _ hw (by omega) l1 hbig a7⟩
      refine .step i out.length w L out X ?_ (by omega) l1 (by rw [a1]; simp) rfl ?_
      ·rw [a1, List.append_assoc, List.getElem?_append_left hi]; exact hw
      ·have : (out ++ kids g w L).length = out.length + L.length := by simp [kids]
       rw [this] at a6
       exact a6
  ·right
   refine ⟨out, [], by simp, hI.few, hI.most, ?_, ?_, .stop i _ (by omega), .stop i _ (by omega)⟩
   ·simp only [z14_l2, lt_f (show out.length ≤ i by omega), cond_false, z14_k1]
   ·simp only [ref18_Words_l2, lt_f (show out.length ≤ i by omega), cond_false, ref18_Words_k1]
end Gp
end
section
/- Plain law: two automata that differ in the names of their states and in the order of their edges. -/
namespace Gp
open Go Go.Kx Gx
theorem eqA_iff (a b : T6) : ((a.From == b.From) && ((a.To == b.To) && ((a.Label == b.Label) && true))) = true ↔ a = b := by
 cases a; cases b; simp
/-- Two edges that may stand beside one another. -/
def BesideR (x y : T2) : Prop := x.From = y.From → (x.Act ≠ y.Act ∧ x.Act.From = y.Act.From ∧ x.Again = false ∧ y.Again = false)
structure ApartP (start : Int) (E : List T2) : Prop where
 again : ∀ x ∈ E, x.Again = true → x.From ≠ start
 beside : E.Pairwise BesideR
 behind : ∀ x ∈ E, ∀ y ∈ E, x.Again = true → y.To = x.From → x.Act.From = y.Act.From ∧ x.Act.Label = y.Act.Label
theorem BesideR.symm {x y : T2} (h : BesideR x y) : BesideR y x := fun e => by
 obtain ⟨a, b, c, d⟩ := h e.symm
 exact ⟨fun q => a q.symm, b.symm, d, c⟩
theorem apartP_iff (x y : T2) (same : Bool) : apartP x y same = true ↔ ((same = false → x.From = y.From → x.Act ≠ y.Act ∧ x.Act.From = y.Act.From ∧ x.Again = false) ∧ (x.Again = true → y.To = x.From → x.Act.From = y.Act.From ∧ x.Act.Label = y.Act.Label)) := by
 unfold apartP
 rw [Bool.not_eq_true', Bool.or_eq_false_iff]
 constructor
 ·rintro ⟨h1, h2⟩
  constructor
  ·intro hs hf
   subst hs
   rw [show (x.From == y.From) = true by simp [hf]] at h1
   simp only [Bool.not_false, Bool.true_and, Bool.or_eq_false_iff] at h1
   refine ⟨?_, by simpa [bne] using h1.2.1, h1.2.2⟩
   intro ha
   have := (eqA_iff x.Act y.Act).mpr ha
   rw [h1.1] at this; cases this
  ·intro ha ht
   rw [ha, show (y.To == x.From) = true by simp [ht]] at h2
   simp only [Bool.true_and, Bool.or_eq_false_iff] at h2
   exact ⟨by simpa [bne] using h2.1, by simpa [bne] using h2.2⟩
 ·rintro ⟨h1, h2⟩
  constructor
  ·cases same
   ·cases hf : (x.From == y.From)
    ·rfl
    ·obtain ⟨a, b, c⟩ := h1 rfl (by simpa using hf)
     rw [show ((x.Act.From == y.Act.From) && ((x.Act.To == y.Act.To) && ((x.Act.Label == y.Act.Label) && true))) = false by
      cases hq : ((x.Act.From == y.Act.From) && ((x.Act.To == y.Act.To) && ((x.Act.Label == y.Act.Label) && true)))
      ·rfl
      ·exact absurd ((eqA_iff _ _).mp hq) a, c, show (x.Act.From != y.Act.From) = false by simp [b]]
     rfl
   ·rfl
  ·cases ha : x.Again
   ·rfl
   ·cases ht : (y.To == x.From)
    ·rfl
    ·obtain ⟨a, b⟩ := h2 ha (by simpa using ht)
     simp [a, b]
theorem apartV_iff (g : T4) : apartV g = true ↔ ApartP g.Start g.Edges := by
 unfold apartV
 rw [allV_iff]
 constructor
 ·intro h
  have each : ∀ (i j : Nat) x y, g.Edges[i]? = some x → g.Edges[j]? = some y → apartP x y (decide (i = j)) = true := by
   intro i j x y hx hy
   have h1 := h i x hx
   unfold apartE at h1
   rw [Bool.and_eq_true, Nat.zero_add] at h1
   have h2 := (allV_iff _ _ _).mp h1.2 j y hy
   rw [Nat.zero_add] at h2
   exact h2
  refine ⟨?_, ?_, ?_⟩
  ·intro x hx ha hf
   obtain ⟨i, hi⟩ := List.mem_iff_getElem?.mp hx
   have h1 := h i x hi
   unfold apartE at h1
   rw [Bool.and_eq_true, ha, show (x.From == g.Start) = true by simp [hf]] at h1
   cases h1.1
  ·rw [List.pairwise_iff_getElem]
   intro i j hi hj hij hf
   have a := (apartP_iff _ _ _).mp (each i j _ _ (List.getElem?_eq_getElem hi) (List.getElem?_eq_getElem hj))
   have b := (apartP_iff _ _ _).mp (each j i _ _ (List.getElem?_eq_getElem hj) (List.getElem?_eq_getElem hi))
   obtain ⟨a1, a2, a3⟩ := a.1 (decide_eq_false (by omega)) hf
   obtain ⟨b1, b2, b3⟩ := b.1 (decide_eq_false (by omega)) hf.symm
   exact ⟨a1, a2, a3, b3⟩
  ·intro x hx y hy ha ht
   obtain ⟨i, hi⟩ := List.mem_iff_getElem?.mp hx
   obtain ⟨j, hj⟩ := List.mem_iff_getElem?.mp hy
   exact ((apartP_iff _ _ _).mp (each i j x y hi hj)).2 ha ht
 ·rintro ⟨h1, h2, h3⟩ i x hi
  have hxm := List.mem_of_getElem? hi
  unfold apartE
  rw [Bool.and_eq_true, Nat.zero_add]
  constructor
  ·cases ha : x.Again
   ·rfl
   ·have := h1 x hxm ha
    simp [this]
  ·rw [allV_iff]
   intro j y hj
   rw [Nat.zero_add]
   rw [apartP_iff]
   refine ⟨?_, fun ha ht => h3 x hxm y (List.mem_of_getElem? hj) ha ht⟩
   intro hs hf
   have hij : i ≠ j := of_decide_eq_false hs
   obtain ⟨hi', e1⟩ := List.getElem?_eq_some_iff.mp hi
   obtain ⟨hj', e2⟩ := List.getElem?_eq_some_iff.mp hj
   rw [List.pairwise_iff_getElem] at h2
   rcases Nat.lt_or_gt_of_ne hij with hlt | hlt
   ·obtain ⟨a, b, c, d⟩ := h2 i j hi' hj' hlt (by rw [e1, e2]; exact hf)
    rw [e1, e2] at a b; rw [e1] at c
    exact ⟨a, b, c⟩
   ·obtain ⟨a, b, c, d⟩ := h2 j i hj' hi' hlt (by rw [e1, e2]; exact hf.symm)
    rw [e1, e2] at a b; rw [e1] at d
    exact ⟨fun q => a q.symm, b.symm, d⟩
end Gp
end
section
/- Plain law: the edges of a state, as values: their order does not depend on the order of the list. -/
namespace Gp
open Go Go.Kx Gx
def valsOf (g : T4) (L : List Int) : List T2 := L.filterMap fun k => idx g.Edges k
theorem vals_places (g : T4) (s : Int) : ∀ (l : List T2) (k : Nat), g.Edges.drop k = l → valsOf g (placesOf g s l k) = l.filter (fun x => x.From == s)
 | [], k, h => rfl
 | x :: l, k, h => by
  obtain ⟨a, c, d⟩ := drop_cons h
  have e0 : placesOf g s (x :: l) k = if x.From = s then (k : Int) :: placesOf g s l (k + 1) else placesOf g s l (k + 1) := rfl
  have ih := vals_places g s l (k + 1) d
  rw [e0, List.filter_cons]
  by_cases hf : x.From = s
  ·rw [if_pos hf, show (x.From == s) = true by simp [hf], if_pos rfl]
   unfold valsOf at ih ⊢
   rw [List.filterMap_cons_some (b := x) (by rw [idx_nat, c]), ih]
  ·rw [if_neg hf, show (x.From == s) = false by simp [hf], ih]; simp
theorem vals_perm {g : T4} {s : Int} {L : List Int} (h : EdgesAre g s L) : (valsOf g L).Perm (g.Edges.filter fun x => x.From == s) := by
 rw [← vals_places g s g.Edges 0 rfl]
 exact h.1.filterMap _
theorem vals_mem {g : T4} {s : Int} {L : List Int} (h : EdgesAre g s L) {x : T2} (hx : x ∈ valsOf g L) : x ∈ g.Edges ∧ x.From = s := by
 have := (vals_perm h).mem_iff.mp hx
 rw [List.mem_filter] at this
 exact ⟨this.1, by simpa using this.2⟩
end Gp
end
section
/- Plain law: the edges of a state, as values, are sorted strictly by receiver and message. -/
namespace Gp
open Go Go.Kx Gx
/-- A list of edges in the order of their keys, all keys different. -/
def SrtE (l : List T2) : Prop := l.Pairwise fun x y => ekey x < ekey y
theorem beside_of {start : Int} {E : List T2} (h : ApartP start E) {i j : Nat} {x y : T2} (hi : E[i]? = some x) (hj : E[j]? = some y) (hij : i ≠ j) : BesideR x y := by
 obtain ⟨hi', e1⟩ := List.getElem?_eq_some_iff.mp hi
 obtain ⟨hj', e2⟩ := List.getElem?_eq_some_iff.mp hj
 have h2 := List.pairwise_iff_getElem.mp h.beside
 rcases Nat.lt_or_gt_of_ne hij with hlt | hlt
 ·have := h2 i j hi' hj' hlt; rw [e1, e2] at this; exact this
 ·have := h2 j i hj' hi' hlt; rw [e1, e2] at this; exact this.symm
theorem ekey_ne {x y : T2} (hx : I64 x.Act.To ∧ I64 x.Act.Label) (hy : I64 y.Act.To ∧ I64 y.Act.Label) (hf : x.From = y.From) (hb : BesideR x y) : ekey x ≠ ekey y := by
 intro he
 obtain ⟨⟨a1, a2⟩, a3, a4⟩ := hx
 obtain ⟨⟨b1, b2⟩, b3, b4⟩ := hy
 unfold ekey at he
 obtain ⟨c1, c2, _⟩ := hb hf
 apply c1
 have h1 : x.Act.To = y.Act.To := by omega
 have h2 : x.Act.Label = y.Act.Label := by omega
 cases hxa : x.Act; cases hya : y.Act
 rw [hxa, hya] at c2 h1 h2
 simp at c2 h1 h2 ⊢
 exact ⟨c2, h1, h2⟩
theorem vals_sorted {g : T4} (ha : ApartP g.Start g.Edges) (hn : NumE g) {s : Int} {L : List Int} (h : EdgesAre g s L) (hnd : L.Nodup) (hk : ∀ k ∈ L, ∃ m x, k = ((m : Nat) : Int) ∧ g.Edges[m]? = some x ∧ x.From = s) : SrtE (valsOf g L) := by
 unfold SrtE valsOf
 rw [List.pairwise_filterMap]
 have h2 := h.2
 unfold Srt at h2
 refine List.Pairwise.imp_of_mem ?_ (h2.and (List.nodup_iff_pairwise_ne.mp hnd))
 rintro a b ha' hb' ⟨hlt, hne⟩ x hx y hy
 obtain ⟨i, x', rfl, i1, i2⟩ := hk a ha'
 obtain ⟨j, y', rfl, j1, j2⟩ := hk b hb'
 rw [idx_nat, i1] at hx
 rw [idx_nat, j1] at hy
 cases hx; cases hy
 have kx : key g (i : Int) = ekey x := by
  unfold key
  rw [show (i : Int).toNat = i by simp, i1]
 have ky : key g (j : Int) = ekey y := by
  unfold key
  rw [show (j : Int).toNat = j by simp, j1]
 have hne' := ekey_ne (hn x (List.mem_of_getElem? i1)) (hn y (List.mem_of_getElem? j1)) (by rw [i2, j2]) (beside_of ha i1 j1 (fun q => hne (by rw [q])))
 unfold Lt at hlt
 rw [kx, ky] at hlt
 rcases hlt with h | h
 ·exact h
 ·exact absurd h.1 hne'
end Gp
end
section
/- Plain law: automata alike but for the names of states: the edges of a state correspond. -/
namespace Gp
open Go Go.Kx Gx
def mapE (f : Int → Int) (x : T2) : T2 := ⟨f x.From, x.Act, f x.To, x.Again⟩
structure Iso (g h : T4) (f : Int → Int) : Prop where
 name : h.Name = g.Name
 roles : h.Roles = g.Roles
 decls : h.Decls = g.Decls
 states : h.States = g.States
 rng : ∀ v, 0 ≤ v → v < g.States → 0 ≤ f v ∧ f v < g.States
 inj : ∀ u v, 0 ≤ u → u < g.States → 0 ≤ v → v < g.States → f u = f v → u = v
 start : h.Start = f g.Start
 stop : h.End = f g.End
 edges : h.Edges.Perm (g.Edges.map (mapE f))
 tsort : h.Timeouts.Pairwise (fun a b => a.State < b.State)
 tback : ∀ t' ∈ h.Timeouts, ∃ t ∈ g.Timeouts, ∃ x, idx g.Edges t.Else = some x ∧ t'.State = f t.State ∧ t'.Ticks = t.Ticks ∧ idx h.Edges t'.Else = some (mapE f x)
 tforw : ∀ t ∈ g.Timeouts, ∀ x, idx g.Edges t.Else = some x → ∃ t' ∈ h.Timeouts, t'.State = f t.State ∧ t'.Ticks = t.Ticks ∧ idx h.Edges t'.Else = some (mapE f x)
theorem filter_map (f : Int → Int) (s : Int) (S : Int) (inj : ∀ u v, 0 ≤ u → u < S → 0 ≤ v → v < S → f u = f v → u = v) (s0 : 0 ≤ s) (s1 : s < S) : ∀ (l : List T2), (∀ x ∈ l, 0 ≤ x.From ∧ x.From < S) →
  (l.map (mapE f)).filter (fun x => x.From == f s) = (l.filter (fun x => x.From == s)).map (mapE f)
 | [], _ => rfl
 | x :: l, h => by
  have hx := h x (by simp)
  rw [List.map_cons, List.filter_cons, List.filter_cons, filter_map f s S inj s0 s1 l (fun y hy => h y (by simp [hy]))]
  by_cases e : x.From = s
  ·rw [show (x.From == s) = true by simp [e], show ((mapE f x).From == f s) = true by simp [mapE, e]]; simp
  ·have : f x.From ≠ f s := fun q => e (inj _ _ hx.1 hx.2 s0 s1 q)
   rw [show (x.From == s) = false by simp [e], show ((mapE f x).From == f s) = false by simp [mapE, this]]; simp
theorem srtE_uniq {A B : List T2} (hp : A.Perm B) (ha : SrtE A) (hb : SrtE B) : A = B := by
 refine srt_uniq (K := ekey) (r := fun _ _ => False) ?_ A B hp ?_ ?_
 ·intro x y h1 h2
  unfold Lt at h1 h2
  rcases h1 with h1 | h1
  ·rcases h2 with h2 | h2
   ·omega
   ·exact h2.2
  ·exact h1.2
 ·exact List.Pairwise.imp (fun h => .inl h) ha
 ·exact List.Pairwise.imp (fun h => .inl h) hb
/-- The edges of a state correspond, one by one. -/
theorem vals_iso {g h : T4} {f : Int → Int} (I : Iso g h f) (hr : ∀ x ∈ g.Edges, 0 ≤ x.From ∧ x.From < g.States) {s : Int} (s0 : 0 ≤ s) (s1 : s < g.States) {L M : List Int} (hL : EdgesAre g s L) (hM : EdgesAre h (f s) M) (sL : SrtE (valsOf g L)) (sM : SrtE (valsOf h M)) : valsOf h M = (valsOf g L).map (mapE f) := by
 refine srtE_uniq ?_ sM ?_
 ·refine (vals_perm hM).trans ?_
  refine (I.edges.filter _).trans ?_
  rw [filter_map f s g.States I.inj s0 s1 g.Edges hr]
  exact ((vals_perm hL).map _).symm
 ·unfold SrtE
  rw [List.pairwise_map]
  exact sL
end Gp
end
section
/- Plain law: names of states that differ fill all states. -/
namespace Gp
open Go Go.Kx Gx
theorem surj (S : Nat) (f : Int → Int) (rng : ∀ v, 0 ≤ v → v < (S : Int) → 0 ≤ f v ∧ f v < (S : Int)) (inj : ∀ u v, 0 ≤ u → u < (S : Int) → 0 ≤ v → v < (S : Int) → f u = f v → u = v) (w : Int) (w0 : 0 ≤ w) (w1 : w < (S : Int)) : ∃ v, 0 ≤ v ∧ v < (S : Int) ∧ f v = w := by
 apply Classical.byContradiction
 intro hno
 have hnd : ((List.range S).map fun k : Nat => (f (k : Int)).toNat).Nodup := by
  rw [List.nodup_iff_pairwise_ne, List.pairwise_map]
  refine List.Pairwise.imp_of_mem ?_ (List.nodup_iff_pairwise_ne.mp (List.nodup_range (n := S)))
  intro a b ha hb hne hc
  have ha := List.mem_range.mp ha
  have hb := List.mem_range.mp hb
  have h1 := rng (a : Int) (by omega) (by omega)
  have h2 := rng (b : Int) (by omega) (by omega)
  have := inj (a : Int) (b : Int) (by omega) (by omega) (by omega) (by omega) (by omega)
  omega
 have hni : w.toNat ∉ (List.range S).map fun k : Nat => (f (k : Int)).toNat := by
  intro hm
  obtain ⟨k, hk, he⟩ := List.mem_map.mp hm
  have hk := List.mem_range.mp hk
  have h1 := rng (k : Int) (by omega) (by omega)
  exact hno ⟨(k : Int), by omega, by omega, by omega⟩
 have h := (List.nodup_cons.mpr ⟨hni, hnd⟩).length_le_of_subset (l₂ := List.range S) (by
  intro v hv
  rcases List.mem_cons.mp hv with hv | hv
  ·subst hv; exact List.mem_range.mpr (by omega)
  ·obtain ⟨k, hk, rfl⟩ := List.mem_map.mp hv
   have hk := List.mem_range.mp hk
   have h1 := rng (k : Int) (by omega) (by omega)
   exact List.mem_range.mpr (by omega))
 simp at h
 omega
end Gp
end
section
/- Plain law: edges apart stay apart under other names of states. -/
namespace Gp
open Go Go.Kx Gx
theorem ApartP.map {g h : T4} {f : Int → Int} (I : Iso g h f) (hr : ∀ x ∈ g.Edges, (0 ≤ x.From ∧ x.From < g.States) ∧ 0 ≤ x.To ∧ x.To < g.States) (hs : 0 ≤ g.Start ∧ g.Start < g.States) (ha : ApartP g.Start g.Edges) : ApartP h.Start h.Edges := by
 have mem : ∀ x ∈ h.Edges, ∃ y ∈ g.Edges, x = mapE f y := by
  intro x hx
  obtain ⟨y, hy, rfl⟩ := List.mem_map.mp (I.edges.mem_iff.mp hx)
  exact ⟨y, hy, rfl⟩
 refine ⟨?_, ?_, ?_⟩
 ·intro x hx hag hf
  obtain ⟨y, hy, rfl⟩ := mem x hx
  rw [I.start] at hf
  exact ha.again y hy hag (I.inj _ _ (hr y hy).1.1 (hr y hy).1.2 hs.1 hs.2 hf)
 ·refine (List.Perm.pairwise_iff (fun h => h.symm) I.edges).mpr ?_
  rw [List.pairwise_map]
  refine List.Pairwise.imp_of_mem ?_ ha.beside
  intro x y hx hy hb he
  exact hb (I.inj _ _ (hr x hx).1.1 (hr x hx).1.2 (hr y hy).1.1 (hr y hy).1.2 he)
 ·intro x hx y hy hag ht
  obtain ⟨x', hx', rfl⟩ := mem x hx
  obtain ⟨y', hy', rfl⟩ := mem y hy
  exact ha.behind x' hx' y' hy' hag (I.inj _ _ (hr y' hy').2.1 (hr y' hy').2.2 (hr x' hx').1.1 (hr x' hx').1.2 ht)
end Gp
end
section
/- Plain law: an automaton with other names of states is valid, too. -/
namespace Gp
open Go Go.Kx Gx
theorem timeV_of {g : T4} (hs : g.Timeouts.Pairwise (fun a b => a.State < b.State)) (ho : ∀ t ∈ g.Timeouts, -1 < t.State ∧ okT g t) : timeV g = true := by
 unfold timeV
 rw [allV_iff]
 intro i t hi
 rw [Nat.zero_add]
 refine decide_eq_true ⟨?_, (ho t (List.mem_of_getElem? hi)).2⟩
 cases i with
 | zero => exact (ho t (List.mem_of_getElem? hi)).1
 | succ i =>
  obtain ⟨h1, e1⟩ := List.getElem?_eq_some_iff.mp hi
  have h2 : i < g.Timeouts.length := by omega
  simp only [lastV, List.getElem?_eq_getElem h2]
  have := List.pairwise_iff_getElem.mp hs i (i + 1) h2 h1 (by omega)
  rw [e1] at this
  exact this
theorem timeV_ok {g : T4} (h : timeV g = true) {t : T8} (ht : t ∈ g.Timeouts) : okT g t := by
 obtain ⟨i, hi⟩ := List.mem_iff_getElem?.mp ht
 exact (of_decide_eq_true ((allV_iff _ _ _).mp h i t hi)).2
theorem Iso.mem {g h : T4} {f : Int → Int} (I : Iso g h f) {x : T2} (hx : x ∈ h.Edges) : ∃ y ∈ g.Edges, x = mapE f y := by
 obtain ⟨y, hy, rfl⟩ := List.mem_map.mp (I.edges.mem_iff.mp hx)
 exact ⟨y, hy, rfl⟩
theorem Iso.mem' {g h : T4} {f : Int → Int} (I : Iso g h f) {y : T2} (hy : y ∈ g.Edges) : mapE f y ∈ h.Edges :=
 I.edges.mem_iff.mpr (List.mem_map.mpr ⟨y, hy, rfl⟩)
theorem Iso.len {g h : T4} {f : Int → Int} (I : Iso g h f) : h.Edges.length = g.Edges.length := by
 rw [I.edges.length_eq, List.length_map]
theorem idx_memE {g : T4} {k : Int} {x : T2} (h : idx g.Edges k = some x) : x ∈ g.Edges := by
 obtain ⟨k0, k1⟩ := idx_some h
 obtain ⟨q, rfl⟩ : ∃ q : Nat, k = (q : Int) := ⟨k.toNat, by omega⟩
 rw [idx_nat] at h
 exact List.mem_of_getElem? h
theorem numV_iso {g h : T4} {f : Int → Int} (I : Iso g h f) (hv : numV g = true) : numV h = true := by
 obtain ⟨o1, o2, o3, o4, o5, o6, o7⟩ := numV_head hv
 have r1 := I.rng g.Start o3 o4
 have r2 := I.rng g.End o5 o6
 unfold numV
 rw [Bool.and_eq_true, allV_iff]
 constructor
 ·refine decide_eq_true ?_
  unfold okH
  rw [I.states, I.start, I.stop, I.len]
  exact ⟨o1, o2, r1.1, r1.2, r2.1, r2.2, o7⟩
 ·intro i x hx
  obtain ⟨y, hy, rfl⟩ := I.mem (List.mem_of_getElem? hx)
  obtain ⟨a1, a2, a3, a4, a5⟩ := numV_edge hv hy
  have q1 := I.rng _ a1 a2
  have q2 := I.rng _ a3 a4
  refine decide_eq_true ?_
  unfold okE
  rw [I.states, I.roles, I.decls]
  exact ⟨q1.1, q1.2, q2.1, q2.2, a5⟩
theorem pos_map {g h : T4} {f : Int → Int} (I : Iso g h f) (hv : numV g = true) (back : Bool) {e : Int} {F F' : List Int} (hF : Dist (ers g back) g.States.toNat e F) (hp : posV F = true) (hF' : Dist (ers h back) g.States.toNat (f e) F') : posV F' = true := by
 obtain ⟨o1, o2, o3, o4, o5, o6, o7⟩ := numV_head hv
 have one : ∀ (k : Nat) (v : Int), idx F v = some (k : Int) → ∃ d, idx F' (f v) = some d ∧ 0 ≤ d := by
  intro k
  induction k with
  | zero =>
   intro v hk
   have := hF.zero v hk
   subst this
   exact ⟨0, hF'.root, by omega⟩
  | succ k ih =>
   intro v hk
   obtain ⟨u, hu, hl⟩ := hF.pred v _ hk (by omega)
   obtain ⟨d, d1, d2⟩ := ih u (by rw [hl]; congr 1; omega)
   obtain ⟨x, hx, hxe⟩ := List.mem_map.mp hu
   have hm : (f u, f v) ∈ ers h back := by
    refine List.mem_map.mpr ⟨mapE f x, I.mem' hx, ?_⟩
    have e1 : (er back x).1 = u := congrArg Prod.fst hxe
    have e2 : (er back x).2 = v := congrArg Prod.snd hxe
    rw [← e1, ← e2]
    cases back <;> rfl
   obtain ⟨d', h1, h2, _⟩ := hF'.succ (f u) (f v) d hm d1 d2
   exact ⟨d', h1, h2⟩
 have hpos := (posV_iff hF).mp hp
 refine (posV_iff hF').mpr ?_
 intro w d hw
 obtain ⟨w0, w1⟩ := idx_some hw
 rw [hF'.len] at w1
 obtain ⟨v, v0, v1, rfl⟩ := surj g.States.toNat f (fun v a b => by have := I.rng v a (by omega); omega) (fun u v a b c d e => I.inj u v a (by omega) c (by omega) e) w w0 w1
 obtain ⟨d0, hd⟩ := idx_lt (L := F) (v := v) v0 (by rw [hF.len]; exact v1)
 have := hpos _ _ hd
 obtain ⟨d', h1, h2⟩ := one d0.toNat v (by rw [hd]; congr 1; omega)
 rw [hw] at h1; cases h1
 exact h2
theorem ValidG.rng {g : T4} (hv : ValidG g) {x : T2} (hx : x ∈ g.Edges) : (0 ≤ x.From ∧ x.From < g.States) ∧ 0 ≤ x.To ∧ x.To < g.States := by
 obtain ⟨a1, a2, a3, a4, _⟩ := numV_edge hv.num hx
 exact ⟨⟨a1, a2⟩, a3, a4⟩
theorem ValidG.iso {g h : T4} {f : Int → Int} (I : Iso g h f) (hv : ValidG g) : ValidG h := by
 obtain ⟨o1, o2, o3, o4, o5, o6, o7⟩ := numV_head hv.num
 have hnum := numV_iso I hv.num
 obtain ⟨p1, p2, p3, p4, p5, p6, p7⟩ := numV_head hnum
 refine ⟨?_, hnum, by rw [I.decls]; exact hv.decls, ?_, ?_, ?_, ?_, ?_⟩
 ·have := hv.named
  unfold namedV at this ⊢
  have e : roleV h = roleV g := by funext s i; unfold roleV; rw [I.roles]
  rw [I.name, I.roles, e]
  exact this
 ·exact (apartV_iff h).mpr (ApartP.map I (fun x hx => hv.rng hx) ⟨o3, o4⟩ ((apartV_iff g).mp hv.apart))
 ·rw [List.all_eq_true]
  intro x hx
  obtain ⟨y, hy, rfl⟩ := I.mem hx
  have := List.all_eq_true.mp hv.noEnd y hy
  have hne : y.From ≠ g.End := by simpa using this
  have : f y.From ≠ f g.End := fun q => hne (I.inj _ _ (hv.rng hy).1.1 (hv.rng hy).1.2 o5 o6 q)
  rw [I.stop]
  simpa [mapE] using this
 ·refine timeV_of I.tsort ?_
  intro t' ht'
  obtain ⟨t, ht, x, hx, h1, h2, h3⟩ := I.tback t' ht'
  obtain ⟨k1, k2, k3, k4, k5⟩ := timeV_ok hv.time ht
  obtain ⟨y, y1, y2, y3⟩ := timeV_else hv.time ht
  rw [hx] at y1; cases y1
  have hr := hv.rng (idx_memE hx)
  have q := I.rng _ hr.1.1 hr.1.2
  rw [y2] at q
  obtain ⟨z1, z2⟩ := idx_some h3
  refine ⟨by rw [h1]; omega, by rw [h2]; exact k1, by rw [h2]; exact k2, z1, z2, ?_⟩
  unfold elseOk
  rw [h3]
  simp [mapE, y2, y3, h1]
 ·obtain ⟨F, hF, hp⟩ := hv.reach
  obtain ⟨F', _, hF'⟩ := spread_eq (N := 4194305) (by omega) h hnum false h.Start p3 p4
  refine ⟨F', hF', ?_⟩
  rw [I.states, I.start] at hF'
  exact pos_map I hv.num false hF hp hF'
 ·obtain ⟨F, hF, hp⟩ := hv.ends
  obtain ⟨F', _, hF'⟩ := spread_eq (N := 4194305) (by omega) h hnum true h.End p5 p6
  refine ⟨F', hF', ?_⟩
  rw [I.states, I.stop] at hF'
  exact pos_map I hv.num true hF hp hF'
end Gp
end
section
/- Plain law: the numbering runs alike on two automata that differ in the names of states. -/
namespace Gp
open Go Go.Kx Gx
theorem edge_inj {g : T4} (hv : ValidG g) {a b : Int} {x : T2} (ha : idx g.Edges a = some x) (hb : idx g.Edges b = some x) : a = b := by
 obtain ⟨a0, a1⟩ := idx_some ha
 obtain ⟨b0, b1⟩ := idx_some hb
 obtain ⟨i, rfl⟩ : ∃ q : Nat, a = (q : Int) := ⟨a.toNat, by omega⟩
 obtain ⟨j, rfl⟩ : ∃ q : Nat, b = (q : Int) := ⟨b.toNat, by omega⟩
 rw [idx_nat] at ha hb
 by_cases h : i = j
 ·rw [h]
 ·exact absurd rfl (beside_of ((apartV_iff g).mp hv.apart) ha hb h rfl).1
structure Alike (f : Int → Int) (S : Int) (st st' : CSt) : Prop where
 O : st'.O = st.O.map f
 E : st'.E = st.E
 T : st'.T = st.T
 rng : ∀ v ∈ st.O, 0 ≤ v ∧ v < S
theorem vals_cons {g : T4} {k : Int} {x : T2} (h : idx g.Edges k = some x) (L : List Int) : valsOf g (k :: L) = x :: valsOf g L := by
 unfold valsOf
 rw [List.filterMap_cons_some h]
theorem edges_nodup {g : T4} {s : Int} {L : List Int} (h : EdgesAre g s L) : L.Nodup := by
 refine h.1.nodup_iff.mpr ?_
 rw [List.nodup_iff_pairwise_ne]
 exact (placesOf_up g s g.Edges 0).imp (fun h => by omega)
theorem edge_of' {g : T4} {s : Int} {L : List Int} (h : EdgesAre g s L) : ∀ k ∈ L, ∃ m x, k = ((m : Nat) : Int) ∧ g.Edges[m]? = some x ∧ x.From = s := by
 intro k hk
 obtain ⟨m, x, h1, h2, h3⟩ := (placesOf_mem g s g.Edges 0 k).mp (h.1.mem_iff.mp hk)
 exact ⟨m, x, by rw [h3]; simp, h1, h2⟩
theorem vals_srt {g : T4} (hv : ValidG g) (hn : NumE g) {s : Int} {L : List Int} (h : EdgesAre g s L) : SrtE (valsOf g L) :=
 vals_sorted ((apartV_iff g).mp hv.apart) hn h (edges_nodup h) (edge_of' h)
end Gp
end
section
/- Plain law: the canonical automaton is the same one but for the names of states. -/
namespace Gp
open Go Go.Kx Gx
theorem plc_pre : ∀ (l X : List Int) (v : Int) (k : Nat), v ∈ l → plc (l ++ X) v k = plc l v k
 | x :: l, X, v, k, h => by
  show (if x = v then (k : Int) else plc (l ++ X) v (k + 1)) = if x = v then (k : Int) else plc l v (k + 1)
  by_cases hx : x = v
  ·rw [if_pos hx, if_pos hx]
  ·rw [if_neg hx, if_neg hx]
   refine plc_pre l X v (k + 1) ?_
   rcases List.mem_cons.mp h with h | h
   ·exact absurd h.symm hx
   ·exact h
theorem plc_at : ∀ (l : List Int) (v : Int) (i k : Nat), l.Nodup → l[i]? = some v → plc l v k = ((k + i : Nat) : Int)
 | [], v, i, k, _, h => by simp at h
 | x :: l, v, i, k, hn, h => by
  obtain ⟨h1, h2⟩ := List.nodup_cons.mp hn
  show (if x = v then (k : Int) else plc l v (k + 1)) = _
  cases i with
  | zero => simp at h; rw [if_pos h]; simp
  | succ i =>
   have h : l[i]? = some v := by simpa using h
   have : x ≠ v := fun e => h1 (by rw [e]; exact List.mem_of_getElem? h)
   rw [if_neg this, plc_at l v i (k + 1) h2 h]
   congr 1; omega
theorem plc_back : ∀ (l : List Int) (v : Int) (k : Nat), v ∈ l → ∃ i, l[i]? = some v ∧ plc l v k = ((k + i : Nat) : Int)
 | x :: l, v, k, h => by
  show ∃ i, (x :: l)[i]? = some v ∧ (if x = v then (k : Int) else plc l v (k + 1)) = _
  by_cases hx : x = v
  ·exact ⟨0, by simp [hx], by rw [if_pos hx]; simp⟩
  ·rcases List.mem_cons.mp h with h | h
   ·exact absurd h.symm hx
   ·obtain ⟨i, h1, h2⟩ := plc_back l v (k + 1) h
    exact ⟨i + 1, by simpa using h1, by rw [if_neg hx, h2]; congr 1; omega⟩
theorem ord_pre (O : List Int) (v : Int) : ∃ X, ordN O v = O ++ X := by
 unfold ordN; split
 ·exact ⟨[], by simp⟩
 ·exact ⟨[v], rfl⟩
theorem ord_mem (O : List Int) (v : Int) : v ∈ ordN O v := by
 unfold ordN; split
 ·assumption
 ·simp
theorem stepC_some {g : T4} {k : Int} {x : T2} (h : idx g.Edges k = some x) (i : Int) (st : CSt) : stepC g i st k = ⟨st.E ++ [⟨i, x.Act, plc (ordN st.O x.To) x.To 0, x.Again⟩], st.T ++ (tmos g k).map (fun t => ⟨i, t.Ticks, (st.E.length : Int)⟩), ordN st.O x.To⟩ := by
 unfold stepC; rw [h]
/-- The order of the found states is only ever longer. -/
theorem fold_O (g : T4) (i : Int) : ∀ (L : List Int) (st : CSt), ∃ X, (L.foldl (stepC g i) st).O = st.O ++ X
 | [], st => ⟨[], by simp⟩
 | k :: L, st => by
  rw [List.foldl_cons]
  obtain ⟨X, hX⟩ := fold_O g i L (stepC g i st k)
  cases hx : idx g.Edges k with
  | none => exact ⟨X, by rw [hX]; unfold stepC; rw [hx]⟩
  | some x =>
   obtain ⟨Y, hY⟩ := ord_pre st.O x.To
   exact ⟨Y ++ X, by rw [hX, stepC_some hx, hY]; simp⟩
theorem fold_E (g : T4) (i : Int) : ∀ (L : List Int) (st : CSt) (X : List Int), (∀ k ∈ L, ∃ x, idx g.Edges k = some x) →
  (L.foldl (stepC g i) st).E = st.E ++ (valsOf g L).map (fun x => ⟨i, x.Act, plc ((L.foldl (stepC g i) st).O ++ X) x.To 0, x.Again⟩)
 | [], st, X, _ => by simp [valsOf]
 | k :: L, st, X, h => by
  obtain ⟨x, hx⟩ := h k (by simp)
  rw [List.foldl_cons, vals_cons hx, fold_E g i L _ X (fun q hq => h q (by simp [hq]))]
  obtain ⟨Y, hY⟩ := fold_O g i L (stepC g i st k)
  have e1 : (stepC g i st k).O = ordN st.O x.To := by rw [stepC_some hx]
  have e2 : plc ((L.foldl (stepC g i) (stepC g i st k)).O ++ X) x.To 0 = plc (ordN st.O x.To) x.To 0 := by
   rw [hY, e1, List.append_assoc]
   exact plc_pre _ _ _ _ (ord_mem _ _)
  rw [stepC_some hx] at e2 ⊢
  simp only [List.map_cons, e2]
  simp
theorem vals_get {g : T4} : ∀ (L : List Int) (m : Nat) (k : Int), (∀ k ∈ L, ∃ x, idx g.Edges k = some x) → L[m]? = some k → (valsOf g L)[m]? = idx g.Edges k
 | [], m, k, _, h => by simp at h
 | q :: L, m, k, hL, h => by
  obtain ⟨x, hx⟩ := hL q (by simp)
  rw [vals_cons hx]
  cases m with
  | zero => simp at h; subst h; rw [hx]; rfl
  | succ m =>
   rw [List.getElem?_cons_succ] at h ⊢
   exact vals_get L m k (fun r hr => hL r (by simp [hr])) h
/-- The time limits that a state adds: at most one. -/
theorem fold_T0 {g : T4} (i : Int) : ∀ (L : List Int) (st : CSt), (∀ k ∈ L, tmos g k = []) → (L.foldl (stepC g i) st).T = st.T
 | [], st, _ => rfl
 | k :: L, st, h => by
  rw [List.foldl_cons, fold_T0 i L _ (fun q hq => h q (by simp [hq]))]
  unfold stepC
  cases idx g.Edges k with
  | none => rfl
  | some x => simp [h k (by simp)]
theorem fold_T1 {g : T4} (i : Int) (t : T8) : ∀ (L : List Int) (st : CSt), (∀ k ∈ L, ∃ x, idx g.Edges k = some x) → L.Nodup → (∀ k ∈ L, tmos g k = if t.Else = k then [t] else []) → t.Else ∈ L →
  ∃ m, L[m]? = some t.Else ∧ (L.foldl (stepC g i) st).T = st.T ++ [⟨i, t.Ticks, ((st.E.length + m : Nat) : Int)⟩]
 | k :: L, st, hx, hn, ht, hm => by
  obtain ⟨n1, n2⟩ := List.nodup_cons.mp hn
  obtain ⟨x, hk⟩ := hx k (by simp)
  rw [List.foldl_cons]
  by_cases he : t.Else = k
  ·refine ⟨0, by simp [he], ?_⟩
   rw [fold_T0 i L _ (fun q hq => by rw [ht q (by simp [hq]), if_neg (fun e => n1 (by rw [← he, e]; exact hq))]), stepC_some hk, ht k (by simp), if_pos he]
   simp
  ·have hm' : t.Else ∈ L := by
    rcases List.mem_cons.mp hm with h | h
    ·exact absurd h he
    ·exact h
   obtain ⟨m, m1, m2⟩ := fold_T1 i t L (stepC g i st k) (fun q hq => hx q (by simp [hq])) n2 (fun q hq => ht q (by simp [hq])) hm'
   refine ⟨m + 1, by simpa using m1, ?_⟩
   rw [m2, stepC_some hk, ht k (by simp), if_neg he]
   simp; omega
theorem CRun.pre {g : T4} {i : Nat} {st r : CSt} (H : CRun g i st r) : (∃ X, r.O = st.O ++ X) ∧ ∃ Y, r.E = st.E ++ Y := by
 induction H with
 | stop i st h => exact ⟨⟨[], by simp⟩, [], by simp⟩
 | step i st r s L hs hL _ ih =>
  obtain ⟨⟨X, hX⟩, Y, hY⟩ := ih
  obtain ⟨Z, hZ⟩ := fold_O g (i : Int) L st
  have hE := fold_E g (i : Int) L st [] (fun k hk => by obtain ⟨x, hx, _⟩ := (edges_mem hL).1 k hk; exact ⟨x, hx⟩)
  exact ⟨⟨Z ++ X, by rw [hX, hZ]; simp⟩, _, by rw [hY, hE, List.append_assoc]⟩
theorem drop_at {α : Type} {l : List α} {i : Nat} {x : α} (h : l[i]? = some x) : l.drop i = x :: l.drop (i + 1) := by
 obtain ⟨h1, h2⟩ := List.getElem?_eq_some_iff.mp h
 rw [List.drop_eq_getElem_cons h1, h2]
/-- What a state adds to the edges, under the numbers of the whole run. -/
theorem block {g : T4} {i : Nat} {st r : CSt} {s : Int} {L : List Int} (hs : st.O[i]? = some s) (hL : EdgesAre g s L) (H : CRun g (i + 1) (L.foldl (stepC g (i : Int)) st) r) (hnd : r.O.Nodup) :
  r.O[i]? = some s ∧ plc r.O s 0 = (i : Int) ∧ (L.foldl (stepC g (i : Int)) st).E = st.E ++ (valsOf g L).map (mapE fun v => plc r.O v 0) := by
 obtain ⟨⟨X, hX⟩, _⟩ := H.pre
 obtain ⟨Z, hZ⟩ := fold_O g (i : Int) L st
 have hlt := (List.getElem?_eq_some_iff.mp hs).1
 have h1 : r.O[i]? = some s := by rw [hX, hZ, List.append_assoc, List.getElem?_append_left hlt]; exact hs
 have h2 : plc r.O s 0 = (i : Int) := by rw [plc_at r.O s i 0 hnd h1]; simp
 refine ⟨h1, h2, ?_⟩
 rw [fold_E g (i : Int) L st X (fun k hk => by obtain ⟨x, hx, _⟩ := (edges_mem hL).1 k hk; exact ⟨x, hx⟩), ← hX]
 congr 1
 refine List.map_congr_left ?_
 intro x hx
 have hf : x.From = s := (vals_mem hL hx).2
 unfold mapE
 rw [hf]
 simp only [h2]
theorem run_E {g : T4} {i : Nat} {st r : CSt} (H : CRun g i st r) (hnd : r.O.Nodup) : r.E.Perm (st.E ++ (r.O.drop i).flatMap fun s => (g.Edges.filter fun x => x.From == s).map (mapE fun v => plc r.O v 0)) := by
 induction H with
 | stop i st h => rw [List.drop_eq_nil_of_le h]; simp
 | step i st r s L hs hL H ih =>
  obtain ⟨h1, h2, h3⟩ := block hs hL H hnd
  refine (ih hnd).trans ?_
  rw [h3, drop_at h1, List.flatMap_cons, List.append_assoc]
  refine List.Perm.append_left _ (List.Perm.append_right _ ?_)
  exact (vals_perm hL).map _
theorem flat_perm (E : List T2) : ∀ (O : List Int), O.Nodup → (O.flatMap fun s => E.filter fun x => x.From == s).Perm (E.filter fun x => decide (x.From ∈ O))
 | [], _ => by simp
 | s :: O, h => by
  obtain ⟨h1, h2⟩ := List.nodup_cons.mp h
  rw [List.flatMap_cons]
  have := List.filter_append_perm (fun x : T2 => x.From == s) (E.filter fun x => decide (x.From ∈ s :: O))
  refine List.Perm.trans ?_ this
  rw [List.filter_filter, List.filter_filter]
  refine List.Perm.append (List.Perm.of_eq ?_) ((flat_perm E O h2).trans (List.Perm.of_eq ?_))
  ·refine List.filter_congr ?_
   intro x _
   by_cases hx : x.From = s
   ·simp [hx]
   ·simp [hx]
  ·refine List.filter_congr ?_
   intro x _
   by_cases hx : x.From = s
   ·simp [hx, h1]
   ·simp [hx]
/-- The time limits so far: of the states below the i-th. -/
structure TInv (g : T4) (F : Int → Int) (E' : List T2) (i : Nat) (T : List T8) : Prop where
 sort : T.Pairwise (fun a b => a.State < b.State)
 below : ∀ t ∈ T, t.State < (i : Int)
 back : ∀ t' ∈ T, ∃ t ∈ g.Timeouts, ∃ x, idx g.Edges t.Else = some x ∧ t'.State = F t.State ∧ t'.Ticks = t.Ticks ∧ idx E' t'.Else = some (mapE F x)
 forw : ∀ t ∈ g.Timeouts, 0 ≤ F t.State → F t.State < (i : Int) → ∀ x, idx g.Edges t.Else = some x → ∃ t' ∈ T, t'.State = F t.State ∧ t'.Ticks = t.Ticks ∧ idx E' t'.Else = some (mapE F x)
theorem tmos_of {g : T4} (hv : ValidG g) {s k : Int} {x : T2} (hx : idx g.Edges k = some x) (hf : x.From = s) : tmos g k = match g.Timeouts.find? (fun t => t.State == s) with | some t => if t.Else = k then [t] else [] | none => [] := by
 refine filt s k g.Timeouts (timeV_sorted hv.time) ?_
 intro t ht hte
 obtain ⟨y, y1, y2, _⟩ := timeV_else hv.time ht
 rw [hte, hx] at y1
 cases y1
 rw [← y2, hf]
theorem find_uniq {l : List T8} (hp : l.Pairwise (fun a b => a.State < b.State)) {t : T8} (ht : t ∈ l) : l.find? (fun u => u.State == t.State) = some t := by
 induction l with
 | nil => cases ht
 | cons a l ih =>
  obtain ⟨h1, h2⟩ := List.pairwise_cons.mp hp
  rw [List.find?_cons]
  rcases List.mem_cons.mp ht with h | h
  ·subst h; simp
  ·have := h1 t h
   rw [show (a.State == t.State) = false by simp; omega]
   exact ih h2 h
theorem run_T {g : T4} (hv : ValidG g) {i : Nat} {st r : CSt} (H : CRun g i st r) (hnd : r.O.Nodup) : TInv g (fun v => plc r.O v 0) r.E i st.T → ∃ n, r.O.length ≤ n ∧ TInv g (fun v => plc r.O v 0) r.E n r.T := by
 induction H with
 | stop i st h => intro hT; exact ⟨i, h, hT⟩
 | step i st r s L hs hL H ih =>
  intro hT
  obtain ⟨h1, h2, h3⟩ := block hs hL H hnd
  have hLx := (edges_mem hL).1
  have hLx' : ∀ k ∈ L, ∃ x, idx g.Edges k = some x := fun k hk => by obtain ⟨x, hx, _⟩ := hLx k hk; exact ⟨x, hx⟩
  obtain ⟨_, Y, hY⟩ := H.pre
  apply ih hnd
  have hat : ∀ t ∈ g.Timeouts, 0 ≤ plc r.O t.State 0 → plc r.O t.State 0 < ((i + 1 : Nat) : Int) → plc r.O t.State 0 < (i : Int) ∨ t.State = s := by
   intro t ht a b
   by_cases c : plc r.O t.State 0 < (i : Int)
   ·exact .inl c
   ·right
    obtain ⟨q, q1, q2⟩ := plc_back r.O t.State 0 ((plc_mem _ _ _).1.mp a)
    have : q = i := by omega
    subst this
    rw [h1] at q1; cases q1; rfl
  cases hf : g.Timeouts.find? (fun t => t.State == s) with
  | none =>
   have hz : (L.foldl (stepC g (i : Int)) st).T = st.T := fold_T0 (i : Int) L st (fun k hk => by
    obtain ⟨x, hx, hxf⟩ := hLx k hk
    rw [tmos_of hv hx hxf, hf])
   rw [hz]
   refine ⟨hT.sort, fun t ht => by have := hT.below t ht; omega, hT.back, ?_⟩
   intro t ht a b
   rcases hat t ht a b with c | c
   ·exact hT.forw t ht a c
   ·have := List.find?_eq_none.mp hf t ht
    simp [c] at this
  | some t0 =>
   have t0m := List.mem_of_find?_eq_some hf
   have t0s : t0.State = s := by have := List.find?_some hf; simpa using this
   obtain ⟨x0, x1, x2, _⟩ := timeV_else hv.time t0m
   have hin : t0.Else ∈ L := by
    obtain ⟨k, k1, k2⟩ := (edges_mem hL).2 x0 (idx_memE x1) (by rw [x2, t0s])
    rw [edge_inj hv x1 k2]; exact k1
   obtain ⟨m, m1, m2⟩ := fold_T1 (i : Int) t0 L st hLx' (edges_nodup hL) (fun k hk => by
    obtain ⟨x, hx, hxf⟩ := hLx k hk
    rw [tmos_of hv hx hxf, hf]) hin
   have hx0 : idx r.E ((st.E.length + m : Nat) : Int) = some (mapE (fun v => plc r.O v 0) x0) := by
    have hg := vals_get L m t0.Else hLx' m1
    rw [x1] at hg
    have hml := (List.getElem?_eq_some_iff.mp hg).1
    rw [idx_nat, hY, h3, List.append_assoc, List.getElem?_append_right (by omega), List.getElem?_append_left (by simp; omega)]
    rw [show st.E.length + m - st.E.length = m by omega, List.getElem?_map, hg]; rfl
   rw [m2]
   refine ⟨?_, ?_, ?_, ?_⟩
   ·rw [List.pairwise_append]
    refine ⟨hT.sort, by simp, ?_⟩
    intro a ha b hb
    simp at hb; subst hb
    exact hT.below a ha
   ·intro t ht
    rcases List.mem_append.mp ht with ht | ht
    ·have := hT.below t ht; omega
    ·simp at ht; subst ht; show (i : Int) < _; omega
   ·intro t ht
    rcases List.mem_append.mp ht with ht | ht
    ·exact hT.back t ht
    ·simp at ht; subst ht
     exact ⟨t0, t0m, x0, x1, by show (i : Int) = plc r.O t0.State 0; rw [t0s, h2], rfl, hx0⟩
   ·intro t ht a b x hx
    rcases hat t ht a b with c | c
    ·obtain ⟨t', a1, a2⟩ := hT.forw t ht a c x hx
     exact ⟨t', by simp [a1], a2⟩
    ·have := find_uniq (timeV_sorted hv.time) ht
     rw [c, hf] at this
     cases this
     rw [x1] at hx; cases hx
     exact ⟨⟨(i : Int), t0.Ticks, ((st.E.length + m : Nat) : Int)⟩, List.mem_append.mpr (.inr (by simp)), by show (i : Int) = plc r.O t0.State 0; rw [t0s, h2], rfl, hx0⟩
/-- The canonical automaton is the same but for the names of states. -/
theorem canon_is {g r : T4} (hv : ValidG g) {st : CSt} (hc : CanonOf g r st) : Iso g r (fun v => plc st.O v 0) := by
 obtain ⟨o1, o2, o3, o4, o5, o6, o7⟩ := numV_head hv.num
 have hI := hc.inv
 have hlen := hc.len
 have hin : ∀ v, 0 ≤ v → v < g.States → v ∈ st.O := by
  intro v v0 v1
  obtain ⟨u, u0, u1, hu⟩ := surj st.O.length (fun k => st.O[k.toNat]?.getD 0) (by
   intro w a b
   obtain ⟨k, rfl⟩ : ∃ k : Nat, w = (k : Int) := ⟨w.toNat, by omega⟩
   have hk : k < st.O.length := by omega
   have := hI.range st.O[k] (List.getElem_mem hk)
   simp only [Int.toNat_natCast, List.getElem?_eq_getElem hk, Option.getD_some]
   omega) (by
   intro w z a b c d e
   obtain ⟨k, rfl⟩ : ∃ k : Nat, w = (k : Int) := ⟨w.toNat, by omega⟩
   obtain ⟨j, rfl⟩ : ∃ k : Nat, z = (k : Int) := ⟨z.toNat, by omega⟩
   have hk : k < st.O.length := by omega
   have hj : j < st.O.length := by omega
   simp only [Int.toNat_natCast, List.getElem?_eq_getElem hk, List.getElem?_eq_getElem hj, Option.getD_some] at e
   have := (List.getElem_inj hI.nodup).mp e
   omega) v v0 (by omega)
  obtain ⟨k, rfl⟩ : ∃ k : Nat, u = (k : Int) := ⟨u.toNat, by omega⟩
  have hk : k < st.O.length := by omega
  simp only [Int.toNat_natCast, List.getElem?_eq_getElem hk, Option.getD_some] at hu
  rw [← hu]; exact List.getElem_mem hk
 have hpos : ∀ v, 0 ≤ v → v < g.States → ∃ i : Nat, st.O[i]? = some v ∧ plc st.O v 0 = (i : Int) := by
  intro v v0 v1
  obtain ⟨i, i1, i2⟩ := plc_back st.O v 0 (hin v v0 v1)
  exact ⟨i, i1, by rw [i2]; simp⟩
 obtain ⟨⟨X, hX⟩, _⟩ := hc.run.pre
 obtain ⟨n, n1, hT⟩ := run_T hv hc.run hI.nodup ⟨by simp, by simp, by simp, by intro t ht a b; omega⟩
 have rE : r.Edges = st.E := by rw [hc.eq]
 have rT : r.Timeouts = st.T := by rw [hc.eq]
 refine ⟨by rw [hc.eq], by rw [hc.eq], by rw [hc.eq], by rw [hc.eq], ?_, ?_, ?_, by rw [hc.eq], ?_, by rw [rT]; exact hT.sort, ?_, ?_⟩
 ·intro v v0 v1
  obtain ⟨i, i1, i2⟩ := hpos v v0 v1
  have := (List.getElem?_eq_some_iff.mp i1).1
  show 0 ≤ plc st.O v 0 ∧ plc st.O v 0 < g.States
  omega
 ·intro u v u0 u1 v0 v1 e
  obtain ⟨i, i1, i2⟩ := hpos u u0 u1
  obtain ⟨j, j1, j2⟩ := hpos v v0 v1
  have e : plc st.O u 0 = plc st.O v 0 := e
  have : i = j := by omega
  subst this
  rw [i1] at j1; cases j1; rfl
 ·rw [hc.eq, hX]
  show (0 : Int) = plc (g.Start :: X) g.Start 0
  unfold plc; rw [if_pos rfl]; rfl
 ·rw [rE]
  refine (run_E hc.run hI.nodup).trans ?_
  rw [List.nil_append, List.drop_zero, ← List.map_flatMap]
  refine List.Perm.map _ ((flat_perm g.Edges st.O hI.nodup).trans (List.Perm.of_eq ?_))
  refine List.filter_eq_self.mpr ?_
  intro x hx
  have := hv.rng hx
  exact decide_eq_true (hin _ this.1.1 this.1.2)
 ·rw [rT, rE]; exact hT.back
 ·rw [rT, rE]
  intro t ht x hx
  obtain ⟨y, y1, y2, _⟩ := timeV_else hv.time ht
  have hr := hv.rng (idx_memE y1)
  rw [y2] at hr
  obtain ⟨i, i1, i2⟩ := hpos t.State hr.1.1 hr.1.2
  have := (List.getElem?_eq_some_iff.mp i1).1
  exact hT.forw t ht (by rw [i2]; omega) (by rw [i2]; omega) x hx
end Gp
end
section
/- Plain law: the words of two automata that differ in the names of states are the same. -/
namespace Gp
open Go Go.Kx Gx
/-- A word leads to the states of the same name. -/
def At (g h : T4) (f : Int → Int) (w : Word) : Prop := runV h h.Start w = f (runV g g.Start w) ∧ 0 ≤ runV g g.Start w ∧ runV g g.Start w < g.States
theorem kids_vals {g : T4} (w : Word) : ∀ (L : List Int), (∀ k ∈ L, ∃ x, idx g.Edges k = some x) → kids g w L = (valsOf g L).map fun x => w ++ [x.Act]
 | [], _ => rfl
 | k :: L, h => by
  obtain ⟨x, hx⟩ := h k (by simp)
  rw [vals_cons hx, List.map_cons, ← kids_vals w L (fun q hq => h q (by simp [hq]))]
  show (w ++ [actOf g k]) :: kids g w L = _
  rw [show actOf g k = x.Act by unfold actOf; rw [hx]]
theorem kids_alike {g h : T4} {f : Int → Int} (I : Iso g h f) (hv : ValidG g) (hv' : ValidG h) (hn : NumE g) (hn' : NumE h) {w : Word} (hw : At g h f w) {L M : List Int} (hL : EdgesAre g (runV g g.Start w) L) (hM : EdgesAre h (runV h h.Start w) M) : kids h w M = kids g w L ∧ ∀ v ∈ kids g w L, At g h f v := by
 have hLx : ∀ k ∈ L, ∃ x, idx g.Edges k = some x := fun k hk => by obtain ⟨x, hx, _⟩ := (edges_mem hL).1 k hk; exact ⟨x, hx⟩
 have hMx : ∀ k ∈ M, ∃ x, idx h.Edges k = some x := fun k hk => by obtain ⟨x, hx, _⟩ := (edges_mem hM).1 k hk; exact ⟨x, hx⟩
 obtain ⟨w1, w2, w3⟩ := hw
 rw [w1] at hM
 have he := vals_iso I (fun x hx => (hv.rng hx).1) w2 w3 hL hM (vals_srt hv hn hL) (vals_srt hv' hn' hM)
 constructor
 ·rw [kids_vals w L hLx, kids_vals w M hMx, he, List.map_map]; rfl
 ·intro v hv1
  rw [kids_vals w L hLx] at hv1
  obtain ⟨x, hx, rfl⟩ := List.mem_map.mp hv1
  obtain ⟨x1, x2⟩ := vals_mem hL hx
  obtain ⟨i, hi⟩ := List.mem_iff_getElem?.mp x1
  obtain ⟨j, hj⟩ := List.mem_iff_getElem?.mp (I.mem' x1)
  have n1 := next_edge hv.apart hi
  have n2 := next_edge hv'.apart hj
  have e1 : runV g g.Start (w ++ [x.Act]) = x.To := by
   rw [runV_app]
   show ((nextV g (runV g g.Start w) x.Act).getD (0, false)).1 = _
   rw [← x2, n1]; rfl
  have e2 : runV h h.Start (w ++ [x.Act]) = f x.To := by
   rw [runV_app]
   show ((nextV h (runV h h.Start w) x.Act).getD (0, false)).1 = _
   rw [w1, ← x2]
   have : nextV h (f x.From) x.Act = some (f x.To, true) := n2
   rw [this]; rfl
  have hr := hv.rng x1
  unfold At
  rw [e1, e2]
  exact ⟨rfl, hr.2⟩
theorem words_alike {g h : T4} {f : Int → Int} (I : Iso g h f) (hv : ValidG g) (hv' : ValidG h) (hn : NumE g) (hn' : NumE h) {nn : Nat} : ∀ {i : Nat} {out : List Word} {r r' : List Word × Int}, WRun g nn i out r → WRun h nn i out r' → (∀ w ∈ out, At g h f w) → r' = r ∧ ∀ w ∈ r.1, At g h f w := by
 intro i out r r' H
 induction H with
 | stop i out h1 =>
  intro H' hA
  cases H' with
  | stop => exact ⟨rfl, hA⟩
  | full _ _ _ h2 => exact absurd (List.getElem?_eq_some_iff.mp h2).1 (by omega)
  | over _ _ _ _ h2 => exact absurd (List.getElem?_eq_some_iff.mp h2).1 (by omega)
  | step _ _ _ _ _ h2 => exact absurd (List.getElem?_eq_some_iff.mp h2).1 (by omega)
 | full i out w h1 h2 =>
  intro H' hA
  cases H' with
  | stop _ _ h3 => exact absurd (List.getElem?_eq_some_iff.mp h1).1 (by omega)
  | full => exact ⟨rfl, hA⟩
  | over _ _ _ _ h3 h4 => rw [h1] at h3; cases h3; omega
  | step _ _ _ _ _ h3 h4 => rw [h1] at h3; cases h3; omega
 | over i out w L h1 h2 h3 h4 =>
  intro H' hA
  cases H' with
  | stop _ _ h5 => exact absurd (List.getElem?_eq_some_iff.mp h1).1 (by omega)
  | full _ _ _ h5 h6 => rw [h1] at h5; cases h5; omega
  | over => exact ⟨rfl, fun w hw => by cases hw⟩
  | step _ _ _ M _ h5 h6 h7 h8 =>
   rw [h1] at h5; cases h5
   rw [(kids_alike I hv hv' hn hn' (hA w (List.mem_of_getElem? h1)) h3 h7).1] at h8
   exact absurd h4 h8
 | step i out w L r h1 h2 h3 h4 _ ih =>
  intro H' hA
  cases H' with
  | stop _ _ h5 => exact absurd (List.getElem?_eq_some_iff.mp h1).1 (by omega)
  | full _ _ _ h5 h6 => rw [h1] at h5; cases h5; omega
  | over _ _ _ M h5 h6 h7 h8 =>
   rw [h1] at h5; cases h5
   rw [(kids_alike I hv hv' hn hn' (hA w (List.mem_of_getElem? h1)) h3 h7).1] at h8
   exact absurd h8 h4
  | step _ _ _ M _ h5 h6 h7 h8 h9 =>
   rw [h1] at h5; cases h5
   obtain ⟨k1, k2⟩ := kids_alike I hv hv' hn hn' (hA w (List.mem_of_getElem? h1)) h3 h7
   rw [k1] at h9
   refine ih h9 ?_
   intro v hm
   rcases List.mem_append.mp hm with hm | hm
   ·exact hA v hm
   ·exact k2 v hm
theorem Iso.num {g h : T4} {f : Int → Int} (I : Iso g h f) (hn : NumE g) : NumE h := by
 intro e he
 obtain ⟨y, hy, rfl⟩ := I.mem he
 exact hn y hy
theorem Iso.sizeN {g h : T4} {f : Int → Int} (I : Iso g h f) (hs : SizeN g) : SizeN h :=
 ⟨by rw [I.name]; exact hs.n, by rw [I.roles]; exact hs.r, by rw [I.decls]; exact hs.d⟩
theorem Iso.tlen {g h : T4} {f : Int → Int} (I : Iso g h f) (hv : ValidG g) : h.Timeouts.length ≤ 200 := by
 obtain ⟨o1, o2, o3, o4, o5, o6, o7⟩ := numV_head hv.num
 have hr : ∀ t ∈ h.Timeouts, 0 ≤ t.State ∧ t.State < g.States := by
  intro t' ht'
  obtain ⟨t, ht, x, hx, h1, _⟩ := I.tback t' ht'
  obtain ⟨y, y1, y2, _⟩ := timeV_else hv.time ht
  have := hv.rng (idx_memE y1)
  rw [h1, ← y2]
  exact I.rng _ this.1.1 this.1.2
 have hnd : (h.Timeouts.map fun t => t.State.toNat).Nodup := by
  rw [List.nodup_iff_pairwise_ne, List.pairwise_map]
  refine List.Pairwise.imp_of_mem ?_ I.tsort
  intro a b ha hb hlt hc
  have := hr a ha; have := hr b hb
  omega
 have := hnd.length_le_of_subset (l₂ := List.range 200) (by
  intro v hm
  obtain ⟨t, ht, rfl⟩ := List.mem_map.mp hm
  have := hr t ht
  exact List.mem_range.mpr (by omega))
 simpa using this
theorem Iso.sizeG {g h : T4} {f : Int → Int} (I : Iso g h f) (hv : ValidG g) (hs : SizeG g) : SizeG h :=
 ⟨by rw [I.roles]; exact hs.r, by rw [I.decls]; exact hs.d, by rw [I.decls]; exact hs.dd, by rw [I.len]; exact hs.e, by have := I.tlen hv; omega⟩
end Gp
end
section
/- What the arguments hold that the statement reads: sizes and numbers within their kinds. -/
namespace Gx
open Go Go.Kx
def k_api_Sort (x : T7) : Prop := ((Lit.int .i64 x.Kind).wf = true) ∧ ((Lit.int .i64 x.Lo).wf = true) ∧ ((Lit.int .i64 x.Hi).wf = true)
def k_api_Field (x : T3) : Prop := (x.Name.size ≤ bd) ∧ (k_api_Sort x.Sort')
def k_api_Diff (x : T1) : Prop := ((Lit.int .i64 x.X).wf = true) ∧ ((Lit.int .i64 x.Y).wf = true) ∧ ((Lit.int .i64 x.C).wf = true)
def k_api_Guard (x : T5) : Prop := (x.Diffs.length ≤ bd ∧ ∀ y ∈ x.Diffs, k_api_Diff y) ∧ (x.Equals.length ≤ bd ∧ ∀ y ∈ x.Equals, ((Lit.int .i64 y.1).wf = true) ∧ ((Lit.int .i64 y.2).wf = true))
def k_api_Decl (x : T0) : Prop := (x.Name.size ≤ bd) ∧ (x.Fields.length ≤ bd ∧ ∀ y ∈ x.Fields, k_api_Field y) ∧ ((Lit.int .i64 x.First).wf = true) ∧ (k_api_Guard x.Guard)
def k_api_Interaction (x : T6) : Prop := ((Lit.int .i64 x.From).wf = true) ∧ ((Lit.int .i64 x.To).wf = true) ∧ ((Lit.int .i64 x.Label).wf = true)
def k_api_Edge (x : T2) : Prop := ((Lit.int .i64 x.From).wf = true) ∧ (k_api_Interaction x.Act) ∧ ((Lit.int .i64 x.To).wf = true) ∧ (True)
def k_api_Timeout (x : T8) : Prop := ((Lit.int .i64 x.State).wf = true) ∧ ((Lit.int .i64 x.Ticks).wf = true) ∧ ((Lit.int .i64 x.Else).wf = true)
def k_api_Global (x : T4) : Prop := (x.Name.size ≤ bd) ∧ (x.Roles.length ≤ bd ∧ ∀ y ∈ x.Roles, y.size ≤ bd) ∧ (x.Decls.length ≤ bd ∧ ∀ y ∈ x.Decls, k_api_Decl y) ∧ ((Lit.int .i64 x.States).wf = true) ∧ ((Lit.int .i64 x.Start).wf = true) ∧ ((Lit.int .i64 x.End).wf = true) ∧ (x.Edges.length ≤ bd ∧ ∀ y ∈ x.Edges, k_api_Edge y) ∧ (x.Timeouts.length ≤ bd ∧ ∀ y ∈ x.Timeouts, k_api_Timeout y)
end Gx
end
section
/- Plain law: what the sizes of arguments give. -/
namespace Gp
open Go Go.Kx Gx
theorem sizeD_of {x : T0} (h : k_api_Decl x) : SizeD x := by
 obtain ⟨_, h1, _, h2⟩ := h
 exact ⟨by have := h1.1; unfold bd at this; omega, by have := h2.1.1; unfold bd at this; omega, by have := h2.2.1; unfold bd at this; omega⟩
theorem sizeG_of {x : T4} (h : k_api_Global x) : SizeG x := by
 obtain ⟨_, h1, h2, _, _, _, h3, h4⟩ := h
 exact ⟨by have := h1.1; unfold bd at this; omega, by have := h2.1; unfold bd at this; omega, fun d hd => sizeD_of (h2.2 d hd), by have := h3.1; unfold bd at this; omega, by have := h4.1; unfold bd at this; omega⟩
theorem numE_of {x : T4} (h : k_api_Global x) : NumE x := by
 obtain ⟨_, h1, h2, _, _, _, h3, h4⟩ := h
 intro e he
 have := (h3.2 e he).2.1
 exact ⟨I64.of this.2.1, I64.of this.2.2⟩
theorem nameD_of {x : T0} (h : k_api_Decl x) : NameD x := by
 obtain ⟨h0, h1, _, h2⟩ := h
 exact ⟨by unfold bd at h0; omega, fun f hf => by have := (h1.2 f hf).1; unfold bd at this; omega⟩
theorem sizeN_of {x : T4} (h : k_api_Global x) : SizeN x := by
 obtain ⟨h0, h1, h2, _⟩ := h
 exact ⟨by unfold bd at h0; omega, fun s hs => by have := h1.2 s hs; unfold bd at this; omega, fun d hd => nameD_of (h2.2 d hd)⟩
end Gp
end
section
open Go Go.Kx Gx
set_option maxRecDepth 100000
theorem awake_c (n : Nat) : z12 (n + 300) = some true := by kernel_rfl
end
section
/- Plain law: the canonical automaton has the same words, and behind them the same time limits. -/
namespace Gp
open Go Go.Kx Gx
variable {N : Nat}
theorem allT {α : Type} : ∀ (l : List α) (k : Nat), allV (fun (_ : α) (_ : Nat) => true) l k = true
 | [], _ => rfl
 | x :: l, k => by show (true && allV _ l (k + 1)) = true; rw [allT l]; rfl
theorem sameWords_refl (hN : 4194304 < N) (A : List Word) (hA : A.length ≤ 3000) (hw : ∀ w ∈ A, w.length ≤ 1000) : z16 N A A = some true := by
 unfold z16
 have h0 : ((A.length : Int) != (A.length : Int)) = false := by simp
 rw [h0, cond_false, allV_from (fun _ _ => true) (xs := A) (F := z16_l2 N A A) (e := some true) (by omega), allT]
 ·rfl
 ·intro n k w hk hx
  have hwl := hw w (List.mem_of_getElem? hx)
  have h1 : ((w.length : Int) != (w.length : Int)) = false := by simp
  have inner : z16_l4 A A (k : Int) (z16_l2 N A A n) w N (0 : Int) = z16_k3 (k : Int) (z16_l2 N A A n) := by
   rw [allV_from (fun _ _ => true) (xs := w) (F := z16_l4 A A (k : Int) (z16_l2 N A A n) w) (e := z16_k3 (k : Int) (z16_l2 N A A n)) (by omega), allT]
   ·rfl
   ·intro m i a hi ha
    simp only [z16_l4, lt_t hi, cond_true, idx_nat, hx, ha, Option.bind_some, (eqAct_iff a a).mpr rfl, Bool.not_true, cond_false]
    rw [w64_succ (by omega)]
   ·intro m i hi
    simp only [z16_l4, lt_f hi, cond_false]
  simp only [z16_l2, lt_t hk, cond_true, idx_nat, hx, Option.bind_some, h1, cond_false, inner, z16_k3]
  rw [w64_succ (by omega)]
 ·intro n k hk
  simp only [z16_l2, lt_f hk, cond_false, z16_k1]
theorem words_run (hN : 16777216 < N) (g : T4) (hn : NumE g) (hv : ValidG g) (hV : z22 N g = some true) : ∃ r, z14 N g (4 : Int) = some r ∧ r.1.length ≤ 3000 ∧ (∀ w ∈ r.1, w.length ≤ 100) ∧ WRun g 4 0 [([] : Word)] r := by
 obtain ⟨o1, o2, o3, o4, o5, o6, o7⟩ := numV_head hv.num
 unfold z14
 rw [hV]
 simp only [Option.bind_some, Bool.not_true, cond_false, show decide ((4 : Int) < 0) = false from rfl, show decide ((4 : Int) > 12) = false from rfl]
 have hI : WInv g 4 0 [([] : Word)] [g.Start] := by
  refine ⟨rfl, ?_, by simp, ?_, ?_, by simp, by simp⟩
  ·intro j w hj
   cases j with
   | zero => simp at hj; subst hj; rfl
   | succ j => simp at hj
  ·intro j k v w hjk hj hk
   cases k with
   | zero =>
    have : j = 0 := by omega
    subst this
    rw [hj] at hk; cases hk; exact Nat.le_refl _
   | succ k => simp at hk
  ·intro w _ v hv'; simp at hv'; subst hv'; simp
 rcases words_out hN g hv hn o7 4 (by omega) N N 0 [([] : Word)] [g.Start] (by omega) (by omega) (by omega) (by omega) hI with ⟨w1, w2, w3⟩ | ⟨A, X, a1, a2, a3, a4, a5, a6, a7⟩
 ·exact ⟨([], 6), w1, by simp, by simp, w3⟩
 ·exact ⟨(A, 0), a4, a2, fun w hw => by have := a3 w hw; omega, a7⟩
/-- The time limit of a state, and the interaction that it leads to. -/
def limV (g : T4) (s : Int) (l : List T8) : Int × T6 :=
 match l.find? (fun t => t.State == s) with
 | some t => (t.Ticks, actOf g t.Else)
 | none => (0, ⟨0, 0, 0⟩)
theorem limit_loop (g : T4) (hv : ValidG g) (hT : g.Timeouts.length ≤ 4194304) (s : Int) : ∀ (l : List T8) (k n : Nat), g.Timeouts.drop k = l → l.length < n → z25_l2 g s n (k : Int) = some (limV g s l) := by
 intro l
 induction l with
 | nil =>
  intro k n h hn
  obtain ⟨n, rfl⟩ : ∃ m, n = m + 1 := ⟨n - 1, by simp at hn; omega⟩
  simp only [z25_l2, lt_f (drop_nil h), cond_false, z25_k1]
  rfl
 | cons t l ih =>
  intro k n h hn
  obtain ⟨n, rfl⟩ : ∃ m, n = m + 1 := ⟨n - 1, by simp at hn; omega⟩
  obtain ⟨hk, ht, hdr⟩ := drop_cons h
  obtain ⟨x, x1, _⟩ := timeV_else hv.time (List.mem_of_getElem? ht)
  simp only [z25_l2, lt_t hk, cond_true, idx_nat, ht, Option.bind_some, x1]
  cases hc : (t.State == s)
  ·rw [cond_false, w64_succ (by omega), ih (k + 1) n hdr (by simp at hn; omega)]
   unfold limV
   rw [List.find?_cons, hc]
  ·rw [cond_true]
   unfold limV
   rw [List.find?_cons, hc]
   simp [actOf, x1]
theorem limit_alike {g h : T4} {f : Int → Int} (I : Iso g h f) (hv : ValidG g) {s : Int} (s0 : 0 ≤ s) (s1 : s < g.States) : limV h (f s) h.Timeouts = limV g s g.Timeouts := by
 unfold limV
 cases hf : g.Timeouts.find? (fun t => t.State == s) with
 | some t =>
  have tm := List.mem_of_find?_eq_some hf
  have ts : t.State = s := by have := List.find?_some hf; simpa using this
  obtain ⟨x, x1, _⟩ := timeV_else hv.time tm
  obtain ⟨t', a, b, c, d⟩ := I.tforw t tm x x1
  have := find_uniq I.tsort a
  rw [b, ts] at this
  rw [this]
  simp [c, actOf, d, x1, mapE]
 | none =>
  cases hg : h.Timeouts.find? (fun t => t.State == f s) with
  | none => rfl
  | some t' =>
   exfalso
   have tm := List.mem_of_find?_eq_some hg
   have ts : t'.State = f s := by have := List.find?_some hg; simpa using this
   obtain ⟨t, a, x, b, c, _⟩ := I.tback t' tm
   obtain ⟨y, y1, y2, _⟩ := timeV_else hv.time a
   have hr := hv.rng (idx_memE y1)
   rw [y2] at hr
   have e := I.inj t.State s hr.1.1 hr.1.2 s0 s1 (by rw [← c, ts])
   have := List.find?_eq_none.mp hf t a
   simp [e] at this
theorem same_in (hN : 4194304 < N) (g : T4) (x7 : T4 × Int) (hg : g.Edges.length ≤ 4194304) (hc : x7.1.Edges.length ≤ 4194304) (i : Int) (ag : Int → Option Bool) (w : Word) (hw : w.length ≤ 1000) :
  ∀ (l : Word) (k n : Nat) (s t : Int), w.drop k = l → l.length < n → law18_GlobalSame_l4 N g x7 i ag w n s t (k : Int) = law18_GlobalSame_k3 N g x7 i ag (runV g s l) (runV x7.1 t l) := by
 intro l
 induction l with
 | nil =>
  intro k n s t h hn
  obtain ⟨n, rfl⟩ : ∃ m, n = m + 1 := ⟨n - 1, by simp at hn; omega⟩
  simp only [law18_GlobalSame_l4, lt_f (drop_nil h), cond_false]
  rfl
 | cons a l ih =>
  intro k n s t h hn
  obtain ⟨n, rfl⟩ : ∃ m, n = m + 1 := ⟨n - 1, by simp at hn; omega⟩
  obtain ⟨hk, ha, hdr⟩ := drop_cons h
  obtain ⟨v, hv⟩ := next_some g s a
  obtain ⟨u, hu⟩ := next_some x7.1 t a
  simp only [law18_GlobalSame_l4, lt_t hk, cond_true, idx_nat, ha, Option.bind_some, Next_eq hN g hg, Next_eq hN x7.1 hc, hv, hu]
  rw [w64_succ (by omega), ih (k + 1) n _ _ hdr (by simp at hn; omega)]
  show _ = law18_GlobalSame_k3 N g x7 i ag (runV g ((nextV g s a).getD (0, false)).1 l) (runV x7.1 ((nextV x7.1 t a).getD (0, false)).1 l)
  rw [hv, hu]; rfl
theorem same_out (hN : 4194304 < N) {g c : T4} {f : Int → Int} (I : Iso g c f) (hv : ValidG g) (hvc : ValidG c) (hg : g.Edges.length ≤ 4194304) (hT : g.Timeouts.length ≤ 4194304) (hT' : c.Timeouts.length ≤ 4194304) (r : List Word × Int) (hr : r.1.length ≤ 3000) (hw : ∀ w ∈ r.1, w.length ≤ 100) (hA : ∀ w ∈ r.1, At g c f w) :
  ∀ (l : List Word) (k n : Nat), r.1.drop k = l → l.length < n → law18_GlobalSame_l2 N g (c, 0) r n (k : Int) = some true := by
 obtain ⟨o1, o2, o3, o4, o5, o6, o7⟩ := numV_head hv.num
 intro l
 induction l with
 | nil =>
  intro k n h hn
  obtain ⟨n, rfl⟩ : ∃ m, n = m + 1 := ⟨n - 1, by simp at hn; omega⟩
  simp only [law18_GlobalSame_l2, lt_f (drop_nil h), cond_false, law18_GlobalSame_k1]
 | cons w l ih =>
  intro k n h hn
  obtain ⟨n, rfl⟩ : ∃ m, n = m + 1 := ⟨n - 1, by simp at hn; omega⟩
  obtain ⟨hk, hx, hdr⟩ := drop_cons h
  have hwm := List.mem_of_getElem? hx
  obtain ⟨w1, w2, w3⟩ := hA w hwm
  have hin := same_in hN g (c, 0) hg (by rw [I.len]; exact hg) (k : Int) (law18_GlobalSame_l2 N g (c, 0) r n) w (by have := hw w hwm; omega) w 0 N g.Start c.Start rfl (by have := hw w hwm; omega)
  simp only [law18_GlobalSame_l2, lt_t hk, cond_true, idx_nat, hx, Option.bind_some]
  rw [show (0 : Int) = ((0 : Nat) : Int) from rfl] at hin ⊢
  rw [hin]
  unfold law18_GlobalSame_k3 z25
  rw [show (0 : Int) = ((0 : Nat) : Int) from rfl, limit_loop g hv hT _ g.Timeouts 0 N rfl (by omega), limit_loop c hvc hT' _ c.Timeouts 0 N rfl (by omega)]
  have e1 := limit_alike I hv w2 w3
  have e2 : (runV c c.Start w == c.End) = (runV g g.Start w == g.End) := by
   rw [w1, I.stop]
   by_cases he : runV g g.Start w = g.End
   ·rw [he]; simp
   ·have : f (runV g g.Start w) ≠ f g.End := fun q => he (I.inj _ _ w2 w3 o5 o6 q)
    rw [beq_eq_false_iff_ne.mpr he, beq_eq_false_iff_ne.mpr this]
  have e3 : ∀ b : T6, (!((b.From == b.From) && ((b.To == b.To) && ((b.Label == b.Label) && true)))) = false := by intro b; simp
  have e4 : ∀ z : Int, (z != z) = false := by intro z; simp
  have e5 : ∀ z : Bool, (!(z == z)) = false := by intro z; simp
  simp only [Option.bind_some, w1]
  rw [w1] at e2
  rw [e1, e4, cond_false, e3, cond_false, e2, e5, cond_false, w64_succ (by omega)]
  exact ih (k + 1) n hdr (by simp at hn; omega)
theorem plain : ∀ (x0 : T4), k_api_Global x0 → ∃ N, law18_GlobalSame N x0 = some true := by
 intro g hg
 refine ⟨33554432 + 300, ?_⟩
 have aw : z12 (33554432 + 300) = some true := awake_c _
 generalize hN : 33554432 + 300 = N at aw ⊢
 have s0 := sizeG_of hg
 have s1 := sizeN_of hg
 have s2 := numE_of hg
 obtain ⟨a, a1, a2⟩ := few18_some (N := N) (by omega) g s0
 obtain ⟨b, b1, b2, b3⟩ := Valid_both (N := N) (by omega) g s0 s1 s2
 unfold law18_GlobalSame
 rw [aw]
 simp only [Option.bind_some, Bool.not_true, cond_false]
 rw [a1]
 simp only [Option.bind_some]
 cases a
 ·rfl
 simp only [Bool.not_true, cond_false]
 rw [b2]
 simp only [Option.bind_some]
 cases b
 ·rfl
 simp only [Bool.not_true, cond_false]
 have hv := b3.mp rfl
 obtain ⟨r, r1, r2, r3, r4⟩ := Canonical_both (N := N) (by omega) g s0 s1 s2
 obtain ⟨r5, st, hst⟩ := r4 hv
 have J := canon_is hv hst
 have hvc := hv.iso J
 obtain ⟨u, u1, u2, u3⟩ := Valid_both (N := N) (by omega) r.1 (J.sizeG hv s0) (J.sizeN s1) (J.num s2)
 have hu1 := u3.mpr hvc
 subst hu1
 obtain ⟨p, p1, p2, p3, p4⟩ := words_run (N := N) (by omega) g s2 hv b1
 obtain ⟨q, q1, q2, q3, q4⟩ := words_run (N := N) (by omega) r.1 (J.num s2) hvc u1
 obtain ⟨o1, o2, o3, o4, o5, o6, o7⟩ := numV_head hv.num
 obtain ⟨eq, hA⟩ := words_alike J hv hvc s2 (J.num s2) p4 q4 (by
  intro w hw
  simp at hw; subst hw
  exact ⟨J.start, o3, o4⟩)
 subst eq
 have hT' := (J.sizeG hv s0).t
 have rr : r = (r.1, 0) := by rw [← r5]
 generalize r.1 = c at *
 subst rr
 rw [r1]
 simp only [Option.bind_some, show ((0 : Int) != 0) = false from rfl, cond_false]
 rw [p1, q1]
 have e4 : ∀ z : Int, (z != z) = false := by intro z; simp
 simp only [Option.bind_some, e4, cond_false]
 rw [sameWords_refl (N := N) (by omega) q.1 p2 (fun w hw => by have := p3 w hw; omega)]
 simp only [Option.bind_some, Bool.not_true, cond_false]
 exact same_out (N := N) (by omega) J hv hvc s0.e s0.t hT' q p2 p3 hA q.1 0 N rfl (by omega)
end Gp
end
