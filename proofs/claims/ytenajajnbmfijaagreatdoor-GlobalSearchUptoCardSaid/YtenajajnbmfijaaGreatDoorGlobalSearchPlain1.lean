/- The plain law, part 1: what the functions compute answers as the statement says. -/
import Derived.KernelRfl
import Derived.Test.YtenajajnbmfijaaGreatDoorGlobalSearchPure
set_option linter.all false
section
/- Plain aids: numbers that do not wrap, places in lists, loops over lists. -/
namespace Gp
open Go Go.Kx
theorem w64_id {n : Int} (h1 : -9223372036854775808 ≤ n) (h2 : n ≤ 9223372036854775807) : w64 n = n := by
  show IntKind.i64.wrap n = n
  simp [IntKind.wrap, IntKind.signed, IntKind.bits]
  omega
theorem w64_nat {n : Nat} (h : n ≤ 4611686018427387904) : w64 (n : Int) = n := w64_id (by omega) (by omega)
theorem w64_succ {n : Nat} (h : n < 4611686018427387904) : w64 ((n : Int) + 1) = ((n + 1 : Nat) : Int) := by rw [w64_id (by omega) (by omega)]; omega
theorem idx_nat {α : Type} (xs : List α) (k : Nat) : idx xs (k : Int) = xs[k]? := by
  unfold idx
  have : decide (0 ≤ (k : Int)) = true := by simp
  rw [this]; simp
theorem idx_int {α : Type} {xs : List α} {i : Int} {k : Nat} (h : i = k) : idx xs i = xs[k]? := by rw [h, idx_nat]
theorem setL'_nat {α : Type} (xs : List α) (k : Nat) (e : α) : setL' xs (k : Int) e = xs.set k e := by unfold setL'; simp
theorem setL'_int {α : Type} {xs : List α} {i : Int} {k : Nat} (h : i = k) (e : α) : setL' xs i e = xs.set k e := by rw [h, setL'_nat]
theorem get_mid {α : Type} (A : List α) (x : α) (B : List α) {k : Nat} (h : A.length = k) : (A ++ x :: B)[k]? = some x := by
  subst h; simp
theorem set_mid {α : Type} (A : List α) (x y : α) (B : List α) {k : Nat} (h : A.length = k) : (A ++ x :: B).set k y = A ++ y :: B := by
  subst h; simp
theorem idx_mid {α : Type} {L A : List α} {x : α} {B : List α} {i : Int} (hL : L = A ++ x :: B) (h : i = (A.length : Int)) : idx L i = some x := by
  rw [idx_int h, hL]; exact get_mid A x B rfl
theorem setL'_mid {α : Type} {L A : List α} {x : α} {B : List α} {i : Int} (hL : L = A ++ x :: B) (h : i = (A.length : Int)) (y : α) : setL' L i y = A ++ y :: B := by
  rw [setL'_int h, hL]; exact set_mid A x y B rfl
theorem appL_some {α : Type} {xs ys : List α} (h : xs.length + ys.length ≤ 4294967296) : appL xs ys = some (xs ++ ys) := by
  unfold appL
  have : Nat.ble (xs.length + ys.length) lim = true := Nat.ble_eq_true_of_le h
  rw [this]; rfl
theorem drop_cons {α : Type} {xs : List α} {k : Nat} {x : α} {l : List α} (h : xs.drop k = x :: l) : k < xs.length ∧ xs[k]? = some x ∧ xs.drop (k + 1) = l := by
  have hlt : k < xs.length := by
    rcases Nat.lt_or_ge k xs.length with h' | h'
    · exact h'
    · rw [List.drop_eq_nil_of_le h'] at h; cases h
  rw [List.drop_eq_getElem_cons hlt] at h
  simp only [List.cons.injEq] at h
  exact ⟨hlt, by rw [List.getElem?_eq_getElem hlt, h.1], h.2⟩
theorem drop_nil {α : Type} {xs : List α} {k : Nat} (h : xs.drop k = []) : xs.length ≤ k := by simpa using h
/-- Half of a sum, as Go's library takes it. -/
theorem half {a b : Nat} (h : a + b < 4611686018427387904) {i j : Int} (hi : i = a) (hj : j = b) : binO .shr .u64 (wk .u64 (w64 (i + j))) (1 : Int) = some (((a + b) / 2 : Nat) : Int) := by
  subst hi hj
  rw [w64_id (by omega) (by omega)]
  have h1 : wk .u64 ((a : Int) + b) = (a : Int) + b := by
    show IntKind.u64.wrap _ = _
    simp [IntKind.wrap, IntKind.signed, IntKind.bits]
    omega
  rw [h1]
  show some (((a : Int) + b).fdiv (2 ^ 1)) = _
  rw [Int.fdiv_eq_ediv_of_nonneg _ (by decide)]
  simp
/-- The value of a loop over a list, from the back. -/
def lv {α γ : Type} (b : α → Nat → γ → γ) (e : γ) : List α → Nat → γ
  | [], _ => e
  | x :: l, k => b x k (lv b e l (k + 1))
theorem lv_of {α γ : Type} (xs : List α) (F : Nat → Int → γ) (b : α → Nat → γ → γ) (e : γ)
    (h1 : ∀ n k x, k < xs.length → xs[k]? = some x → F (n + 1) (k : Int) = b x k (F n ((k + 1 : Nat) : Int)))
    (h2 : ∀ n k, xs.length ≤ k → F (n + 1) (k : Int) = e) :
    ∀ (l : List α) (k n : Nat), xs.drop k = l → l.length < n → F n (k : Int) = lv b e l k := by
  intro l
  induction l with
  | nil =>
    intro k n h hn
    obtain ⟨n, rfl⟩ : ∃ m, n = m + 1 := ⟨n - 1, by simp at hn; omega⟩
    exact h2 n k (drop_nil h)
  | cons x l ih =>
    intro k n h hn
    obtain ⟨n, rfl⟩ : ∃ m, n = m + 1 := ⟨n - 1, by simp at hn; omega⟩
    obtain ⟨a, c, d⟩ := drop_cons h
    rw [h1 n k x a c, ih (k + 1) n d (by simp at hn; omega)]; rfl
theorem lv_from {α γ : Type} {xs : List α} {F : Nat → Int → γ} {b : α → Nat → γ → γ} {e : γ} {n : Nat} {i : Int} (hn : xs.length < n) (hi : i = ((0 : Nat) : Int))
    (h1 : ∀ n k x, k < xs.length → xs[k]? = some x → F (n + 1) (k : Int) = b x k (F n ((k + 1 : Nat) : Int)))
    (h2 : ∀ n k, xs.length ≤ k → F (n + 1) (k : Int) = e) : F n i = lv b e xs 0 := by
  rw [hi]; exact lv_of xs F b e h1 h2 xs 0 n rfl hn
theorem lv_ind {α γ : Type} {b : α → Nat → γ → γ} {e : γ} (P : γ → Prop) (he : P e) (hb : ∀ x k r, P r → P (b x k r)) : ∀ l k, P (lv b e l k)
  | [], _ => he
  | x :: l, k => hb x k _ (lv_ind P he hb l (k + 1))
theorem lv_congr {α γ : Type} {b c : α → Nat → γ → γ} {e : γ} : ∀ (l : List α) k, (∀ x ∈ l, ∀ k r, b x k r = c x k r) → lv b e l k = lv c e l k
  | [], _, _ => rfl
  | x :: l, k, h => by
    show b x k _ = c x k _
    rw [h x (by simp), lv_congr l (k + 1) (fun y hy => h y (by simp [hy]))]
/-- Places below the end. -/
theorem lt_t {k n : Nat} (h : k < n) : decide ((k : Int) < (n : Int)) = true := by simp [h]
theorem lt_f {k n : Nat} (h : n ≤ k) : decide ((k : Int) < (n : Int)) = false := by simp; omega
end Gp
end
section
/- Plain lists in the order of a key, equal keys in the order of a relation. -/
set_option linter.unusedVariables false
set_option linter.unusedSimpArgs false
namespace Gp
open Go Go.Kx
def Lt {α : Type} (K : α → Int) (r : α → α → Prop) (x y : α) : Prop := K x < K y ∨ (K x = K y ∧ r x y)
def Srt {α : Type} (K : α → Int) (r : α → α → Prop) (l : List α) : Prop := l.Pairwise (Lt K r)
def Cross {α : Type} (r : α → α → Prop) (A B : List α) : Prop := ∀ x ∈ A, ∀ y ∈ B, r x y
variable {α : Type} {K : α → Int} {r : α → α → Prop}
theorem Lt.le {x y : α} (h : Lt K r x y) : K x ≤ K y := by rcases h with h | h <;> omega
theorem Lt.of {x y : α} (h : K x ≤ K y) (hr : r x y) : Lt K r x y := by
  rcases Int.lt_or_eq_of_le h with h | h
  · exact .inl h
  · exact .inr ⟨h, hr⟩
theorem srt_app {A B : List α} : Srt K r (A ++ B) ↔ Srt K r A ∧ Srt K r B ∧ ∀ x ∈ A, ∀ y ∈ B, Lt K r x y := by
  unfold Srt; exact List.pairwise_append
theorem srt_cons {x : α} {B : List α} : Srt K r (x :: B) ↔ (∀ y ∈ B, Lt K r x y) ∧ Srt K r B := by
  unfold Srt; exact List.pairwise_cons
theorem srt_nil : Srt K r ([] : List α) := List.Pairwise.nil
theorem srt_one (x : α) : Srt K r [x] := by simp [Srt]
/-- The last of a sorted list has the greatest key. -/
theorem srt_last {A : List α} {y : α} (h : Srt K r (A ++ [y])) : ∀ x ∈ A ++ [y], K x ≤ K y := by
  intro x hx
  rcases List.mem_append.mp hx with hx | hx
  · exact ((srt_app.mp h).2.2 x hx y (by simp)).le
  · simp at hx; subst hx; exact Int.le_refl _
/-- The first of a sorted list has the least key. -/
theorem srt_first {A : List α} {y : α} (h : Srt K r (y :: A)) : ∀ x ∈ y :: A, K y ≤ K x := by
  intro x hx
  rcases List.mem_cons.mp hx with hx | hx
  · subst hx; exact Int.le_refl _
  · exact ((srt_cons.mp h).1 x hx).le
theorem cross_perm {A A' B B' : List α} (h : Cross r A B) (ha : A'.Perm A) (hb : B'.Perm B) : Cross r A' B' :=
  fun x hx y hy => h x (ha.mem_iff.mp hx) y (hb.mem_iff.mp hy)
/-- An element moved into its place. -/
theorem srt_ins {A1 A2 : List α} {x : α} (h : Srt K r (A1 ++ A2)) (h1 : ∀ y ∈ A1, K y ≤ K x) (h1r : ∀ y ∈ A1, r y x) (h2 : ∀ y ∈ A2, K x < K y) : Srt K r (A1 ++ x :: A2) := by
  obtain ⟨a, b, c⟩ := srt_app.mp h
  refine srt_app.mpr ⟨a, srt_cons.mpr ⟨fun y hy => .inl (h2 y hy), b⟩, ?_⟩
  intro y hy z hz
  rcases List.mem_cons.mp hz with hz | hz
  · subst hz; exact Lt.of (h1 y hy) (h1r y hy)
  · exact c y hy z hz
theorem srt_ins' {A1 A2 : List α} {x : α} (h : Srt K r (A1 ++ A2)) (h1 : ∀ y ∈ A1, K y < K x) (h2 : ∀ y ∈ A2, K x ≤ K y) (h2r : ∀ y ∈ A2, r x y) : Srt K r (A1 ++ x :: A2) := by
  obtain ⟨a, b, c⟩ := srt_app.mp h
  refine srt_app.mpr ⟨a, srt_cons.mpr ⟨fun y hy => Lt.of (h2 y hy) (h2r y hy), b⟩, ?_⟩
  intro y hy z hz
  rcases List.mem_cons.mp hz with hz | hz
  · subst hz; exact .inl (h1 y hy)
  · exact c y hy z hz
/-- A list cut at a place. -/
theorem cut_at (L : List α) (k : Nat) (h : k ≤ L.length) : ∃ A B, L = A ++ B ∧ A.length = k :=
  ⟨L.take k, L.drop k, (List.take_append_drop k L).symm, by simp; omega⟩
theorem cut_end (L : List α) (k : Nat) (h : k ≤ L.length) : ∃ A B, L = A ++ B ∧ B.length = k := by
  obtain ⟨A, B, e, hl⟩ := cut_at L (L.length - k) (by omega)
  refine ⟨A, B, e, ?_⟩
  have := congrArg List.length e
  simp at this; omega
theorem cut_one (L : List α) (k : Nat) (h : k < L.length) : ∃ A x B, L = A ++ x :: B ∧ A.length = k := by
  obtain ⟨A, B, e, hl⟩ := cut_at L k (by omega)
  cases B with
  | nil => have := congrArg List.length e; simp at this; omega
  | cons x B => exact ⟨A, x, B, e, hl⟩
theorem get_at {L A : List α} {x : α} {B : List α} {k : Nat} (hL : L = A ++ x :: B) (h : A.length = k) : L[k]? = some x := by rw [hL]; exact get_mid A x B h
/-- Sorted lists of the same elements are one list. -/
theorem srt_uniq (has : ∀ x y, Lt K r x y → ¬ Lt K r y x) : ∀ (A B : List α), A.Perm B → Srt K r A → Srt K r B → A = B
  | [], B, h, _, _ => by simpa using h.symm
  | x :: A, B, h, ha, hb => by
    cases B with
    | nil => exact absurd h.length_eq (by simp)
    | cons y B =>
      by_cases hxy : x = y
      · subst hxy
        rw [srt_uniq has A B ((List.perm_cons x).mp h) (srt_cons.mp ha).2 (srt_cons.mp hb).2]
      · exfalso
        have h1 : x ∈ y :: B := h.mem_iff.mp (by simp)
        have h2 : y ∈ x :: A := h.mem_iff.mpr (by simp)
        have h3 : x ∈ B := by rcases List.mem_cons.mp h1 with h | h; exact absurd h hxy; exact h
        have h4 : y ∈ A := by rcases List.mem_cons.mp h2 with h | h; exact absurd h.symm hxy; exact h
        exact has _ _ ((srt_cons.mp ha).1 y h4) ((srt_cons.mp hb).1 x h3)
/-- Blocks of one size, each sorted, the last one perhaps shorter. -/
inductive Bk (K : α → Int) (r : α → α → Prop) (n : Nat) : List α → List α → Prop
  | last (o c : List α) : c.length ≤ n → c.Perm o → Srt K r c → Bk K r n o c
  | cons (o1 c1 o2 c2 : List α) : c1.length = n → c1.Perm o1 → Srt K r c1 → Bk K r n o2 c2 → Bk K r n (o1 ++ o2) (c1 ++ c2)
theorem Bk.two {n : Nat} {o c : List α} (h : Bk K r n o c) (hn : 0 < n) (hc : 2 * n ≤ c.length) :
    ∃ o1 o2 o3 c1 c2 c3, o = o1 ++ (o2 ++ o3) ∧ c = c1 ++ (c2 ++ c3) ∧ c1.length = n ∧ c2.length = n ∧ c1.Perm o1 ∧ c2.Perm o2 ∧ Srt K r c1 ∧ Srt K r c2 ∧ Bk K r n o3 c3 := by
  cases h with
  | last _ _ h1 h2 h3 => omega
  | cons o1 c1 o2 c2 h1 h2 h3 h4 =>
    cases h4 with
    | last _ _ g1 g2 g3 =>
      simp at hc
      exact ⟨o1, o2, [], c1, c2, [], by simp, by simp, h1, by omega, h2, g2, h3, g3, .last _ _ (by simp) (by simp) srt_nil⟩
    | cons p1 d1 p2 d2 g1 g2 g3 g4 => exact ⟨o1, p1, p2, c1, d1, d2, rfl, rfl, h1, g1, h2, g2, h3, g3, g4⟩
theorem Bk.few {n : Nat} {o c : List α} (h : Bk K r n o c) (hn : 0 < n) (hc : c.length < 2 * n) :
    (c.length ≤ n ∧ c.Perm o ∧ Srt K r c) ∨ ∃ o1 o2 c1 c2, o = o1 ++ o2 ∧ c = c1 ++ c2 ∧ c1.length = n ∧ 0 < c2.length ∧ c2.length ≤ n ∧ c1.Perm o1 ∧ c2.Perm o2 ∧ Srt K r c1 ∧ Srt K r c2 := by
  cases h with
  | last _ _ h1 h2 h3 => exact .inl ⟨h1, h2, h3⟩
  | cons o1 c1 o2 c2 h1 h2 h3 h4 =>
    cases h4 with
    | last _ _ g1 g2 g3 =>
      rcases Nat.eq_zero_or_pos c2.length with h0 | h0
      · have : c2 = [] := List.length_eq_zero_iff.mp h0
        subst this
        have : o2 = [] := by simpa using g2.symm
        subst this
        exact .inl ⟨by simp; omega, by simpa using h2, by simpa using h3⟩
      · exact .inr ⟨o1, o2, c1, c2, rfl, rfl, h1, h0, g1, h2, g2, h3, g3⟩
    | cons p1 d1 p2 d2 g1 g2 g3 g4 => simp at hc; omega
theorem Bk.all {n : Nat} {o c : List α} (h : Bk K r n o c) (hn : 0 < n) (hc : c.length ≤ n) : c.Perm o ∧ Srt K r c := by
  rcases h.few hn (by omega) with h | ⟨o1, o2, c1, c2, h1, h2, h3, h4, _⟩
  · exact h.2
  · subst h2; simp at hc; omega
theorem Bk.perm {n : Nat} {o c : List α} (h : Bk K r n o c) : c.Perm o := by
  induction h with
  | last _ _ _ h _ => exact h
  | cons _ _ _ _ _ h _ _ ih => exact h.append ih
end Gp
end
section
/- Plain law: the library's stable sort, its insertion, exchange and rotation. -/
set_option linter.unusedVariables false
set_option linter.unusedSimpArgs false
namespace Gp
open Go Go.Kx Gx
variable {K : Int → Int} {r : Int → Int → Prop} {V : Int → Prop} {g : T_api_Global}
/-- What the comparison answers. -/
def e_Cmp (K : Int → Int) (V : Int → Prop) (g : T_api_Global) : Prop := ∀ N x y, 4 ≤ N → V x → V y → ∃ c, global_Edges_1_al N x y g = some c ∧ (decide (c < 0) = decide (K x < K y))
theorem e_ins_in (hc : e_Cmp K V g) {N : Nat} (hN : 4 ≤ N) (P : List Int) (x : Int) (hx : V x) (a v8 : Int) (ag : List Int → Int → Option (List Int)) (ha : a = (P.length : Int)) :
    ∀ (n : Nat) (A T : List Int) (L : List Int) (j : Int), A.length < n → (∀ y ∈ A, V y) → P.length + A.length ≤ 4194304 → L = P ++ (A ++ x :: T) → j = ((P.length + A.length : Nat) : Int) →
    ∃ A1 A2, A = A1 ++ A2 ∧ (∀ y ∈ A2, K x < K y) ∧ (∀ B y, A1 = B ++ [y] → K y ≤ K x) ∧ slices_insertionSortCmpFunc_int_of_global_Edges_1_l4 N a g v8 ag n L j = slices_insertionSortCmpFunc_int_of_global_Edges_1_k3 v8 ag (P ++ (A1 ++ x :: (A2 ++ T))) := by
  intro n
  induction n with
  | zero => intro A T L j h; omega
  | succ n ih =>
    intro A T L j hn hV hs hL hj
    rcases List.eq_nil_or_concat A with hA | ⟨A', y, hA⟩
    · subst hA
      refine ⟨[], [], rfl, by simp, by simp, ?_⟩
      have : decide (j > a) = false := by simp at hj; simp; omega
      simp only [slices_insertionSortCmpFunc_int_of_global_Edges_1_l4, this, cond_false, hL]
      rfl
    · rw [List.concat_eq_append] at hA
      subst hA
      simp only [List.length_append, List.length_cons, List.length_nil] at hj hs hn
      have h1 : decide (j > a) = true := by simp; omega
      have hw : w64 (j - 1) = ((P.length + A'.length : Nat) : Int) := by rw [w64_id (by omega) (by omega)]; omega
      have e1 : idx L j = some x := idx_mid (A := P ++ (A' ++ [y])) (B := T) (by rw [hL]; simp) (by rw [hj]; simp)
      have e2 : idx L (w64 (j - 1)) = some y := idx_mid (A := P ++ A') (B := x :: T) (by rw [hL]; simp) (by rw [hw]; simp)
      obtain ⟨c, hc1, hc2⟩ := hc N x y hN hx (hV y (by simp))
      by_cases hxy : K x < K y
      · have e3 : setL' L j y = (P ++ (A' ++ [y])) ++ y :: T := setL'_mid (A := P ++ (A' ++ [y])) (x := x) (by rw [hL]; simp) (by rw [hj]; simp) y
        have e4 : idx (setL' L j y) (w64 (j - 1)) = some y := idx_mid (A := P ++ A') (B := y :: T) (by rw [e3]; simp) (by rw [hw]; simp)
        have e5 : setL' (setL' L j y) (w64 (j - 1)) x = (P ++ A') ++ x :: (y :: T) := setL'_mid (A := P ++ A') (x := y) (by rw [e3]; simp) (by rw [hw]; simp) x
        obtain ⟨A1, A2, p1, p2, p3, p4⟩ := ih A' (y :: T) (setL' (setL' L j y) (w64 (j - 1)) x) _ (by omega) (fun z hz => hV z (by simp [hz])) (by omega) (by rw [e5]; simp) hw
        refine ⟨A1, A2 ++ [y], by rw [p1]; simp, ?_, p3, ?_⟩
        · intro z hz
          rcases List.mem_append.mp hz with hz | hz
          · exact p2 z hz
          · simp at hz; subst hz; exact hxy
        · simp only [slices_insertionSortCmpFunc_int_of_global_Edges_1_l4, h1, cond_true, e1, e2, Option.bind_some, hc1, hc2, decide_eq_true hxy, e4]
          rw [p4]; simp
      · refine ⟨A' ++ [y], [], by simp, by simp, ?_, ?_⟩
        · intro B z hz
          have := (List.append_inj' hz rfl).2
          simp at this; subst this; omega
        · simp only [slices_insertionSortCmpFunc_int_of_global_Edges_1_l4, h1, cond_true, e1, e2, Option.bind_some, hc1, hc2, decide_eq_false hxy, cond_false]
          rw [hL]; simp
theorem e_ins_out (hc : e_Cmp K V g) {N : Nat} (P Q : List Int) (a b : Int) (ha : a = (P.length : Int)) :
    ∀ (n : Nat) (D C R : List Int) (L : List Int) (i : Int), R.length < n → P.length + (D.length + R.length) + 4 < N → P.length + (D.length + R.length) ≤ 4194304 → (∀ y ∈ D, V y) → (∀ y ∈ R, V y) →
    C.Perm D → Srt K r C → (D ++ R).Pairwise r → L = P ++ (C ++ (R ++ Q)) → i = ((P.length + D.length : Nat) : Int) → b = ((P.length + (D.length + R.length) : Nat) : Int) →
    ∃ C', C'.Perm (D ++ R) ∧ Srt K r C' ∧ slices_insertionSortCmpFunc_int_of_global_Edges_1_l2 N a b g n L i = some (P ++ (C' ++ Q)) := by
  intro n
  induction n with
  | zero => intro D C R L i h; omega
  | succ n ih =>
    intro D C R L i hn hN hs hVD hVR hp hS hr hL hi hb
    cases R with
    | nil =>
      have : decide (i < b) = false := by simp at hb; simp; omega
      exact ⟨C, by simpa using hp, hS, by simp only [slices_insertionSortCmpFunc_int_of_global_Edges_1_l2, this, cond_false, hL]; simp [slices_insertionSortCmpFunc_int_of_global_Edges_1_k1]⟩
    | cons x R =>
      simp only [List.length_cons] at hn hN hs hb
      have h1 : decide (i < b) = true := by simp; omega
      have hl := hp.length_eq
      obtain ⟨A1, A2, p1, p2, p3, p4⟩ := e_ins_in hc (N := N) (by omega) P x (hVR x (by simp)) a i (slices_insertionSortCmpFunc_int_of_global_Edges_1_l2 N a b g n) ha N C (R ++ Q) L i (by omega)
        (fun y hy => hVD y (hp.mem_iff.mp hy)) (by omega) (by rw [hL]; simp) (by rw [hi, hl])
      subst p1
      have hS' := hS
      obtain ⟨s1, s2, s3⟩ := srt_app.mp hS
      have hD : ∀ y ∈ A1, y ∈ D := fun y hy => hp.mem_iff.mp (by simp [hy])
      have hrx : ∀ y ∈ D, r y x := fun y hy => (List.pairwise_append.mp hr).2.2 y hy x (by simp)
      have hins : Srt K r (A1 ++ x :: A2) := by
        refine srt_ins hS ?_ (fun y hy => hrx y (hD y hy)) p2
        rcases List.eq_nil_or_concat A1 with h | ⟨B, z, h⟩
        · subst h; simp
        · rw [List.concat_eq_append] at h
          subst h
          intro y hy
          exact Int.le_trans (srt_last s1 y hy) (p3 B z rfl)
      have hperm : (A1 ++ x :: A2).Perm (D ++ [x]) := by
        refine List.perm_middle.trans ?_
        refine (List.Perm.cons x hp).trans ?_
        exact (List.perm_append_singleton x D).symm
      obtain ⟨C', q1, q2, q3⟩ := ih (D ++ [x]) (A1 ++ x :: A2) R _ ((w64 (i + 1))) (by omega) (by simp; omega) (by simp; omega)
        (by intro y hy; rcases List.mem_append.mp hy with h | h; exact hVD y h; simp at h; subst h; exact hVR y (by simp))
        (fun y hy => hVR y (by simp [hy])) hperm hins (by simpa using hr) rfl
        (by rw [hi, w64_succ (by omega)]; simp; omega) (by rw [hb]; simp; omega)
      refine ⟨C', by simpa using q1, q2, ?_⟩
      simp only [slices_insertionSortCmpFunc_int_of_global_Edges_1_l2, h1, cond_true, p4, slices_insertionSortCmpFunc_int_of_global_Edges_1_k3]
      rw [← q3]; simp
theorem e_ins (hc : e_Cmp K V g) {N : Nat} (P D Q : List Int) (a b : Int) (L : List Int) (hN : P.length + D.length + 8 < N) (hs : P.length + D.length ≤ 4194304) (hV : ∀ y ∈ D, V y)
    (hr : D.Pairwise r) (hL : L = P ++ (D ++ Q)) (ha : a = (P.length : Int)) (hb : b = ((P.length + D.length : Nat) : Int)) :
    ∃ C, C.Perm D ∧ Srt K r C ∧ slices_insertionSortCmpFunc_int_of_global_Edges_1 N L a b g = some (P ++ (C ++ Q)) := by
  cases D with
  | nil =>
    refine ⟨[], .refl _, srt_nil, ?_⟩
    have hw : w64 (a + 1) = a + 1 := w64_id (by omega) (by simp at hs; omega)
    obtain ⟨n, rfl⟩ : ∃ m, N = m + 1 := ⟨N - 1, by omega⟩
    have : decide (a + 1 < b) = false := by simp at hb; simp; omega
    simp only [slices_insertionSortCmpFunc_int_of_global_Edges_1, hw, slices_insertionSortCmpFunc_int_of_global_Edges_1_l2, this, cond_false, hL, slices_insertionSortCmpFunc_int_of_global_Edges_1_k1]
  | cons x D =>
    simp only [List.length_cons] at hs hN hb
    obtain ⟨C, q1, q2, q3⟩ := e_ins_out (r := r) hc (N := N) P Q a b ha N [x] [x] D L (w64 (a + 1)) (by omega) (by simp; omega) (by simp; omega)
      (by intro y hy; simp at hy; subst hy; exact hV y (by simp)) (fun y hy => hV y (by simp [hy])) (.refl _) (srt_one x) (by simpa using hr) (by rw [hL]; simp)
      (by rw [ha, w64_succ (by omega)]; simp) (by rw [hb]; simp; omega)
    exact ⟨C, by simpa using q1, q2, by simpa [slices_insertionSortCmpFunc_int_of_global_Edges_1] using q3⟩
/-- Two runs of one length change places. -/
theorem e_swp_in (a b m : Int) : ∀ (n : Nat) (X Y P Q T L : List Int) (i : Int), X.length < n → X.length = Y.length → P.length + X.length + Q.length + Y.length ≤ 4194304 → 0 ≤ i → m ≤ 4194304 →
    L = P ++ (X ++ (Q ++ (Y ++ T))) → a + i = (P.length : Int) → b + i = ((P.length + (X.length + Q.length) : Nat) : Int) → m - i = (X.length : Int) →
    slices_swapRangeCmpFunc_int_of_global_Edges_1_l2 a b m n L i = some (P ++ (Y ++ (Q ++ (X ++ T)))) := by
  intro n
  induction n with
  | zero => intro X Y P Q T L i h; omega
  | succ n ih =>
    intro X Y P Q T L i hn hl hs hi0 hi hL ha hb hm
    cases X with
    | nil =>
      have : Y = [] := by simpa using hl.symm
      subst this
      have : decide (i < m) = false := by simp at hm; simp; omega
      simp only [slices_swapRangeCmpFunc_int_of_global_Edges_1_l2, this, cond_false, hL, slices_swapRangeCmpFunc_int_of_global_Edges_1_k1]
    | cons x X =>
      cases Y with
      | nil => simp at hl
      | cons y Y =>
        simp only [List.length_cons] at hn hl hs hb hm
        have h1 : decide (i < m) = true := by simp; omega
        have wa : w64 (a + i) = (P.length : Int) := by rw [w64_id (by omega) (by omega)]; omega
        have wb : w64 (b + i) = ((P.length + (X.length + 1 + Q.length) : Nat) : Int) := by rw [w64_id (by omega) (by omega)]; omega
        have wi : w64 (i + 1) = i + 1 := w64_id (by omega) (by omega)
        have e1 : idx L (w64 (b + i)) = some y := idx_mid (A := P ++ (x :: X ++ Q)) (B := Y ++ T) (by rw [hL]; simp) (by rw [wb]; simp; omega)
        have e2 : idx L (w64 (a + i)) = some x := idx_mid (A := P) (B := X ++ (Q ++ (y :: Y ++ T))) (by rw [hL]; simp) (by rw [wa])
        have e3 : setL' L (w64 (a + i)) y = P ++ y :: (X ++ (Q ++ (y :: Y ++ T))) := setL'_mid (x := x) (by rw [hL]; simp) (by rw [wa]) y
        have e4 : idx (setL' L (w64 (a + i)) y) (w64 (b + i)) = some y := idx_mid (A := P ++ (y :: X ++ Q)) (B := Y ++ T) (by rw [e3]; simp) (by rw [wb]; simp; omega)
        have e5 : setL' (setL' L (w64 (a + i)) y) (w64 (b + i)) x = (P ++ (y :: X ++ Q)) ++ x :: (Y ++ T) := setL'_mid (x := y) (by rw [e3]; simp) (by rw [wb]; simp; omega) x
        simp only [slices_swapRangeCmpFunc_int_of_global_Edges_1_l2, h1, cond_true, e1, e2, Option.bind_some, e4]
        rw [e5, wi, ih X Y (P ++ [y]) (Q ++ [x]) T _ (i + 1) (by omega) (by omega) (by simp; omega) (by omega) (by omega) (by simp) (by simp; omega) (by simp; omega) (by omega)]
        simp
theorem e_swp {N : Nat} (X Y P Q T L : List Int) (a b m : Int) (hN : X.length < N) (hl : X.length = Y.length) (hs : P.length + X.length + Q.length + Y.length ≤ 4194304)
    (hL : L = P ++ (X ++ (Q ++ (Y ++ T)))) (ha : a = (P.length : Int)) (hb : b = ((P.length + (X.length + Q.length) : Nat) : Int)) (hm : m = (X.length : Int)) :
    slices_swapRangeCmpFunc_int_of_global_Edges_1 N L a b m g = some (P ++ (Y ++ (Q ++ (X ++ T)))) := by
  unfold slices_swapRangeCmpFunc_int_of_global_Edges_1
  exact e_swp_in a b m N X Y P Q T L 0 hN hl hs (by omega) (by omega) hL (by omega) (by omega) (by omega)
/-- Two neighbouring runs change places. -/
theorem e_rot_in {N : Nat} (m : Int) : ∀ (n : Nat) (X Y P T L : List Int) (i j : Int), X.length + Y.length < n → X.length < N → Y.length < N → P.length + X.length + Y.length ≤ 4194304 → 0 < X.length → 0 < Y.length →
    L = P ++ (X ++ (Y ++ T)) → m = ((P.length + X.length : Nat) : Int) → i = (X.length : Int) → j = (Y.length : Int) →
    slices_rotateCmpFunc_int_of_global_Edges_1_l2 N m g n L i j = some (P ++ (Y ++ (X ++ T))) := by
  intro n
  induction n with
  | zero => intro X Y P T L i j h; omega
  | succ n ih =>
    intro X Y P T L i j hn hX hY hs hX0 hY0 hL hm hi hj
    have wmi : w64 (m - i) = (P.length : Int) := by rw [w64_id (by omega) (by omega)]; omega
    rcases Nat.lt_trichotomy X.length Y.length with h | h | h
    · have h1 : (i != j) = true := by simp; omega
      have h2 : decide (i > j) = false := by simp; omega
      have wj : w64 (w64 (m + j) - i) = ((P.length + Y.length : Nat) : Int) := by rw [w64_id (n := m + j) (by omega) (by omega), w64_id (by omega) (by omega)]; omega
      have wji : w64 (j - i) = j - i := w64_id (by omega) (by omega)
      obtain ⟨Y1, Y2, hY12, hl2⟩ := cut_end Y X.length (by omega)
      have hYl : Y.length = Y1.length + Y2.length := by rw [hY12]; simp
      have hsw := e_swp (g := g) (N := N) X Y2 P Y1 T L (w64 (m - i)) (w64 (w64 (m + j) - i)) i hX hl2.symm (by omega) (by rw [hL, hY12]; simp) (by rw [wmi]) (by rw [wj, hYl]; omega) hi
      simp only [slices_rotateCmpFunc_int_of_global_Edges_1_l2, h1, h2, cond_true, cond_false, hsw, Option.bind_some]
      rw [wji, ih Y2 Y1 P (X ++ T) _ i (j - i) (by omega) (by omega) (by omega) (by omega) (by omega) (by omega) rfl (by omega) (by omega) (by omega), hY12]
      simp
    · have h1 : (i != j) = false := by simp; omega
      have hsw := e_swp (g := g) (N := N) X Y P [] T L (w64 (m - i)) m i hX h (by simp; omega) (by rw [hL]; simp) (by rw [wmi]) (by rw [hm]; simp) hi
      simp only [slices_rotateCmpFunc_int_of_global_Edges_1_l2, h1, cond_false, slices_rotateCmpFunc_int_of_global_Edges_1_k1, hsw, Option.bind_some]
      simp
    · have h1 : (i != j) = true := by simp; omega
      have h2 : decide (i > j) = true := by simp; omega
      have wij : w64 (i - j) = i - j := w64_id (by omega) (by omega)
      obtain ⟨X1, X2, hX12, hl1⟩ := cut_at X Y.length (by omega)
      have hXl : X.length = X1.length + X2.length := by rw [hX12]; simp
      have hsw := e_swp (g := g) (N := N) X1 Y P X2 T L (w64 (m - i)) m j (by omega) hl1 (by omega) (by rw [hL, hX12]; simp) (by rw [wmi]) (by rw [hm, hXl]) (by omega)
      simp only [slices_rotateCmpFunc_int_of_global_Edges_1_l2, h1, h2, cond_true, hsw, Option.bind_some]
      rw [wij, ih X2 X1 (P ++ Y) T _ (i - j) j (by omega) (by omega) (by omega) (by simp; omega) (by omega) (by omega) (by simp) (by simp; omega) (by omega) (by omega), hX12]
      simp
theorem e_rot {N : Nat} (X Y P T L : List Int) (a m b : Int) (hN : X.length + Y.length < N) (hs : P.length + X.length + Y.length ≤ 4194304) (hX : 0 < X.length) (hY : 0 < Y.length)
    (hL : L = P ++ (X ++ (Y ++ T))) (ha : a = (P.length : Int)) (hm : m = ((P.length + X.length : Nat) : Int)) (hb : b = ((P.length + (X.length + Y.length) : Nat) : Int)) :
    slices_rotateCmpFunc_int_of_global_Edges_1 N L a m b g = some (P ++ (Y ++ (X ++ T))) := by
  unfold slices_rotateCmpFunc_int_of_global_Edges_1
  have w1 : w64 (m - a) = (X.length : Int) := by rw [w64_id (by omega) (by omega)]; omega
  have w2 : w64 (b - m) = (Y.length : Int) := by rw [w64_id (by omega) (by omega)]; omega
  rw [w1, w2]
  exact e_rot_in m N X Y P T L _ _ hN (by omega) (by omega) hs hX hY hL hm rfl rfl
end Gp
end
section
/- Plain law: the library's stable sort, its merge. -/
set_option linter.unusedVariables false
set_option linter.unusedSimpArgs false
namespace Gp
open Go Go.Kx Gx
variable {K : Int → Int} {r : Int → Int → Prop} {V : Int → Prop} {g : T_api_Global}
/-- One element goes forward over a run. -/
theorem e_fwd (v : Int) : ∀ (n : Nat) (B P R L : List Int) (x : Int) (k : Int), B.length < n → P.length + B.length ≤ 4194304 → L = P ++ x :: (B ++ R) → k = (P.length : Int) → v = ((P.length + (B.length + 1) : Nat) : Int) →
    slices_symMergeCmpFunc_int_of_global_Edges_1_l2 v n L k = some (P ++ (B ++ x :: R)) := by
  intro n
  induction n with
  | zero => intro B P R L x k h; omega
  | succ n ih =>
    intro B P R L x k hn hs hL hk hv
    have wv : w64 (v - 1) = v - 1 := w64_id (by omega) (by omega)
    cases B with
    | nil =>
      have : decide (k < w64 (v - 1)) = false := by rw [wv]; simp at hv; simp; omega
      simp only [slices_symMergeCmpFunc_int_of_global_Edges_1_l2, this, cond_false, slices_symMergeCmpFunc_int_of_global_Edges_1_k1, hL]; rfl
    | cons y B =>
      simp only [List.length_cons] at hn hs hv
      have h1 : decide (k < w64 (v - 1)) = true := by rw [wv]; simp; omega
      have wk' : w64 (k + 1) = ((P.length + 1 : Nat) : Int) := by rw [w64_id (by omega) (by omega)]; omega
      have e1 : idx L (w64 (k + 1)) = some y := idx_mid (A := P ++ [x]) (B := B ++ R) (by rw [hL]; simp) (by rw [wk']; simp)
      have e2 : idx L k = some x := idx_mid (A := P) (B := y :: B ++ R) (by rw [hL]) hk
      have e3 : setL' L k y = P ++ y :: (y :: B ++ R) := setL'_mid (x := x) (by rw [hL]) hk y
      have e4 : idx (setL' L k y) (w64 (k + 1)) = some y := idx_mid (A := P ++ [y]) (B := B ++ R) (by rw [e3]; simp) (by rw [wk']; simp)
      have e5 : setL' (setL' L k y) (w64 (k + 1)) x = (P ++ [y]) ++ x :: (B ++ R) := setL'_mid (x := y) (by rw [e3]; simp) (by rw [wk']; simp) x
      simp only [slices_symMergeCmpFunc_int_of_global_Edges_1_l2, h1, cond_true, e1, e2, Option.bind_some, e4]
      rw [e5, ih B (P ++ [y]) R _ x (w64 (k + 1)) (by omega) (by simp; omega) rfl (by rw [wk']; simp) (by rw [hv]; simp; omega)]
      simp
/-- One element goes back over a run. -/
theorem e_bwd (v : Int) : ∀ (n : Nat) (A P R L : List Int) (y : Int) (k : Int), A.length < n → P.length + A.length ≤ 4194304 → L = P ++ (A ++ y :: R) → k = ((P.length + A.length : Nat) : Int) → v = (P.length : Int) →
    slices_symMergeCmpFunc_int_of_global_Edges_1_l6 v n L k = some (P ++ y :: (A ++ R)) := by
  intro n
  induction n with
  | zero => intro A P R L y k h; omega
  | succ n ih =>
    intro A P R L y k hn hs hL hk hv
    rcases List.eq_nil_or_concat A with hA | ⟨A', x, hA⟩
    · subst hA
      have : decide (k > v) = false := by simp at hk; simp; omega
      simp only [slices_symMergeCmpFunc_int_of_global_Edges_1_l6, this, cond_false, slices_symMergeCmpFunc_int_of_global_Edges_1_k5, hL]; rfl
    · rw [List.concat_eq_append] at hA
      subst hA
      simp only [List.length_append, List.length_cons, List.length_nil] at hn hs hk
      have h1 : decide (k > v) = true := by simp; omega
      have wk' : w64 (k - 1) = ((P.length + A'.length : Nat) : Int) := by rw [w64_id (by omega) (by omega)]; omega
      have e1 : idx L (w64 (k - 1)) = some x := idx_mid (A := P ++ A') (B := y :: R) (by rw [hL]; simp) (by rw [wk']; simp)
      have e2 : idx L k = some y := idx_mid (A := P ++ (A' ++ [x])) (B := R) (by rw [hL]; simp) (by rw [hk]; simp)
      have e3 : setL' L k x = (P ++ (A' ++ [x])) ++ x :: R := setL'_mid (x := y) (by rw [hL]; simp) (by rw [hk]; simp) x
      have e4 : idx (setL' L k x) (w64 (k - 1)) = some x := idx_mid (A := P ++ A') (B := x :: R) (by rw [e3]; simp) (by rw [wk']; simp)
      have e5 : setL' (setL' L k x) (w64 (k - 1)) y = (P ++ A') ++ y :: (x :: R) := setL'_mid (x := x) (by rw [e3]; simp) (by rw [wk']; simp) y
      simp only [slices_symMergeCmpFunc_int_of_global_Edges_1_l6, h1, cond_true, e1, e2, Option.bind_some, e4]
      rw [e5, ih A' P (x :: R) _ y (w64 (k - 1)) (by omega) (by omega) (by simp) wk' hv]
      simp
/-- The place of one element ahead of a sorted run. -/
theorem e_find1 (hc : e_Cmp K V g) {N : Nat} (hN : 4 ≤ N) (P Q L B : List Int) (x : Int) (a : Int) (hV : ∀ y ∈ L, V y) (hS : Srt K r B) (hL : L = P ++ x :: (B ++ Q)) (ha : a = (P.length : Int)) (hs : P.length + B.length + 1 ≤ 4194304) :
    ∀ (n : Nat) (B1 M B2 : List Int) (i j : Int), M.length < n → B = B1 ++ (M ++ B2) → (∀ y ∈ B1, K y < K x) → (∀ y ∈ B2, K x ≤ K y) → i = ((P.length + 1 + B1.length : Nat) : Int) → j = ((P.length + 1 + (B1.length + M.length) : Nat) : Int) →
    ∃ B1 B2, B = B1 ++ B2 ∧ (∀ y ∈ B1, K y < K x) ∧ (∀ y ∈ B2, K x ≤ K y) ∧ slices_symMergeCmpFunc_int_of_global_Edges_1_l4 N L a g n i j = slices_symMergeCmpFunc_int_of_global_Edges_1_k3 N L a ((P.length + 1 + B1.length : Nat) : Int) := by
  intro n
  induction n with
  | zero => intro B1 M B2 i j h; omega
  | succ n ih =>
    intro B1 M B2 i j hn hB h1 h2 hi hj
    have hBl : B.length = B1.length + (M.length + B2.length) := by rw [hB]; simp
    rcases Nat.eq_zero_or_pos M.length with h0 | h0
    · have : M = [] := List.length_eq_zero_iff.mp h0
      subst this
      have : decide (i < j) = false := by simp at hj; simp; omega
      refine ⟨B1, B2, by simpa using hB, h1, h2, ?_⟩
      simp only [slices_symMergeCmpFunc_int_of_global_Edges_1_l4, this, cond_false]
      rw [hi]
    · have hlt : decide (i < j) = true := by simp; omega
      have hh := half (a := P.length + 1 + B1.length) (b := P.length + 1 + (B1.length + M.length)) (by omega) hi hj
      obtain ⟨M1, y, M2, hM, hk⟩ := cut_one M ((P.length + 1 + B1.length + (P.length + 1 + (B1.length + M.length))) / 2 - (P.length + 1 + B1.length)) (by omega)
      have hMl : M.length = M1.length + (1 + M2.length) := by rw [hM]; simp; omega
      generalize hhv : (P.length + 1 + B1.length + (P.length + 1 + (B1.length + M.length))) / 2 = h at hh hk
      have hhe : h = P.length + 1 + (B1.length + M1.length) := by omega
      have wh : w64 (h : Int) = (h : Int) := w64_id (by omega) (by omega)
      have whs : w64 ((h : Int) + 1) = ((h + 1 : Nat) : Int) := w64_succ (by omega)
      have hLe : L = (P ++ x :: (B1 ++ M1)) ++ y :: (M2 ++ (B2 ++ Q)) := by rw [hL, hB, hM]; simp
      have e1 : idx L (w64 (h : Int)) = some y := idx_mid hLe (by rw [wh, hhe]; simp; omega)
      have e2 : idx L a = some x := idx_mid (A := P) (B := B ++ Q) hL ha
      obtain ⟨c, c1, c2⟩ := hc N y x hN (hV y (by rw [hLe]; simp)) (hV x (by rw [hL]; simp))
      have hSM : Srt K r (M1 ++ (y :: M2)) := by
        have := hS; rw [hB, hM] at this
        exact (srt_app.mp (srt_app.mp this).2.1).1
      by_cases hxy : K y < K x
      · obtain ⟨C1, C2, q1, q2, q3, q4⟩ := ih (B1 ++ (M1 ++ [y])) M2 B2 (w64 (w64 (h : Int) + 1)) j (by omega) (by rw [hB, hM]; simp)
          (by
            intro z hz
            rcases List.mem_append.mp hz with hz | hz
            · exact h1 z hz
            · have hS' : Srt K r ((M1 ++ [y]) ++ M2) := by simpa using hSM
              exact Int.lt_of_le_of_lt (srt_last (srt_app.mp hS').1 z hz) hxy) h2 (by rw [wh, whs, hhe]; simp; omega) (by rw [hj, hMl]; simp; omega)
        refine ⟨C1, C2, q1, q2, q3, ?_⟩
        simp only [slices_symMergeCmpFunc_int_of_global_Edges_1_l4, hlt, cond_true, hh, Option.bind_some, e1, e2, c1, c2, decide_eq_true hxy]
        exact q4
      · obtain ⟨C1, C2, q1, q2, q3, q4⟩ := ih B1 M1 (y :: M2 ++ B2) i (w64 (h : Int)) (by omega) (by rw [hB, hM]; simp) h1
          (by
            intro z hz
            rcases List.mem_append.mp hz with hz | hz
            · exact Int.le_trans (by omega) (srt_first (srt_app.mp hSM).2.1 z hz)
            · exact h2 z hz) hi (by rw [wh, hhe])
        refine ⟨C1, C2, q1, q2, q3, ?_⟩
        simp only [slices_symMergeCmpFunc_int_of_global_Edges_1_l4, hlt, cond_true, hh, Option.bind_some, e1, e2, c1, c2, decide_eq_false hxy, cond_false]
        exact q4
/-- The place of one element behind a sorted run. -/
theorem e_find2 (hc : e_Cmp K V g) {N : Nat} (hN : 4 ≤ N) (P Q L A : List Int) (y : Int) (m : Int) (hV : ∀ y ∈ L, V y) (hS : Srt K r A) (hL : L = P ++ (A ++ y :: Q)) (hm : m = ((P.length + A.length : Nat) : Int)) (hs : P.length + A.length + 1 ≤ 4194304) :
    ∀ (n : Nat) (A1 M A2 : List Int) (i j : Int), M.length < n → A = A1 ++ (M ++ A2) → (∀ z ∈ A1, K z ≤ K y) → (∀ z ∈ A2, K y < K z) → i = ((P.length + A1.length : Nat) : Int) → j = ((P.length + (A1.length + M.length) : Nat) : Int) →
    ∃ A1 A2, A = A1 ++ A2 ∧ (∀ z ∈ A1, K z ≤ K y) ∧ (∀ z ∈ A2, K y < K z) ∧ slices_symMergeCmpFunc_int_of_global_Edges_1_l8 N L m g n i j = slices_symMergeCmpFunc_int_of_global_Edges_1_k7 N L m ((P.length + A1.length : Nat) : Int) := by
  intro n
  induction n with
  | zero => intro A1 M A2 i j h; omega
  | succ n ih =>
    intro A1 M A2 i j hn hA h1 h2 hi hj
    have hAl : A.length = A1.length + (M.length + A2.length) := by rw [hA]; simp
    rcases Nat.eq_zero_or_pos M.length with h0 | h0
    · have : M = [] := List.length_eq_zero_iff.mp h0
      subst this
      have : decide (i < j) = false := by simp at hj; simp; omega
      refine ⟨A1, A2, by simpa using hA, h1, h2, ?_⟩
      simp only [slices_symMergeCmpFunc_int_of_global_Edges_1_l8, this, cond_false]
      rw [hi]
    · have hlt : decide (i < j) = true := by simp; omega
      have hh := half (a := P.length + A1.length) (b := P.length + (A1.length + M.length)) (by omega) hi hj
      obtain ⟨M1, z, M2, hM, hk⟩ := cut_one M ((P.length + A1.length + (P.length + (A1.length + M.length))) / 2 - (P.length + A1.length)) (by omega)
      have hMl : M.length = M1.length + (1 + M2.length) := by rw [hM]; simp; omega
      generalize hhv : (P.length + A1.length + (P.length + (A1.length + M.length))) / 2 = h at hh hk
      have hhe : h = P.length + (A1.length + M1.length) := by omega
      have wh : w64 (h : Int) = (h : Int) := w64_id (by omega) (by omega)
      have whs : w64 ((h : Int) + 1) = ((h + 1 : Nat) : Int) := w64_succ (by omega)
      have hLe : L = (P ++ (A1 ++ M1)) ++ z :: (M2 ++ (A2 ++ y :: Q)) := by rw [hL, hA, hM]; simp
      have e1 : idx L (w64 (h : Int)) = some z := idx_mid hLe (by rw [wh, hhe]; simp)
      have e2 : idx L m = some y := idx_mid (A := P ++ A) (B := Q) (by rw [hL]; simp) (by rw [hm]; simp)
      obtain ⟨c, c1, c2⟩ := hc N y z hN (hV y (by rw [hL]; simp)) (hV z (by rw [hLe]; simp))
      have hSM : Srt K r (M1 ++ (z :: M2)) := by
        have := hS; rw [hA, hM] at this
        exact (srt_app.mp (srt_app.mp this).2.1).1
      by_cases hxy : K y < K z
      · obtain ⟨C1, C2, q1, q2, q3, q4⟩ := ih A1 M1 (z :: M2 ++ A2) i (w64 (h : Int)) (by omega) (by rw [hA, hM]; simp) h1
          (by
            intro w hw
            rcases List.mem_append.mp hw with hw | hw
            · exact Int.lt_of_lt_of_le hxy (srt_first (srt_app.mp hSM).2.1 w hw)
            · exact h2 w hw) hi (by rw [wh, hhe])
        refine ⟨C1, C2, q1, q2, q3, ?_⟩
        simp only [slices_symMergeCmpFunc_int_of_global_Edges_1_l8, hlt, cond_true, hh, Option.bind_some, e1, e2, c1, c2, decide_eq_true hxy, Bool.not_true, cond_false]
        exact q4
      · obtain ⟨C1, C2, q1, q2, q3, q4⟩ := ih (A1 ++ (M1 ++ [z])) M2 A2 (w64 (w64 (h : Int) + 1)) j (by omega) (by rw [hA, hM]; simp)
          (by
            intro w hw
            rcases List.mem_append.mp hw with hw | hw
            · exact h1 w hw
            · have hS' : Srt K r ((M1 ++ [z]) ++ M2) := by simpa using hSM
              exact Int.le_trans (srt_last (srt_app.mp hS').1 w hw) (by omega)) h2 (by rw [wh, whs, hhe]; simp; omega) (by rw [hj, hMl]; simp; omega)
        refine ⟨C1, C2, q1, q2, q3, ?_⟩
        simp only [slices_symMergeCmpFunc_int_of_global_Edges_1_l8, hlt, cond_true, hh, Option.bind_some, e1, e2, c1, c2, decide_eq_false hxy, Bool.not_false]
        exact q4
/-- The common place of two sorted runs. -/
theorem e_find3 (hc : e_Cmp K V g) {N : Nat} (hN : 4 ≤ N) (rc : List Int → Int → Int → Int → T_api_Global → Option (List Int)) (L : List Int) (a m b x : Int) (lo hi mm mid : Nat) (hV : ∀ y ∈ L, V y)
    (hx : x = (mid : Int)) (hm : m = (mm : Int)) (hlm : L.length ≤ 4194304) (hhi : hi ≤ mm) (hhm : hi ≤ mid) (hmm : mm ≤ L.length) (hn : mid + mm ≤ lo + L.length) :
    ∀ (n : Nat) (s t : Nat) (i j : Int), t - s < n → lo ≤ s → s ≤ t → t ≤ hi → i = (s : Int) → j = (t : Int) → (s = lo ∨ ∀ u v, L[s - 1]? = some u → L[mid + mm - s]? = some v → K u ≤ K v) → (t = hi ∨ ∀ u v, L[t]? = some u → L[mid + mm - 1 - t]? = some v → K v < K u) →
    ∃ s, lo ≤ s ∧ s ≤ hi ∧ (s = lo ∨ ∀ u v, L[s - 1]? = some u → L[mid + mm - s]? = some v → K u ≤ K v) ∧ (s = hi ∨ ∀ u v, L[s]? = some u → L[mid + mm - 1 - s]? = some v → K v < K u) ∧
      slices_symMergeCmpFunc_int_of_global_Edges_1_l14 N rc L a m b g x n i j = slices_symMergeCmpFunc_int_of_global_Edges_1_k13 N rc L a m b g x (s : Int) := by
  intro n
  induction n with
  | zero => intro s t i j h; omega
  | succ n ih =>
    intro s t i j hn h1 h2 h3 hi hj p1 p2
    by_cases hst : s < t
    · have hlt : decide (i < j) = true := by simp; omega
      have hh := half (a := s) (b := t) (by omega) hi hj
      generalize hhv : (s + t) / 2 = h at hh
      have wh : w64 (h : Int) = (h : Int) := w64_id (by omega) (by omega)
      have whs : w64 ((h : Int) + 1) = ((h + 1 : Nat) : Int) := w64_succ (by omega)
      have wx : w64 x = (mid : Int) := by rw [w64_id (by omega) (by omega)]; exact hx
      have wn : w64 (w64 x + m) = ((mid + mm : Nat) : Int) := by rw [wx, w64_id (by omega) (by omega)]; omega
      have wn1 : w64 (w64 (w64 x + m) - 1) = ((mid + mm - 1 : Nat) : Int) := by rw [wn, w64_id (by omega) (by omega)]; omega
      have wp : w64 (w64 (w64 (w64 x + m) - 1) - w64 (h : Int)) = ((mid + mm - 1 - h : Nat) : Int) := by rw [wn1, wh, w64_id (by omega) (by omega)]; omega
      obtain ⟨u, hu⟩ : ∃ u, L[h]? = some u := ⟨L[h]'(by omega), List.getElem?_eq_getElem _⟩
      obtain ⟨v, hv⟩ : ∃ v, L[mid + mm - 1 - h]? = some v := ⟨L[mid + mm - 1 - h]'(by omega), List.getElem?_eq_getElem _⟩
      have e1 : idx L (w64 (w64 (w64 (w64 x + m) - 1) - w64 (h : Int))) = some v := by rw [wp, idx_nat, hv]
      have e2 : idx L (w64 (h : Int)) = some u := by rw [wh, idx_nat, hu]
      obtain ⟨c, c1, c2⟩ := hc N v u hN (hV v (List.mem_of_getElem? hv)) (hV u (List.mem_of_getElem? hu))
      by_cases hvu : K v < K u
      · obtain ⟨s', q1, q2, q3, q4, q5⟩ := ih s h i (w64 (h : Int)) (by omega) h1 (by omega) (by omega) hi wh p1 (by
          right; intro u' v' hu' hv'
          rw [hu] at hu'; rw [hv] at hv'
          cases hu'; cases hv'; exact hvu)
        refine ⟨s', q1, q2, q3, q4, ?_⟩
        simp only [slices_symMergeCmpFunc_int_of_global_Edges_1_l14, hlt, cond_true, hh, Option.bind_some, e1, e2, c1, c2, decide_eq_true hvu, Bool.not_true, cond_false]
        exact q5
      · obtain ⟨s', q1, q2, q3, q4, q5⟩ := ih (h + 1) t (w64 (w64 (h : Int) + 1)) j (by omega) (by omega) (by omega) (by omega) (by rw [wh, whs]) hj (by
          right; intro u' v' hu' hv'
          rw [show h + 1 - 1 = h by omega, hu] at hu'; rw [show mid + mm - (h + 1) = mid + mm - 1 - h by omega, hv] at hv'
          cases hu'; cases hv'; omega) p2
        refine ⟨s', q1, q2, q3, q4, ?_⟩
        simp only [slices_symMergeCmpFunc_int_of_global_Edges_1_l14, hlt, cond_true, hh, Option.bind_some, e1, e2, c1, c2, decide_eq_false hvu, Bool.not_false]
        exact q5
    · have : s = t := by omega
      subst this
      have hlt : decide (i < j) = false := by simp; omega
      refine ⟨s, h1, h3, p1, p2, ?_⟩
      simp only [slices_symMergeCmpFunc_int_of_global_Edges_1_l14, hlt, cond_false]
      rw [hi]
theorem perm4 {α : Type} {A1 A2 B1 B2 C1 C2 : List α} (h1 : C1.Perm (A1 ++ B1)) (h2 : C2.Perm (A2 ++ B2)) : (C1 ++ C2).Perm ((A1 ++ A2) ++ (B1 ++ B2)) := by
  refine (h1.append h2).trans ?_
  rw [List.append_assoc, List.append_assoc]
  refine List.Perm.append_left A1 ?_
  rw [← List.append_assoc, ← List.append_assoc]
  exact List.Perm.append_right B2 List.perm_append_comm
/-- What a merge promises within a fuel. -/
def e_Mrg (K : Int → Int) (r : Int → Int → Prop) (V : Int → Prop) (g : T_api_Global) (f : List Int → Int → Int → Int → T_api_Global → Option (List Int)) (w : Nat) : Prop :=
  ∀ (P A B Q L : List Int) (a m b : Int), A.length + B.length + L.length + 8 ≤ w → L.length ≤ 4194304 → (∀ y ∈ L, V y) → 0 < A.length → 0 < B.length → Srt K r A → Srt K r B → Cross r A B → L = P ++ (A ++ (B ++ Q)) →
    a = (P.length : Int) → m = ((P.length + A.length : Nat) : Int) → b = ((P.length + (A.length + B.length) : Nat) : Int) →
    ∃ C, C.Perm (A ++ B) ∧ Srt K r C ∧ f L a m b g = some (P ++ (C ++ Q))
/-- Behind the common place: exchange, and merge both halves. -/
theorem e_halves {N : Nat} (rc : List Int → Int → Int → Int → T_api_Global → Option (List Int)) (P A1 A2 B1 B2 Q L : List Int) (a m b x : Int)
    (hr : e_Mrg K r V g rc N) (hN : (A1.length + A2.length) + (B1.length + B2.length) + L.length + 8 ≤ N + 1) (hlm : L.length ≤ 4194304) (hV : ∀ y ∈ L, V y)
    (hA0 : 0 < A1.length + A2.length) (hB0 : 0 < B1.length + B2.length) (h2 : 0 < A2.length + B2.length) (h1 : 0 < A1.length + B1.length)
    (hA : Srt K r (A1 ++ A2)) (hB : Srt K r (B1 ++ B2)) (hX : Cross r (A1 ++ A2) (B1 ++ B2)) (hL : L = P ++ ((A1 ++ A2) ++ ((B1 ++ B2) ++ Q)))
    (ha : a = (P.length : Int)) (hm : m = ((P.length + (A1.length + A2.length) : Nat) : Int)) (hb : b = ((P.length + (A1.length + A2.length + (B1.length + B2.length)) : Nat) : Int))
    (hx : x = ((P.length + (A1.length + B1.length) : Nat) : Int)) (k1 : ∀ u ∈ A1, ∀ v ∈ B2, K u ≤ K v) (k2 : ∀ v ∈ B1, ∀ u ∈ A2, K v < K u) :
    ∃ C, C.Perm ((A1 ++ A2) ++ (B1 ++ B2)) ∧ Srt K r C ∧ slices_symMergeCmpFunc_int_of_global_Edges_1_k13 N rc L a m b g x ((P.length + A1.length : Nat) : Int) = some (P ++ (C ++ Q)) := by
  have hLl : L.length = P.length + (A1.length + A2.length + (B1.length + B2.length + Q.length)) := by rw [hL]; simp; omega
  have wx : w64 x = x := w64_id (by omega) (by omega)
  have we : w64 (w64 (w64 x + m) - ((P.length + A1.length : Nat) : Int)) = ((P.length + (A1.length + A2.length + B1.length) : Nat) : Int) := by
    rw [wx, w64_id (n := x + m) (by omega) (by omega), w64_id (by omega) (by omega)]; omega
  -- the exchange
  have rotd : slices_symMergeCmpFunc_int_of_global_Edges_1_k13 N rc L a m b g x ((P.length + A1.length : Nat) : Int) = slices_symMergeCmpFunc_int_of_global_Edges_1_k11 rc a m b g x ((P.length + A1.length : Nat) : Int) (P ++ (A1 ++ (B1 ++ (A2 ++ (B2 ++ Q))))) := by
    rcases Nat.eq_zero_or_pos A2.length with h0 | h0
    · have : A2 = [] := List.length_eq_zero_iff.mp h0
      subst this
      have hf : decide (((P.length + A1.length : Nat) : Int) < m) = false := by simp at hm; simp; omega
      simp only [slices_symMergeCmpFunc_int_of_global_Edges_1_k13, hf, cond_false, slices_symMergeCmpFunc_int_of_global_Edges_1_k12]
      rw [hL]; simp
    · have hf : decide (((P.length + A1.length : Nat) : Int) < m) = true := by simp; omega
      rcases Nat.eq_zero_or_pos B1.length with g0 | g0
      · have : B1 = [] := List.length_eq_zero_iff.mp g0
        subst this
        have hf2 : decide (m < w64 (w64 (w64 x + m) - ((P.length + A1.length : Nat) : Int))) = false := by rw [we]; simp; simp at hm; omega
        simp only [slices_symMergeCmpFunc_int_of_global_Edges_1_k13, hf, cond_true, hf2, cond_false, slices_symMergeCmpFunc_int_of_global_Edges_1_k12]
        rw [hL]; simp
      · have hf2 : decide (m < w64 (w64 (w64 x + m) - ((P.length + A1.length : Nat) : Int))) = true := by rw [we]; simp; omega
        have hrot := e_rot (g := g) (N := N) A2 B1 (P ++ A1) (B2 ++ Q) L ((P.length + A1.length : Nat) : Int) m (w64 (w64 (w64 x + m) - ((P.length + A1.length : Nat) : Int))) (by omega) (by simp; omega) h0 g0
          (by rw [hL]; simp) (by simp) (by rw [hm]; simp; omega) (by rw [we]; simp; omega)
        simp only [slices_symMergeCmpFunc_int_of_global_Edges_1_k13, hf, hf2, cond_true, slices_symMergeCmpFunc_int_of_global_Edges_1_k12, hrot, Option.bind_some]
        simp
  rw [rotd]
  obtain ⟨a1, a2, a3⟩ := srt_app.mp hA
  obtain ⟨b1, b2, b3⟩ := srt_app.mp hB
  have hX1 : Cross r A1 B1 := fun u hu v hv => hX u (by simp [hu]) v (by simp [hv])
  have hX2 : Cross r A2 B2 := fun u hu v hv => hX u (by simp [hu]) v (by simp [hv])
  have hVm : ∀ y, (y ∈ P ∨ y ∈ A1 ∨ y ∈ A2 ∨ y ∈ B1 ∨ y ∈ B2 ∨ y ∈ Q) → V y := by
    intro y hy; apply hV; rw [hL]; simp; rcases hy with h | h | h | h | h | h <;> simp [h]
  -- the first half
  have first : ∃ C1, C1.Perm (A1 ++ B1) ∧ Srt K r C1 ∧ slices_symMergeCmpFunc_int_of_global_Edges_1_k11 rc a m b g x ((P.length + A1.length : Nat) : Int) (P ++ (A1 ++ (B1 ++ (A2 ++ (B2 ++ Q))))) = slices_symMergeCmpFunc_int_of_global_Edges_1_k9 rc m b g x ((P.length + A1.length : Nat) : Int) (P ++ (C1 ++ (A2 ++ (B2 ++ Q)))) := by
    rcases Nat.eq_zero_or_pos A1.length with h0 | h0
    · have : A1 = [] := List.length_eq_zero_iff.mp h0
      subst this
      have hf : decide (a < ((P.length + ([] : List Int).length : Nat) : Int)) = false := by simp; omega
      exact ⟨B1, .refl _, b1, by simp only [slices_symMergeCmpFunc_int_of_global_Edges_1_k11, hf, cond_false, slices_symMergeCmpFunc_int_of_global_Edges_1_k10]; rfl⟩
    · have hf : decide (a < ((P.length + A1.length : Nat) : Int)) = true := by simp; omega
      rcases Nat.eq_zero_or_pos B1.length with g0 | g0
      · have : B1 = [] := List.length_eq_zero_iff.mp g0
        subst this
        have hf2 : decide (((P.length + A1.length : Nat) : Int) < w64 x) = false := by rw [wx, hx]; simp
        exact ⟨A1, by simp, a1, by simp only [slices_symMergeCmpFunc_int_of_global_Edges_1_k11, hf, cond_true, hf2, cond_false, slices_symMergeCmpFunc_int_of_global_Edges_1_k10]; simp⟩
      · have hf2 : decide (((P.length + A1.length : Nat) : Int) < w64 x) = true := by rw [wx, hx]; simp; omega
        obtain ⟨C1, c1, c2, c3⟩ := hr P A1 B1 (A2 ++ (B2 ++ Q)) _ a ((P.length + A1.length : Nat) : Int) (w64 x) (by simp; omega) (by simp; omega) (by intro y hy; apply hVm; simp at hy; rcases hy with h | h | h | h | h | h <;> simp [h]) h0 g0 a1 b1 hX1 rfl ha rfl (by rw [wx, hx])
        exact ⟨C1, c1, c2, by simp only [slices_symMergeCmpFunc_int_of_global_Edges_1_k11, hf, cond_true, hf2, slices_symMergeCmpFunc_int_of_global_Edges_1_k10, c3, Option.bind_some]⟩
  obtain ⟨C1, c1, c2, c3⟩ := first
  have hC1 : C1.length = A1.length + B1.length := by rw [c1.length_eq]; simp
  have second : ∃ C2, C2.Perm (A2 ++ B2) ∧ Srt K r C2 ∧ slices_symMergeCmpFunc_int_of_global_Edges_1_k9 rc m b g x ((P.length + A1.length : Nat) : Int) (P ++ (C1 ++ (A2 ++ (B2 ++ Q)))) = some (P ++ (C1 ++ (C2 ++ Q))) := by
    rcases Nat.eq_zero_or_pos A2.length with h0 | h0
    · have : A2 = [] := List.length_eq_zero_iff.mp h0
      subst this
      have hf : decide (w64 x < w64 (w64 (w64 x + m) - ((P.length + A1.length : Nat) : Int))) = false := by rw [we, wx, hx]; simp
      exact ⟨B2, .refl _, b2, by simp only [slices_symMergeCmpFunc_int_of_global_Edges_1_k9, hf, cond_false]; simp⟩
    · have hf : decide (w64 x < w64 (w64 (w64 x + m) - ((P.length + A1.length : Nat) : Int))) = true := by rw [we, wx, hx]; simp; omega
      rcases Nat.eq_zero_or_pos B2.length with g0 | g0
      · have : B2 = [] := List.length_eq_zero_iff.mp g0
        subst this
        have hf2 : decide (w64 (w64 (w64 x + m) - ((P.length + A1.length : Nat) : Int)) < b) = false := by rw [we, hb]; simp
        exact ⟨A2, by simp, a2, by simp only [slices_symMergeCmpFunc_int_of_global_Edges_1_k9, hf, cond_true, hf2, cond_false]; simp⟩
      · have hf2 : decide (w64 (w64 (w64 x + m) - ((P.length + A1.length : Nat) : Int)) < b) = true := by rw [we, hb]; simp; omega
        obtain ⟨C2, d1, d2, d3⟩ := hr (P ++ C1) A2 B2 Q (P ++ (C1 ++ (A2 ++ (B2 ++ Q)))) (w64 x) (w64 (w64 (w64 x + m) - ((P.length + A1.length : Nat) : Int))) b (by simp; omega) (by simp; omega)
          (by
            intro y hy; apply hVm; simp at hy
            rcases hy with h | h | h | h | h
            · simp [h]
            · have := c1.mem_iff.mp h; simp at this; rcases this with h | h <;> simp [h]
            · simp [h]
            · simp [h]
            · simp [h]) h0 g0 a2 b2 hX2 (by simp) (by rw [wx, hx]; simp; omega) (by rw [we]; simp; omega) (by rw [hb]; simp; omega)
        exact ⟨C2, d1, d2, by simp only [slices_symMergeCmpFunc_int_of_global_Edges_1_k9, hf, hf2, cond_true, d3, Option.bind_some]; simp⟩
  obtain ⟨C2, d1, d2, d3⟩ := second
  refine ⟨C1 ++ C2, perm4 c1 d1, srt_app.mpr ⟨c2, d2, ?_⟩, by rw [c3, d3]; simp⟩
  intro u hu v hv
  have hu := c1.mem_iff.mp hu
  have hv := d1.mem_iff.mp hv
  rcases List.mem_append.mp hu with hu | hu <;> rcases List.mem_append.mp hv with hv | hv
  · exact a3 u hu v hv
  · exact Lt.of (k1 u hu v hv) (hX u (by simp [hu]) v (by simp [hv]))
  · exact .inl (k2 u hu v hv)
  · exact b3 u hu v hv
end Gp
end
section
/- Plain law: the library's stable sort. -/
set_option linter.unusedVariables false
set_option linter.unusedSimpArgs false
namespace Gp
open Go Go.Kx Gx
variable {K : Int → Int} {r : Int → Int → Prop} {V : Int → Prop} {g : T_api_Global}
theorem e_mrg_one (hc : e_Cmp K V g) (w : Nat) (rc : List Int → Int → Int → Int → T_api_Global → Option (List Int)) (P B Q L : List Int) (x : Int) (a m b : Int) (hN : 1 + B.length + L.length + 7 ≤ w) (hlm : L.length ≤ 4194304) (hV : ∀ y ∈ L, V y)
    (hB : Srt K r B) (hX : Cross r [x] B) (hL : L = P ++ ([x] ++ (B ++ Q))) (ha : a = (P.length : Int)) (hm : m = ((P.length + 1 : Nat) : Int)) (hb : b = ((P.length + (1 + B.length) : Nat) : Int)) :
    ∃ C, C.Perm ([x] ++ B) ∧ Srt K r C ∧ slices_symMergeCmpFunc_int_of_global_Edges_1_b w rc L a m b g = some (P ++ (C ++ Q)) := by
  have hLl : L.length = P.length + (1 + (B.length + Q.length)) := by rw [hL]; simp; omega
  have h1 : (w64 (m - a) == (1 : Int)) = true := by rw [w64_id (by omega) (by omega)]; simp; omega
  obtain ⟨B1, B2, q1, q2, q3, q4⟩ := e_find1 hc (N := w) (by omega) P Q L B x a hV hB (by rw [hL]; simp) ha (by omega) w [] B [] m b (by omega) (by simp) (by simp) (by simp) (by rw [hm]; simp) (by rw [hb]; simp; omega)
  subst q1
  simp only [List.length_append] at hN hLl hb
  have hf := e_fwd (v := ((P.length + 1 + B1.length : Nat) : Int)) w B1 P (B2 ++ Q) L x a (by omega) (by omega) (by rw [hL]; simp) ha (by omega)
  refine ⟨B1 ++ x :: B2, ?_, srt_ins' hB q2 q3 (fun y hy => hX x (by simp) y (by simp [hy])), ?_⟩
  · exact List.perm_middle
  · simp only [slices_symMergeCmpFunc_int_of_global_Edges_1_b, h1, cond_true, q4, slices_symMergeCmpFunc_int_of_global_Edges_1_k3, hf]; simp
theorem e_mrg_two (hc : e_Cmp K V g) (w : Nat) (rc : List Int → Int → Int → Int → T_api_Global → Option (List Int)) (P A Q L : List Int) (y : Int) (a m b : Int) (hN : A.length + 1 + L.length + 7 ≤ w) (hlm : L.length ≤ 4194304) (hV : ∀ y ∈ L, V y) (hA1 : A.length ≠ 1)
    (hA : Srt K r A) (hX : Cross r A [y]) (hL : L = P ++ (A ++ ([y] ++ Q))) (ha : a = (P.length : Int)) (hm : m = ((P.length + A.length : Nat) : Int)) (hb : b = ((P.length + (A.length + 1) : Nat) : Int)) :
    ∃ C, C.Perm (A ++ [y]) ∧ Srt K r C ∧ slices_symMergeCmpFunc_int_of_global_Edges_1_b w rc L a m b g = some (P ++ (C ++ Q)) := by
  have hLl : L.length = P.length + (A.length + (1 + Q.length)) := by rw [hL]; simp; omega
  have h1 : (w64 (m - a) == (1 : Int)) = false := by rw [w64_id (by omega) (by omega)]; simp; omega
  have h2 : (w64 (b - m) == (1 : Int)) = true := by rw [w64_id (by omega) (by omega)]; simp; omega
  obtain ⟨A1, A2, q1, q2, q3, q4⟩ := e_find2 hc (N := w) (by omega) P Q L A y m hV hA (by rw [hL]; simp) hm (by omega) w [] A [] a m (by omega) (by simp) (by simp) (by simp) (by rw [ha]; simp) (by rw [hm]; simp)
  subst q1
  simp only [List.length_append] at hN hLl hb hm
  have hf := e_bwd (v := ((P.length + A1.length : Nat) : Int)) w A2 (P ++ A1) Q L y m (by omega) (by simp; omega) (by rw [hL]; simp) (by rw [hm]; simp; omega) (by simp)
  refine ⟨A1 ++ y :: A2, ?_, srt_ins hA q2 (fun z hz => hX z (by simp [hz]) y (by simp)) q3, ?_⟩
  · rw [List.append_assoc]
    refine List.Perm.append_left A1 ?_
    exact (List.perm_append_singleton y A2).symm
  · simp only [slices_symMergeCmpFunc_int_of_global_Edges_1_b, h1, cond_false, h2, cond_true, q4, slices_symMergeCmpFunc_int_of_global_Edges_1_k7, hf]; simp
theorem e_mrg_many (hc : e_Cmp K V g) (w : Nat) (rc : List Int → Int → Int → Int → T_api_Global → Option (List Int)) (hr : e_Mrg K r V g rc w) (P A B Q L : List Int) (a m b : Int) (hN : A.length + B.length + L.length + 8 ≤ w + 1) (hlm : L.length ≤ 4194304) (hV : ∀ y ∈ L, V y) (hA1 : 2 ≤ A.length) (hB1 : 2 ≤ B.length)
    (hA : Srt K r A) (hB : Srt K r B) (hX : Cross r A B) (hL : L = P ++ (A ++ (B ++ Q))) (ha : a = (P.length : Int)) (hm : m = ((P.length + A.length : Nat) : Int)) (hb : b = ((P.length + (A.length + B.length) : Nat) : Int)) :
    ∃ C, C.Perm (A ++ B) ∧ Srt K r C ∧ slices_symMergeCmpFunc_int_of_global_Edges_1_b w rc L a m b g = some (P ++ (C ++ Q)) := by
  have hLl : L.length = P.length + (A.length + (B.length + Q.length)) := by rw [hL]; simp
  have h1 : (w64 (m - a) == (1 : Int)) = false := by rw [w64_id (by omega) (by omega)]; simp; omega
  have h2 : (w64 (b - m) == (1 : Int)) = false := by rw [w64_id (by omega) (by omega)]; simp; omega
  have hh := half (a := P.length) (b := P.length + (A.length + B.length)) (by omega) ha hb
  generalize hhv : (P.length + (P.length + (A.length + B.length))) / 2 = mid at hh
  have wmid : w64 (mid : Int) = (mid : Int) := w64_id (by omega) (by omega)
  have wn : w64 (w64 (mid : Int) + m) = ((mid + (P.length + A.length) : Nat) : Int) := by rw [wmid, w64_id (by omega) (by omega)]; omega
  -- the common place
  have place : ∃ s lo hi : Nat, lo ≤ s ∧ s ≤ hi ∧ hi ≤ P.length + A.length ∧ hi ≤ mid ∧ P.length ≤ lo ∧ mid + (P.length + A.length) ≤ lo + (P.length + (A.length + B.length)) ∧ (lo = P.length ∨ lo + (P.length + (A.length + B.length)) = mid + (P.length + A.length)) ∧ (hi = mid ∨ hi = P.length + A.length) ∧
      (s = lo ∨ ∀ u v, L[s - 1]? = some u → L[mid + (P.length + A.length) - s]? = some v → K u ≤ K v) ∧ (s = hi ∨ ∀ u v, L[s]? = some u → L[mid + (P.length + A.length) - 1 - s]? = some v → K v < K u) ∧
      slices_symMergeCmpFunc_int_of_global_Edges_1_b w rc L a m b g = slices_symMergeCmpFunc_int_of_global_Edges_1_k13 w rc L a m b g (mid : Int) (s : Int) := by
    by_cases hmid : mid < P.length + A.length
    · have hd : decide (m > w64 (mid : Int)) = true := by rw [wmid]; simp; omega
      have ws : w64 (w64 (w64 (mid : Int) + m) - b) = ((mid + (P.length + A.length) - (P.length + (A.length + B.length)) : Nat) : Int) := by rw [wn, w64_id (by omega) (by omega)]; omega
      obtain ⟨s, p1, p2, p3, p4, p5⟩ := e_find3 hc (N := w) (by omega) rc L a m b (mid : Int) (mid + (P.length + A.length) - (P.length + (A.length + B.length))) mid (P.length + A.length) mid hV rfl hm hlm (by omega) (by omega) (by omega) (by omega)
        w _ mid _ (w64 (mid : Int)) (by omega) (Nat.le_refl _) (by omega) (by omega) ws wmid (.inl rfl) (.inl rfl)
      refine ⟨s, _, mid, p1, p2, by omega, by omega, by omega, by omega, by omega, .inl rfl, p3, p4, ?_⟩
      simp only [slices_symMergeCmpFunc_int_of_global_Edges_1_b, h1, h2, cond_false, hh, Option.bind_some, hd, cond_true, slices_symMergeCmpFunc_int_of_global_Edges_1_k15]
      exact p5
    · have hd : decide (m > w64 (mid : Int)) = false := by rw [wmid]; simp; omega
      obtain ⟨s, p1, p2, p3, p4, p5⟩ := e_find3 hc (N := w) (by omega) rc L a m b (mid : Int) P.length (P.length + A.length) (P.length + A.length) mid hV rfl hm hlm (by omega) (by omega) (by omega) (by omega)
        w P.length (P.length + A.length) a m (by omega) (Nat.le_refl _) (by omega) (by omega) ha hm (.inl rfl) (.inl rfl)
      refine ⟨s, P.length, _, p1, p2, by omega, by omega, by omega, by omega, .inl rfl, .inr rfl, p3, p4, ?_⟩
      simp only [slices_symMergeCmpFunc_int_of_global_Edges_1_b, h1, h2, cond_false, hh, Option.bind_some, hd, slices_symMergeCmpFunc_int_of_global_Edges_1_k15]
      exact p5
  obtain ⟨s, lo, hi, p1, p2, p3, p4, p5, p6, p7, p8, p9, p10, p11⟩ := place
  obtain ⟨A1, A2, eA, lA⟩ := cut_at A (s - P.length) (by omega)
  obtain ⟨B1, B2, eB, lB⟩ := cut_at B (mid - s) (by omega)
  subst eA eB
  simp only [List.length_append] at *
  have hs : s = P.length + A1.length := by omega
  have k1 : ∀ u ∈ A1, ∀ v ∈ B2, K u ≤ K v := by
    intro u hu v hv
    rcases List.eq_nil_or_concat A1 with h | ⟨A1', u0, h⟩
    · subst h; simp at hu
    · rw [List.concat_eq_append] at h
      cases B2 with
      | nil => simp at hv
      | cons v0 B2' =>
        subst h
        simp only [List.length_append, List.length_cons, List.length_nil] at *
        rcases p9 with p9 | p9
        · omega
        · have h1 := p9 u0 v0 (get_at (A := P ++ A1') (B := A2 ++ (B1 ++ (v0 :: B2') ++ Q)) (by rw [hL]; simp) (by simp; omega))
            (get_at (A := P ++ (A1' ++ [u0] ++ A2) ++ B1) (B := B2' ++ Q) (by rw [hL]; simp) (by simp; omega))
          exact Int.le_trans (srt_last (srt_app.mp hA).1 u hu) (Int.le_trans h1 (srt_first (srt_app.mp hB).2.1 v hv))
  have k2 : ∀ v ∈ B1, ∀ u ∈ A2, K v < K u := by
    intro v hv u hu
    rcases List.eq_nil_or_concat B1 with h | ⟨B1', v0, h⟩
    · subst h; simp at hv
    · rw [List.concat_eq_append] at h
      cases A2 with
      | nil => simp at hu
      | cons u0 A2' =>
        subst h
        simp only [List.length_append, List.length_cons, List.length_nil] at *
        rcases p10 with p10 | p10
        · omega
        · have h1 := p10 u0 v0 (get_at (A := P ++ A1) (B := A2' ++ (B1' ++ [v0] ++ B2 ++ Q)) (by rw [hL]; simp) (by simp; omega))
            (get_at (A := P ++ (A1 ++ u0 :: A2') ++ B1') (B := B2 ++ Q) (by rw [hL]; simp) (by simp; omega))
          exact Int.lt_of_le_of_lt (srt_last (srt_app.mp hB).1 v hv) (Int.lt_of_lt_of_le h1 (srt_first (srt_app.mp hA).2.1 u hu))
  rw [p11, hs]
  exact e_halves rc P A1 A2 B1 B2 Q L a m b (mid : Int) hr (by omega) hlm hV (by omega) (by omega) (by omega) (by omega) hA hB hX hL ha hm hb (by omega) k1 k2
theorem e_mrg (hc : e_Cmp K V g) : ∀ w, e_Mrg K r V g (slices_symMergeCmpFunc_int_of_global_Edges_1_r w) w := by
  intro w
  induction w with
  | zero => intro P A B Q L a m b h; omega
  | succ w ih =>
    intro P A B Q L a m b hN hlm hV hA0 hB0 hA hB hX hL ha hm hb
    show ∃ C, C.Perm (A ++ B) ∧ Srt K r C ∧ slices_symMergeCmpFunc_int_of_global_Edges_1_b w (slices_symMergeCmpFunc_int_of_global_Edges_1_r w) L a m b g = some (P ++ (C ++ Q))
    by_cases hA1 : A.length = 1
    · obtain ⟨x, rfl⟩ := List.length_eq_one_iff.mp hA1
      exact e_mrg_one hc w _ P B Q L x a m b (by simp at hN; omega) hlm hV hB hX hL ha hm hb
    · by_cases hB1 : B.length = 1
      · obtain ⟨y, rfl⟩ := List.length_eq_one_iff.mp hB1
        exact e_mrg_two hc w _ P A Q L y a m b (by simp at hN; omega) hlm hV hA1 hA hX hL ha hm hb
      · exact e_mrg_many hc w _ ih P A B Q L a m b (by omega) hlm hV (by omega) (by omega) hA hB hX hL ha hm hb
end Gp
end
section
/- Plain law: the library's stable sort, block by block. -/
set_option linter.unusedVariables false
set_option linter.unusedSimpArgs false
namespace Gp
open Go Go.Kx Gx
variable {K : Int → Int} {r : Int → Int → Prop} {V : Int → Prop} {g : T_api_Global}
theorem e_stb_ins (hc : e_Cmp K V g) {N : Nat} (n : Int) (T : Nat) (hT : T ≤ 4194304) (hN : T + 8 < N) (hn : n = (T : Int)) :
    ∀ (f : Nat) (P R L : List Int) (a b : Int), R.length < f → P.length + R.length = T → (∀ y ∈ R, V y) → R.Pairwise r → L = P ++ R → a = (P.length : Int) → b = ((P.length + 20 : Nat) : Int) →
    ∃ C, Bk K r 20 R C ∧ slices_stableCmpFunc_int_of_global_Edges_1_l6 N n g f L a b = slices_stableCmpFunc_int_of_global_Edges_1_l2 N n g N (P ++ C) (20 : Int) := by
  intro f
  induction f with
  | zero => intro P R L a b h; omega
  | succ f ih =>
    intro P R L a b hf hPR hV hr hL ha hb
    by_cases h : 20 ≤ R.length
    · have hd : decide (b ≤ n) = true := by simp; omega
      obtain ⟨R1, R2, eR, lR⟩ := cut_at R 20 h
      subst eR
      simp only [List.length_append] at *
      obtain ⟨C1, c1, c2, c3⟩ := e_ins (r := r) hc (N := N) P R1 R2 a b L (by omega) (by omega) (fun y hy => hV y (by simp [hy])) (List.pairwise_append.mp hr).1 (by rw [hL]) ha (by rw [hb, lR])
      have lC : C1.length = 20 := by rw [c1.length_eq, lR]
      obtain ⟨C2, d1, d2⟩ := ih (P ++ C1) R2 (P ++ (C1 ++ R2)) b (w64 (b + 20)) (by omega) (by simp; omega) (fun y hy => hV y (by simp [hy])) (List.pairwise_append.mp hr).2.1 (by simp)
        (by rw [hb]; simp; omega) (by rw [w64_id (by omega) (by omega), hb]; simp; omega)
      refine ⟨C1 ++ C2, .cons R1 C1 R2 C2 lC c1 c2 d1, ?_⟩
      simp only [slices_stableCmpFunc_int_of_global_Edges_1_l6, hd, cond_true, c3, Option.bind_some]
      rw [d2]; simp
    · have hd : decide (b ≤ n) = false := by simp; omega
      obtain ⟨C1, c1, c2, c3⟩ := e_ins (r := r) hc (N := N) P R [] a n L (by omega) (by omega) hV hr (by rw [hL]; simp) ha (by rw [hn, ← hPR])
      refine ⟨C1, .last R C1 (by rw [c1.length_eq]; omega) c1 c2, ?_⟩
      simp only [slices_stableCmpFunc_int_of_global_Edges_1_l6, hd, cond_false, slices_stableCmpFunc_int_of_global_Edges_1_k5, c3, Option.bind_some]
      simp
theorem e_stb_pass (hc : e_Cmp K V g) {N : Nat} (n : Int) (T : Nat) (hT : T ≤ 4194304) (hN : T + T + 8 ≤ N) (hn : n = (T : Int)) (bs : Nat) (hbs : 0 < bs) (hbT : bs ≤ 4194304) (ag : List Int → Int → Option (List Int)) (v : Int) (hv : v = (bs : Int)) :
    ∀ (f : Nat) (P o c L : List Int) (a b : Int), c.length < f → P.length + c.length = T → (∀ y ∈ L, V y) → o.Pairwise r → Bk K r bs o c → L = P ++ c → a = (P.length : Int) → b = ((P.length + 2 * bs : Nat) : Int) →
    ∃ c', Bk K r (2 * bs) o c' ∧ slices_stableCmpFunc_int_of_global_Edges_1_l4 N n g v ag f L a b = ag (P ++ c') (w64 (v * 2)) := by
  intro f
  induction f with
  | zero => intro P o c L a b h; omega
  | succ f ih =>
    intro P o c L a b hf hPc hV hr hB hL ha hb
    have wab : w64 (a + v) = ((P.length + bs : Nat) : Int) := by rw [w64_id (by omega) (by omega)]; omega
    have hLl : L.length = T := by rw [hL]; simpa using hPc
    by_cases h : 2 * bs ≤ c.length
    · have hd : decide (b ≤ n) = true := by simp; omega
      obtain ⟨o1, o2, o3, c1, c2, c3, eo, ec, l1, l2, p1, p2, s1, s2, hB3⟩ := hB.two hbs h
      subst eo ec
      simp only [List.length_append] at *
      have hcr : Cross r c1 c2 := cross_perm (A := o1) (B := o2) (fun x hx y hy => (List.pairwise_append.mp hr).2.2 x hx y (by simp [hy])) p1 p2
      obtain ⟨C, q1, q2, q3⟩ := e_mrg (K := K) (r := r) hc N P c1 c2 c3 L a (w64 (a + v)) b (by omega) (by omega) hV (by omega) (by omega) s1 s2 hcr (by rw [hL]) ha (by rw [wab, l1]) (by rw [hb]; omega)
      have q3' : slices_symMergeCmpFunc_int_of_global_Edges_1 N L a (w64 (a + v)) b g = some (P ++ (C ++ c3)) := q3
      have lC : C.length = 2 * bs := by rw [q1.length_eq]; simp; omega
      have w2 : w64 (2 * v) = 2 * v := w64_id (by omega) (by omega)
      obtain ⟨c', d1, d2⟩ := ih (P ++ C) o3 c3 (P ++ (C ++ c3)) b (w64 (b + w64 (2 * v))) (by omega) (by simp; omega)
        (by
          intro y hy
          apply hV
          rw [hL]
          simp at hy ⊢
          rcases hy with h | h | h
          · simp [h]
          · have := q1.mem_iff.mp h; simp at this; rcases this with h | h <;> simp [h]
          · simp [h])
        (List.pairwise_append.mp (List.pairwise_append.mp hr).2.1).2.1 hB3 (by simp) (by rw [hb]; simp; omega) (by rw [w2, w64_id (by omega) (by omega), hb]; simp; omega)
      refine ⟨C ++ c', ?_, ?_⟩
      · rw [← List.append_assoc]
        exact .cons (o1 ++ o2) C o3 c' lC (q1.trans (p1.append p2)) q2 d1
      · simp only [slices_stableCmpFunc_int_of_global_Edges_1_l4, hd, cond_true, q3', Option.bind_some]
        rw [d2]; simp
    · have hd : decide (b ≤ n) = false := by simp; omega
      rcases hB.few hbs (by omega) with ⟨h1, h2, h3⟩ | ⟨o1, o2, c1, c2, eo, ec, l1, l2, l3, p1, p2, s1, s2⟩
      · have hk : decide (w64 (a + v) < n) = false := by rw [wab]; simp; omega
        refine ⟨c, .last o c (by omega) h2 h3, ?_⟩
        simp only [slices_stableCmpFunc_int_of_global_Edges_1_l4, hd, cond_false, slices_stableCmpFunc_int_of_global_Edges_1_k3, hk]
        rw [hL]
      · subst eo ec
        simp only [List.length_append] at *
        have hk : decide (w64 (a + v) < n) = true := by rw [wab]; simp; omega
        have hcr : Cross r c1 c2 := cross_perm (A := o1) (B := o2) (fun x hx y hy => (List.pairwise_append.mp hr).2.2 x hx y hy) p1 p2
        obtain ⟨C, q1, q2, q3⟩ := e_mrg (K := K) (r := r) hc N P c1 c2 [] L a (w64 (a + v)) n (by omega) (by omega) hV (by omega) (by omega) s1 s2 hcr (by rw [hL]; simp) ha (by rw [wab, l1]) (by rw [hn]; omega)
        have q3' : slices_symMergeCmpFunc_int_of_global_Edges_1 N L a (w64 (a + v)) n g = some (P ++ (C ++ [])) := q3
        refine ⟨C, .last _ C (by rw [q1.length_eq]; simp; omega) (q1.trans (p1.append p2)) q2, ?_⟩
        simp only [slices_stableCmpFunc_int_of_global_Edges_1_l4, hd, cond_false, slices_stableCmpFunc_int_of_global_Edges_1_k3, hk, cond_true, q3', Option.bind_some]
        simp
theorem e_stb_loop (hc : e_Cmp K V g) {N : Nat} (n : Int) (T : Nat) (hT : T ≤ 4194304) (hN : T + T + 8 ≤ N) (hn : n = (T : Int)) :
    ∀ (f : Nat) (o c : List Int) (bs : Nat) (v : Int), T - bs < f → 0 < bs → bs ≤ 2 * 4194304 → c.length = T → (∀ y ∈ c, V y) → o.Pairwise r → Bk K r bs o c → v = (bs : Int) →
    ∃ c', c'.Perm o ∧ Srt K r c' ∧ slices_stableCmpFunc_int_of_global_Edges_1_l2 N n g f c v = some c' := by
  intro f
  induction f with
  | zero => intro o c bs v h; omega
  | succ f ih =>
    intro o c bs v hf hbs hbl hcl hV hr hB hv
    by_cases h : bs < T
    · have hd : decide (v < n) = true := by simp; omega
      have w2 : w64 (2 * v) = 2 * v := w64_id (by omega) (by omega)
      have w2' : w64 (v * 2) = ((2 * bs : Nat) : Int) := by rw [w64_id (by omega) (by omega)]; omega
      obtain ⟨c', d1, d2⟩ := e_stb_pass (K := K) (r := r) hc (N := N) n T hT hN hn bs hbs (by omega) (slices_stableCmpFunc_int_of_global_Edges_1_l2 N n g f) v hv N [] o c c (0 : Int) (w64 (2 * v)) (by omega) (by simpa using hcl) hV hr hB (by simp) (by simp) (by rw [w2, hv]; simp)
      obtain ⟨C, q1, q2, q3⟩ := ih o c' (2 * bs) (w64 (v * 2)) (by omega) (by omega) (by omega) (by rw [← hcl, d1.perm.length_eq, hB.perm.length_eq])
        (fun y hy => hV y (hB.perm.mem_iff.mpr (d1.perm.mem_iff.mp hy))) hr d1 w2'
      refine ⟨C, q1, q2, ?_⟩
      simp only [slices_stableCmpFunc_int_of_global_Edges_1_l2, hd, cond_true, d2]
      simpa using q3
    · have hd : decide (v < n) = false := by simp; omega
      obtain ⟨p, s⟩ := hB.all hbs (by omega)
      exact ⟨c, p, s, by simp only [slices_stableCmpFunc_int_of_global_Edges_1_l2, hd, cond_false, slices_stableCmpFunc_int_of_global_Edges_1_k1]⟩
/-- The stable sort answers the same elements in the order of the key, equal keys in their old order. -/
theorem e_sort (hc : e_Cmp K V g) {N : Nat} (L : List Int) (hT : L.length ≤ 4194304) (hN : L.length + L.length + 64 ≤ N) (hV : ∀ y ∈ L, V y) (hr : L.Pairwise r) :
    ∃ C, C.Perm L ∧ Srt K r C ∧ slices_SortStableFunc_int_int_of_global_Edges_1 N L g = some C := by
  obtain ⟨C1, c1, c2⟩ := e_stb_ins (K := K) (r := r) hc (N := N) (L.length : Int) L.length hT (by omega) rfl N [] L L (0 : Int) (20 : Int) (by omega) (by simp) hV hr (by simp) (by simp) (by simp)
  obtain ⟨C, q1, q2, q3⟩ := e_stb_loop (K := K) (r := r) hc (N := N) (L.length : Int) L.length hT (by omega) rfl N L C1 20 (20 : Int) (by omega) (by omega) (by omega) c1.perm.length_eq
    (fun y hy => hV y (c1.perm.mem_iff.mp hy)) hr c1 (by simp)
  refine ⟨C, q1, q2, ?_⟩
  simp only [slices_SortStableFunc_int_int_of_global_Edges_1, slices_stableCmpFunc_int_of_global_Edges_1, c2]
  rw [List.nil_append, q3]; rfl
end Gp
end
section
/- Plain law: searches in lists and the equality of automata. -/
set_option linter.unusedVariables false
set_option linter.unusedSimpArgs false
namespace Gp
open Go Go.Kx Gx
/-- Whether two lists agree place by place. -/
def alleq {α : Type} (f : α → α → Bool) : List α → List α → Bool
  | [], [] => true
  | x :: l, y :: m => f x y && alleq f l m
  | _, _ => false
theorem alleq_len {α : Type} (f : α → α → Bool) : ∀ (l m : List α), l.length ≠ m.length → alleq f l m = false
  | [], [], h => absurd rfl h
  | [], _ :: _, _ => rfl
  | _ :: _, [], _ => rfl
  | x :: l, y :: m, h => by
    show (f x y && alleq f l m) = false
    rw [alleq_len f l m (by simpa using h)]; simp
theorem alleq_refl {α : Type} (f : α → α → Bool) (hf : ∀ x, f x x = true) : ∀ (l : List α), alleq f l l = true
  | [] => rfl
  | x :: l => by show (f x x && alleq f l l) = true; rw [hf, alleq_refl f hf l]; rfl
theorem alleq_congr {α : Type} (f g : α → α → Bool) : ∀ (l m : List α), (∀ x ∈ l, ∀ y ∈ m, f x y = g x y) → alleq f l m = alleq g l m
  | [], [], _ => rfl
  | [], _ :: _, _ => rfl
  | _ :: _, [], _ => rfl
  | x :: l, y :: m, h => by
    show (f x y && alleq f l m) = (g x y && alleq g l m)
    rw [h x (by simp) y (by simp), alleq_congr f g l m (fun a ha b hb => h a (by simp [ha]) b (by simp [hb]))]
theorem eq_loop_at {α : Type} (f : α → α → Bool) (xs ys : List α) (hl : xs.length = ys.length) (hs : xs.length ≤ 4194304)
    (F : Nat → Int → Option Bool) (e : Option Bool)
    (h1 : ∀ n k x y, k < xs.length → xs[k]? = some x → ys[k]? = some y → F (n + 1) (k : Int) = bif !(f x y) then some false else F n ((k + 1 : Nat) : Int))
    (h2 : ∀ n k, xs.length ≤ k → F (n + 1) (k : Int) = e) :
    ∀ (l m : List α) (k n : Nat), xs.drop k = l → ys.drop k = m → l.length < n → F n (k : Int) = bif alleq f l m then e else some false := by
  intro l
  induction l with
  | nil =>
    intro m k n h hm hn
    obtain ⟨n, rfl⟩ : ∃ m, n = m + 1 := ⟨n - 1, by simp at hn; omega⟩
    have hk := drop_nil h
    have : m = [] := by rw [← hm]; exact List.drop_eq_nil_of_le (by omega)
    subst this
    exact h2 n k hk
  | cons x l ih =>
    intro m k n h hm hn
    obtain ⟨n, rfl⟩ : ∃ m, n = m + 1 := ⟨n - 1, by simp at hn; omega⟩
    obtain ⟨a, c, d⟩ := drop_cons h
    cases m with
    | nil => have := drop_nil hm; omega
    | cons y m =>
      obtain ⟨a', c', d'⟩ := drop_cons hm
      rw [h1 n k x y a c c', ih m (k + 1) n d d' (by simp at hn; omega)]
      show _ = bif (f x y && alleq f l m) then e else some false
      cases f x y <;> rfl
theorem eq_loop {α : Type} (f : α → α → Bool) (xs ys : List α) (hl : xs.length = ys.length) (hs : xs.length ≤ 4194304)
    (F : Nat → Int → Option Bool) (e : Option Bool) {n : Nat} (hn : 4194304 < n)
    (h : ∀ n k, F (n + 1) k = bif decide (k < (xs.length : Int)) then ((idx xs k).bind fun x => (idx ys k).bind fun y => bif !(f x y) then some false else F n (w64 (k + 1))) else e) :
    F n (0 : Int) = bif alleq f xs ys then e else some false := by
  refine eq_loop_at f xs ys hl hs F e ?_ ?_ xs ys 0 n rfl rfl (by omega)
  · intro n k x y hk hx hy
    rw [h, lt_t hk, idx_nat, idx_nat, hx, hy]
    simp only [cond_true, Option.bind_some]
    rw [w64_succ (by omega)]
  · intro n k hk
    rw [h, lt_f hk]; rfl
theorem eq_all {α : Type} (f : α → α → Bool) (xs ys : List α) (hs : xs.length ≤ 4194304)
    (F : Nat → Int → Option Bool) {n : Nat} (hn : 4194304 < n)
    (h : ∀ n k, F (n + 1) k = bif decide (k < (xs.length : Int)) then ((idx xs k).bind fun x => (idx ys k).bind fun y => bif !(f x y) then some false else F n (w64 (k + 1))) else some true) :
    (bif ((xs.length : Int) != (ys.length : Int)) then (some false) else F n (0 : Int)) = some (alleq f xs ys) := by
  by_cases hl : xs.length = ys.length
  · have : ((xs.length : Int) != (ys.length : Int)) = false := by simp [hl]
    rw [this, cond_false, eq_loop f xs ys hl hs F (some true) hn h]
    cases alleq f xs ys <;> rfl
  · have : ((xs.length : Int) != (ys.length : Int)) = true := by simp; omega
    rw [this, alleq_len f xs ys hl]; rfl
/-- A loop that looks at one element after another. -/
theorem look {α γ : Type} (xs : List α) (hs : xs.length ≤ 4194304) (b : α → Int → γ → γ) (F : Nat → Int → γ) (e : γ) {n : Nat} (hn : 4194304 < n)
    (h1 : ∀ n k x, k < xs.length → xs[k]? = some x → F (n + 1) (k : Int) = b x k (F n (w64 ((k : Int) + 1))))
    (h2 : ∀ n k, xs.length ≤ k → F (n + 1) (k : Int) = e) : F n (0 : Int) = lv (fun x (k : Nat) r => b x (k : Int) r) e xs 0 :=
  lv_from (by omega) rfl (fun n k x hk hx => by rw [h1 n k x hk hx, w64_succ (by omega)]) h2
def eqAct (a b : T_api_Interaction) : Bool := (a.From == b.From) && ((a.To == b.To) && ((a.Label == b.Label) && true))
def eqEdge (a b : T_api_Edge) : Bool := (a.From == b.From) && (((a.Act.From == b.Act.From) && ((a.Act.To == b.Act.To) && ((a.Act.Label == b.Act.Label) && true))) && ((a.To == b.To) && ((a.Again == b.Again) && true)))
def eqTimeout (a b : T_api_Timeout) : Bool := (a.State == b.State) && ((a.Ticks == b.Ticks) && ((a.Else == b.Else) && true))
def eqField (a b : T_api_Field) : Bool := (a.Name.toList == b.Name.toList) && (((a.Sort'.Kind == b.Sort'.Kind) && ((a.Sort'.Lo == b.Sort'.Lo) && ((a.Sort'.Hi == b.Sort'.Hi) && true))) && true)
def eqDiff (a b : T_api_Diff) : Bool := (a.X == b.X) && ((a.Y == b.Y) && ((a.C == b.C) && true))
def eqPair (a b : Int × Int) : Bool := (a.1 == b.1) && ((a.2 == b.2) && true)
def eqStr (a b : ByteArray) : Bool := a.toList == b.toList
def eqDecl (a b : T_api_Decl) : Bool := eqStr a.Name b.Name && (a.First == b.First && (alleq eqField a.Fields b.Fields && (alleq eqDiff a.Guard.Diffs b.Guard.Diffs && alleq eqPair a.Guard.Equals b.Guard.Equals)))
def eqGlobal (a b : T_api_Global) : Bool := eqStr a.Name b.Name && (alleq eqStr a.Roles b.Roles && (alleq eqDecl a.Decls b.Decls && (a.States == b.States && (a.Start == b.Start && (a.End == b.End && (alleq eqEdge a.Edges b.Edges && alleq eqTimeout a.Timeouts b.Timeouts))))))
theorem eqStr_refl (a : ByteArray) : eqStr a a = true := by simp [eqStr]
theorem eqDecl_refl (a : T_api_Decl) : eqDecl a a = true := by
  unfold eqDecl
  rw [eqStr_refl, alleq_refl _ (by simp [eqField]), alleq_refl _ (by simp [eqDiff]), alleq_refl _ (by simp [eqPair])]; simp
theorem eqGlobal_refl (a : T_api_Global) : eqGlobal a a = true := by
  unfold eqGlobal
  rw [eqStr_refl, alleq_refl _ eqStr_refl, alleq_refl _ eqDecl_refl, alleq_refl _ (by simp [eqEdge]), alleq_refl _ (by simp [eqTimeout])]; simp
/-- The sizes within which the loops end. -/
structure SizeD (x : T_api_Decl) : Prop where
  f : x.Fields.length ≤ 4194304
  d : x.Guard.Diffs.length ≤ 4194304
  e : x.Guard.Equals.length ≤ 4194304
structure SizeG (g : T_api_Global) : Prop where
  r : g.Roles.length ≤ 4194304
  d : g.Decls.length ≤ 4194304
  dd : ∀ x ∈ g.Decls, SizeD x
  e : g.Edges.length ≤ 4194304
  t : g.Timeouts.length ≤ 4194304
variable {N : Nat} (hN : 4194304 < N)
include hN in
theorem sameDecl_eq (a b : T_api_Decl) (ha : SizeD a) : global_sameDecl N a b = some (eqDecl a b) := by
  unfold global_sameDecl slices_Equal_api_Field_api_Field slices_Equal_api_Diff_api_Diff slices_Equal_2_int_2_int
  rw [eq_all eqField _ _ ha.f (slices_Equal_api_Field_api_Field_l2 a.Fields b.Fields) hN (fun n k => rfl),
    eq_all eqDiff _ _ ha.d (slices_Equal_api_Diff_api_Diff_l2 a.Guard.Diffs b.Guard.Diffs) hN (fun n k => rfl),
    eq_all eqPair _ _ ha.e (slices_Equal_2_int_2_int_l2 a.Guard.Equals b.Guard.Equals) hN (fun n k => rfl)]
  unfold eqDecl eqStr
  cases (a.Name.toList == b.Name.toList) <;> cases (a.First == b.First) <;> cases alleq eqField a.Fields b.Fields <;> cases alleq eqDiff a.Guard.Diffs b.Guard.Diffs <;> rfl
theorem mem_get {α : Type} {xs : List α} {k : Nat} {x : α} (h : xs[k]? = some x) : x ∈ xs := List.mem_of_getElem? h
include hN in
theorem decls_eq (a b : List T_api_Decl) (ha : a.length ≤ 4194304) (hd : ∀ d ∈ a, SizeD d) : slices_EqualFunc_api_Decl_api_Decl_api_Decl_api_Decl_of_global_sameDecl N a b = some (alleq eqDecl a b) := by
  unfold slices_EqualFunc_api_Decl_api_Decl_api_Decl_api_Decl_of_global_sameDecl
  by_cases hl : a.length = b.length
  · have : ((a.length : Int) != (b.length : Int)) = false := by simp [hl]
    rw [this, cond_false]
    have hx := eq_loop_at eqDecl a b hl ha (slices_EqualFunc_api_Decl_api_Decl_api_Decl_api_Decl_of_global_sameDecl_l2 N a b) (some true) (by
      intro n k x y hk hx hy
      have := sameDecl_eq hN x y (hd x (mem_get hx))
      simp only [slices_EqualFunc_api_Decl_api_Decl_api_Decl_api_Decl_of_global_sameDecl_l2, lt_t hk, idx_nat, hx, hy, cond_true, Option.bind_some, this, w64_succ (show k < 4611686018427387904 by omega)]) (by
      intro n k hk
      simp only [slices_EqualFunc_api_Decl_api_Decl_api_Decl_api_Decl_of_global_sameDecl_l2, lt_f hk, cond_false]; rfl) a b 0 N rfl rfl (by omega)
    rw [show (0 : Int) = ((0 : Nat) : Int) from rfl, hx]
    cases alleq eqDecl a b <;> rfl
  · have : ((a.length : Int) != (b.length : Int)) = true := by simp; omega
    rw [this, alleq_len eqDecl a b hl]; rfl
include hN in
theorem Equal_eq (a b : T_api_Global) (ha : SizeG a) : global_Equal N a b = some (eqGlobal a b) := by
  unfold global_Equal slices_Equal_string_string slices_Equal_api_Edge_api_Edge slices_Equal_api_Timeout_api_Timeout
  rw [eq_all eqStr _ _ ha.r (slices_Equal_string_string_l2 a.Roles b.Roles) hN (fun n k => rfl),
    decls_eq hN _ _ ha.d ha.dd,
    eq_all eqEdge _ _ ha.e (slices_Equal_api_Edge_api_Edge_l2 a.Edges b.Edges) hN (fun n k => rfl),
    eq_all eqTimeout _ _ ha.t (slices_Equal_api_Timeout_api_Timeout_l2 a.Timeouts b.Timeouts) hN (fun n k => rfl)]
  unfold eqGlobal
  rw [show eqStr a.Name b.Name = (a.Name.toList == b.Name.toList) from rfl]
  cases (a.Name.toList == b.Name.toList) <;> cases alleq eqStr a.Roles b.Roles <;> cases alleq eqDecl a.Decls b.Decls <;> cases (a.States == b.States) <;> cases (a.Start == b.Start) <;> cases (a.End == b.End) <;> cases alleq eqEdge a.Edges b.Edges <;> rfl
include hN in
theorem refSame_eq (a b : List T_api_Decl) (ha : a.length ≤ 4194304) (hd : ∀ d ∈ a, SizeD d) : ref14_Same N a b = some (alleq eqDecl a b) := by
  unfold ref14_Same
  by_cases hl : a.length = b.length
  · have : ((a.length : Int) != (b.length : Int)) = false := by simp [hl]
    rw [this, cond_false]
    have hx := eq_loop_at eqDecl a b hl ha (ref14_Same_l2 N a b) (some true) (by
      intro n k x y hk hx hy
      have sz := hd x (mem_get hx)
      simp only [ref14_Same_l2, lt_t hk, idx_nat, hx, hy, cond_true, Option.bind_some]
      unfold ref14_SameDiffs
      rw [eq_all eqDiff _ _ sz.d (ref14_SameDiffs_l2 x.Guard.Diffs y.Guard.Diffs) hN (fun n k => rfl)]
      simp only [Option.bind_some]
      unfold eqDecl eqStr
      cases hA : (x.Name.toList == y.Name.toList)
      · rfl
      by_cases hB : x.First = y.First
      · rw [show (x.First == y.First) = true by simp [hB], show (x.First != y.First) = false by simp [hB]]
        by_cases hC : x.Fields.length = y.Fields.length
        · rw [show ((x.Fields.length : Int) != (y.Fields.length : Int)) = false by simp [hC]]
          cases hD : alleq eqDiff x.Guard.Diffs y.Guard.Diffs
          · simp
          by_cases hE : x.Guard.Equals.length = y.Guard.Equals.length
          · rw [show ((x.Guard.Equals.length : Int) != (y.Guard.Equals.length : Int)) = false by simp [hE]]
            simp only [Bool.not_true, cond_false, Bool.true_and]
            rw [eq_loop eqField _ _ hC sz.f (ref14_Same_l6 N k (ref14_Same_l2 N a b n) x y) (ref14_Same_k5 N k (ref14_Same_l2 N a b n) x y) hN (fun n k => rfl)]
            unfold ref14_Same_k5
            rw [eq_loop eqPair _ _ hE sz.e (ref14_Same_l4 k (ref14_Same_l2 N a b n) x y) (ref14_Same_k3 k (ref14_Same_l2 N a b n)) hN (fun n k => rfl)]
            unfold ref14_Same_k3
            rw [w64_succ (by omega)]
            cases alleq eqField x.Fields y.Fields <;> cases alleq eqPair x.Guard.Equals y.Guard.Equals <;> rfl
          · rw [show ((x.Guard.Equals.length : Int) != (y.Guard.Equals.length : Int)) = true by simp; omega, alleq_len eqPair _ _ hE]
            simp
        · rw [show ((x.Fields.length : Int) != (y.Fields.length : Int)) = true by simp; omega, alleq_len eqField _ _ hC]
          simp
      · rw [show (x.First == y.First) = false by simp [hB], show (x.First != y.First) = true by simp [hB]]
        simp) (by
      intro n k hk
      simp only [ref14_Same_l2, lt_f hk, cond_false]; rfl) a b 0 N rfl rfl (by omega)
    rw [show (0 : Int) = ((0 : Nat) : Int) from rfl, hx]
    cases alleq eqDecl a b <;> rfl
  · have : ((a.length : Int) != (b.length : Int)) = true := by simp; omega
    rw [this, alleq_len eqDecl a b hl]; rfl
include hN in
theorem refEqual_eq (a b : T_api_Global) (ha : SizeG a) : ref18_Equal N a b = some (eqGlobal a b) := by
  unfold ref18_Equal
  rw [refSame_eq hN _ _ ha.d ha.dd]
  simp only [Option.bind_some]
  unfold eqGlobal
  rw [show eqStr a.Name b.Name = (a.Name.toList == b.Name.toList) from rfl]
  cases hA : (a.Name.toList == b.Name.toList)
  · rfl
  by_cases hR : a.Roles.length = b.Roles.length
  · rw [show ((a.Roles.length : Int) != (b.Roles.length : Int)) = false by simp [hR]]
    cases hB : alleq eqDecl a.Decls b.Decls
    · simp
    by_cases h1 : a.States = b.States
    · by_cases h2 : a.Start = b.Start
      · by_cases h3 : a.End = b.End
        · rw [show (a.States == b.States) = true by simp [h1], show (a.States != b.States) = false by simp [h1], show (a.Start == b.Start) = true by simp [h2], show (a.Start != b.Start) = false by simp [h2], show (a.End == b.End) = true by simp [h3], show (a.End != b.End) = false by simp [h3]]
          by_cases hE : a.Edges.length = b.Edges.length
          · rw [show ((a.Edges.length : Int) != (b.Edges.length : Int)) = false by simp [hE]]
            by_cases hT : a.Timeouts.length = b.Timeouts.length
            · rw [show ((a.Timeouts.length : Int) != (b.Timeouts.length : Int)) = false by simp [hT]]
              simp only [Bool.not_true, cond_false, Bool.true_and]
              rw [eq_loop eqStr _ _ hR ha.r (ref18_Equal_l6 N a b) (ref18_Equal_k5 N a b) hN (fun n k => rfl)]
              unfold ref18_Equal_k5
              rw [eq_loop eqEdge _ _ hE ha.e (ref18_Equal_l4 N a b) (ref18_Equal_k3 N a b) hN (fun n k => rfl)]
              unfold ref18_Equal_k3
              rw [eq_loop eqTimeout _ _ hT ha.t (ref18_Equal_l2 a b) (ref18_Equal_k1) hN (fun n k => rfl)]
              cases alleq eqStr a.Roles b.Roles <;> cases alleq eqEdge a.Edges b.Edges <;> cases alleq eqTimeout a.Timeouts b.Timeouts <;> rfl
            · rw [show ((a.Timeouts.length : Int) != (b.Timeouts.length : Int)) = true by simp; omega, alleq_len eqTimeout _ _ hT]
              simp
          · rw [show ((a.Edges.length : Int) != (b.Edges.length : Int)) = true by simp; omega, alleq_len eqEdge _ _ hE]
            simp
        · rw [show (a.End == b.End) = false by simp [h3], show (a.End != b.End) = true by simp [h3]]
          cases (a.States != b.States) <;> cases (a.Start != b.Start) <;> simp
      · rw [show (a.Start == b.Start) = false by simp [h2], show (a.Start != b.Start) = true by simp [h2]]
        cases (a.States != b.States) <;> simp
    · rw [show (a.States == b.States) = false by simp [h1], show (a.States != b.States) = true by simp [h1]]
      simp
  · rw [show ((a.Roles.length : Int) != (b.Roles.length : Int)) = true by simp; omega, alleq_len eqStr _ _ hR]
    simp
end Gp
end
section
/- Plain law: whether an automaton is small, the next state, and the places of names. -/
set_option linter.unusedVariables false
set_option linter.unusedSimpArgs false
namespace Gp
open Go Go.Kx Gx
variable {N : Nat} (hN : 4194304 < N)
include hN in
theorem few14_some (l : List T_api_Decl) (hl : l.length ≤ 4194304) : ∃ r, ref14_Few N l = some r := by
  unfold ref14_Few
  suffices h : ∀ (m : List T_api_Decl) (k n : Nat) (s : Int), l.drop k = m → m.length < n → ∃ r, ref14_Few_l2 l n s (k : Int) = some r from h l 0 N 0 rfl (by omega)
  intro m
  induction m with
  | nil =>
    intro k n s h hn
    obtain ⟨n, rfl⟩ : ∃ m, n = m + 1 := ⟨n - 1, by simp at hn; omega⟩
    simp only [ref14_Few_l2, lt_f (drop_nil h), cond_false, ref14_Few_k1]
    cases decide ((l.length : Int) ≤ 60) <;> exact ⟨_, rfl⟩
  | cons x m ih =>
    intro k n s h hn
    obtain ⟨n, rfl⟩ : ∃ m, n = m + 1 := ⟨n - 1, by simp at hn; omega⟩
    obtain ⟨a, c, d⟩ := drop_cons h
    simp only [ref14_Few_l2, lt_t a, cond_true, idx_nat, c, Option.bind_some, w64_succ (show k < 4611686018427387904 by omega)]
    exact ih (k + 1) n _ d (by simp at hn; omega)
include hN in
theorem few18_some (g : T_api_Global) (hg : SizeG g) : ∃ r, ref18_Few N g = some r ∧ (r = true → g.States ≤ 40 ∧ g.Edges.length ≤ 80 ∧ g.Timeouts.length ≤ 40 ∧ g.Roles.length ≤ 10 ∧ ref14_Few N g.Decls = some true) := by
  obtain ⟨r, hr⟩ := few14_some hN g.Decls hg.d
  unfold ref18_Few
  rw [hr]
  by_cases h1 : g.States ≤ 40
  · by_cases h2 : (g.Edges.length : Int) ≤ 80
    · by_cases h3 : (g.Timeouts.length : Int) ≤ 40
      · by_cases h4 : (g.Roles.length : Int) ≤ 10
        · refine ⟨r, ?_, ?_⟩
          · rw [decide_eq_true h1, decide_eq_true h2, decide_eq_true h3, decide_eq_true h4]; rfl
          · intro hh; subst hh; exact ⟨h1, by omega, by omega, by omega, rfl⟩
        · exact ⟨false, by rw [decide_eq_true h1, decide_eq_true h2, decide_eq_true h3, decide_eq_false h4]; rfl, fun h => by cases h⟩
      · exact ⟨false, by rw [decide_eq_true h1, decide_eq_true h2, decide_eq_false h3]; rfl, fun h => by cases h⟩
    · exact ⟨false, by rw [decide_eq_true h1, decide_eq_false h2]; rfl, fun h => by cases h⟩
  · exact ⟨false, by rw [decide_eq_false h1]; rfl, fun h => by cases h⟩
/-- The state behind an interaction, plainly. -/
def nextB (s : Int) (a : T_api_Interaction) (x : T_api_Edge) (_ : Int) (r : Option (Int × Bool)) : Option (Int × Bool) :=
  bif x.From == s then (bif ((x.Act.From == a.From) && ((x.Act.To == a.To) && ((x.Act.Label == a.Label) && true))) then some (x.To, true) else r) else r
def nextV (g : T_api_Global) (s : Int) (a : T_api_Interaction) : Option (Int × Bool) :=
  lv (fun x (k : Nat) r => nextB s a x k r) (some ((0 : Int), false)) g.Edges 0
include hN in
theorem Next_eq (g : T_api_Global) (hg : g.Edges.length ≤ 4194304) (s : Int) (a : T_api_Interaction) : global_Next N g s a = nextV g s a := by
  unfold global_Next nextV
  refine look g.Edges hg (nextB s a) (global_Next_l2 g s a) _ hN ?_ ?_
  · intro n k x hk hx
    simp only [global_Next_l2, lt_t hk, idx_nat, hx, cond_true, Option.bind_some, nextB]
  · intro n k hk
    simp only [global_Next_l2, lt_f hk, cond_false, global_Next_k1]
include hN in
theorem refNext_eq (g : T_api_Global) (hg : g.Edges.length ≤ 4194304) (s : Int) (a : T_api_Interaction) : ref18_Next N g s a = nextV g s a := by
  unfold ref18_Next nextV
  refine look g.Edges hg (nextB s a) (ref18_Next_l2 g s a) _ hN ?_ ?_
  · intro n k x hk hx
    simp only [ref18_Next_l2, lt_t hk, idx_nat, hx, cond_true, Option.bind_some, nextB]
  · intro n k hk
    simp only [ref18_Next_l2, lt_f hk, cond_false, ref18_Next_k1]
theorem next_some (g : T_api_Global) (s : Int) (a : T_api_Interaction) : ∃ r, nextV g s a = some r := by
  refine lv_ind (P := fun v => ∃ r, v = some r) ⟨_, rfl⟩ ?_ _ _
  intro x k r ⟨v, hv⟩
  subst hv
  unfold nextB
  cases (x.From == s) <;> cases ((x.Act.From == a.From) && ((x.Act.To == a.To) && ((x.Act.Label == a.Label) && true))) <;> exact ⟨_, rfl⟩
/-- The first place of an element, plainly. -/
def whereV {α : Type} (f : α → Bool) (l : List α) : Option Int := lv (fun x (k : Nat) r => bif f x then some (k : Int) else r) (some (-1)) l 0
theorem where_some {α : Type} (f : α → Bool) (l : List α) : ∃ r, whereV f l = some r := by
  refine lv_ind (P := fun v => ∃ r, v = some r) ⟨_, rfl⟩ ?_ _ _
  intro x k r ⟨v, hv⟩
  subst hv
  cases f x <;> exact ⟨_, rfl⟩
theorem bindsome {α : Type} (x : Option α) : x.bind some = x := by cases x <;> rfl
theorem bcomm (a b : ByteArray) : (a.toList == b.toList) = (b.toList == a.toList) := by
  rw [Bool.eq_iff_iff, beq_iff_eq, beq_iff_eq]; exact ⟨Eq.symm, Eq.symm⟩
include hN in
theorem Index_eq (l : List ByteArray) (hl : l.length ≤ 4194304) (v : ByteArray) : slices_Index_string_string N l v = whereV (fun x => eqStr x v) l := by
  unfold slices_Index_string_string whereV
  refine look l hl (fun x k r => bif eqStr x v then some k else r) (slices_Index_string_string_l2 l v) _ hN ?_ ?_
  · intro n k x hk hx
    simp only [slices_Index_string_string_l2, lt_t hk, idx_nat, hx, cond_true, Option.bind_some, eqStr, bcomm v x]
  · intro n k hk
    simp only [slices_Index_string_string_l2, lt_f hk, cond_false, slices_Index_string_string_k1]
include hN in
theorem refIndex_eq (l : List ByteArray) (hl : l.length ≤ 4194304) (v : ByteArray) : ref18_index N l v = whereV (fun x => eqStr x v) l := by
  unfold ref18_index whereV
  refine look l hl (fun x k r => bif eqStr x v then some k else r) (ref18_index_l2 l v) _ hN ?_ ?_
  · intro n k x hk hx
    simp only [ref18_index_l2, lt_t hk, idx_nat, hx, cond_true, Option.bind_some, eqStr]
  · intro n k hk
    simp only [ref18_index_l2, lt_f hk, cond_false, ref18_index_k1]
include hN in
theorem Label_eq (g : T_api_Global) (hg : g.Decls.length ≤ 4194304) (v : ByteArray) : global_Label N g v = whereV (fun x => eqStr x.Name v) g.Decls := by
  unfold global_Label slices_IndexFunc_api_Decl_api_Decl_of_global_Label_1
  show (_ : Option Int).bind some = _
  rw [bindsome]
  refine look g.Decls hg (fun x k r => bif eqStr x.Name v then some k else r) (slices_IndexFunc_api_Decl_api_Decl_of_global_Label_1_l2 N g.Decls v) _ hN ?_ ?_
  · intro n k x hk hx
    simp only [slices_IndexFunc_api_Decl_api_Decl_of_global_Label_1_l2, lt_t hk, idx_nat, hx, cond_true, Option.bind_some, eqStr, global_Label_1_al]
  · intro n k hk
    simp only [slices_IndexFunc_api_Decl_api_Decl_of_global_Label_1_l2, lt_f hk, cond_false, slices_IndexFunc_api_Decl_api_Decl_of_global_Label_1_k1]
include hN in
theorem refLabel_eq (g : T_api_Global) (hg : g.Decls.length ≤ 4194304) (v : ByteArray) : ref18_Label N g v = whereV (fun x => eqStr x.Name v) g.Decls := by
  unfold ref18_Label
  refine look g.Decls hg (fun x k r => bif eqStr x.Name v then some k else r) (ref18_Label_l2 g v) _ hN ?_ ?_
  · intro n k x hk hx
    simp only [ref18_Label_l2, lt_t hk, idx_nat, hx, cond_true, Option.bind_some, eqStr]
  · intro n k hk
    simp only [ref18_Label_l2, lt_f hk, cond_false, ref18_Label_k1]
include hN in
theorem sameInts_refl (l : List Int) (hl : l.length ≤ 4194304) : ref01_SameInts N l l = some true := by
  unfold ref01_SameInts
  rw [eq_all (fun x y => x == y) l l hl (ref01_SameInts_l2 l l) hN (fun n k => rfl), alleq_refl _ (by simp)]
end Gp
end
section
/- Plain law: the edges of a state, by receiver and message. -/
set_option linter.unusedVariables false
set_option linter.unusedSimpArgs false
namespace Gp
open Go Go.Kx Gx
/-- A number as the machine holds it. -/
def I64 (n : Int) : Prop := -9223372036854775808 ≤ n ∧ n ≤ 9223372036854775807
theorem I64.of {n : Int} (h : (Lit.int .i64 n).wf = true) : I64 n := by
  simp [Lit.wf, IntKind.min, IntKind.max, IntKind.signed, IntKind.bits] at h
  constructor <;> omega
def ekey (e : T_api_Edge) : Int := e.Act.To * 1180591620717411303424 + e.Act.Label
def key (g : T_api_Global) (x : Int) : Int := match g.Edges[x.toNat]? with | some e => ekey e | none => 0
def Vx (g : T_api_Global) (x : Int) : Prop := 0 ≤ x ∧ x < (g.Edges.length : Int)
def NumE (g : T_api_Global) : Prop := ∀ e ∈ g.Edges, I64 e.Act.To ∧ I64 e.Act.Label
theorem Vx.get {g : T_api_Global} {x : Int} (h : Vx g x) : ∃ e, idx g.Edges x = some e ∧ key g x = ekey e ∧ e ∈ g.Edges := by
  obtain ⟨h0, h1⟩ := h
  obtain ⟨k, rfl⟩ : ∃ k : Nat, x = (k : Int) := ⟨x.toNat, by omega⟩
  have hk : k < g.Edges.length := by omega
  refine ⟨g.Edges[k], by rw [idx_nat, List.getElem?_eq_getElem hk], ?_, List.getElem_mem hk⟩
  unfold key
  rw [show (k : Int).toNat = k by simp, List.getElem?_eq_getElem hk]
def sgn (x y : Int) : Int := if x < y then -1 else if y < x then 1 else 0
theorem sgn_cases (x y : Int) : (sgn x y = -1 ∧ x < y) ∨ (sgn x y = 1 ∧ y < x) ∨ (sgn x y = 0 ∧ x = y) := by
  unfold sgn
  by_cases h : x < y
  · exact .inl ⟨if_pos h, h⟩
  · by_cases h' : y < x
    · exact .inr (.inl ⟨by rw [if_neg h, if_pos h'], h'⟩)
    · exact .inr (.inr ⟨by rw [if_neg h, if_neg h'], by omega⟩)
theorem compare_eq (N : Nat) (x y : Int) : cmp_Compare_int N x y = some (sgn x y) := by
  unfold cmp_Compare_int cmp_isNaN_int sgn
  rw [show (x != x) = false by simp, show (y != y) = false by simp]
  simp only [Option.bind_some, cond_false]
  by_cases h : x < y
  · simp [h]
  · by_cases h' : y < x
    · simp [h, h']
    · simp [h, h']
theorem or_eq {N : Nat} (hN : 3 ≤ N) (x y : Int) : cmp_Or_int N [x, y] = some (if x = 0 then y else x) := by
  obtain ⟨n, rfl⟩ : ∃ n, N = n + 3 := ⟨N - 3, by omega⟩
  unfold cmp_Or_int
  have h1 : w64 ((0 : Int) + 1) = 1 := by decide
  have h2 : w64 ((1 : Int) + 1) = 2 := by decide
  have e0 : idx [x, y] 0 = some x := rfl
  have e1 : idx [x, y] 1 = some y := rfl
  have d0 : decide ((0 : Int) < (([x, y] : List Int).length : Int)) = true := by simp
  have d1 : decide ((1 : Int) < (([x, y] : List Int).length : Int)) = true := by simp
  have d2 : decide ((2 : Int) < (([x, y] : List Int).length : Int)) = false := by simp
  simp only [cmp_Or_int_l2, d0, d1, d2, h1, h2, e0, e1, Option.bind_some, cond_true, cond_false, cmp_Or_int_k1]
  by_cases hx : x = 0
  · subst hx
    by_cases hy : y = 0
    · subst hy; rfl
    · rw [show (y != (0 : Int)) = true by simp [hy]]; rfl
  · rw [show (x != (0 : Int)) = true by simp [hx], if_neg hx]; rfl
theorem e_cmp (g : T_api_Global) (hg : NumE g) : e_Cmp (key g) (Vx g) g := by
  intro N x y hN hx hy
  obtain ⟨e, e1, e2, e3⟩ := hx.get
  obtain ⟨f, f1, f2, f3⟩ := hy.get
  obtain ⟨⟨a1, a2⟩, a3, a4⟩ := hg e e3
  obtain ⟨⟨b1, b2⟩, b3, b4⟩ := hg f f3
  refine ⟨if sgn e.Act.To f.Act.To = 0 then sgn e.Act.Label f.Act.Label else sgn e.Act.To f.Act.To, ?_, ?_⟩
  · unfold global_Edges_1_al
    rw [e1, f1]
    simp only [Option.bind_some, compare_eq]
    rw [or_eq (by omega)]; rfl
  · rw [e2, f2]
    unfold ekey
    rw [decide_eq_decide]
    rcases sgn_cases e.Act.To f.Act.To with ⟨h, h'⟩ | ⟨h, h'⟩ | ⟨h, h'⟩ <;> rcases sgn_cases e.Act.Label f.Act.Label with ⟨k, k'⟩ | ⟨k, k'⟩ | ⟨k, k'⟩ <;> rw [h, k] <;> simp <;> omega
/-- The places of a state's edges, in the order of the list. -/
def placesOf (g : T_api_Global) (s : Int) : List T_api_Edge → Nat → List Int
  | [], _ => []
  | x :: l, k => if x.From = s then (k : Int) :: placesOf g s l (k + 1) else placesOf g s l (k + 1)
theorem placesOf_ge (g : T_api_Global) (s : Int) : ∀ (l : List T_api_Edge) (k : Nat), ∀ y ∈ placesOf g s l k, (k : Int) ≤ y ∧ y < (k + l.length : Nat)
  | [], k, y, h => by simp [placesOf] at h
  | x :: l, k, y, h => by
    unfold placesOf at h
    split at h
    · rcases List.mem_cons.mp h with h | h
      · subst h; simp; omega
      · have := placesOf_ge g s l (k + 1) y h; simp; omega
    · have := placesOf_ge g s l (k + 1) y h; simp; omega
theorem placesOf_up (g : T_api_Global) (s : Int) : ∀ (l : List T_api_Edge) (k : Nat), (placesOf g s l k).Pairwise (· < ·)
  | [], k => by simp [placesOf]
  | x :: l, k => by
    unfold placesOf
    split
    · refine List.pairwise_cons.mpr ⟨?_, placesOf_up g s l (k + 1)⟩
      intro y hy
      have := placesOf_ge g s l (k + 1) y hy
      omega
    · exact placesOf_up g s l (k + 1)
theorem placesOf_len (g : T_api_Global) (s : Int) : ∀ (l : List T_api_Edge) (k : Nat), (placesOf g s l k).length ≤ l.length
  | [], k => by simp [placesOf]
  | x :: l, k => by
    unfold placesOf
    have := placesOf_len g s l (k + 1)
    split <;> simp <;> omega
theorem edges_loop {N : Nat} (g : T_api_Global) (s : Int) (hg : g.Edges.length ≤ 4194304) :
    ∀ (l : List T_api_Edge) (k n : Nat) (acc : List Int), g.Edges.drop k = l → l.length < n → acc.length ≤ k → global_Edges_l2 N g s n acc (k : Int) = global_Edges_k1 N g (acc ++ placesOf g s l k) := by
  intro l
  induction l with
  | nil =>
    intro k n acc h hn ha
    obtain ⟨n, rfl⟩ : ∃ m, n = m + 1 := ⟨n - 1, by simp at hn; omega⟩
    simp only [global_Edges_l2, lt_f (drop_nil h), cond_false, placesOf, List.append_nil]
  | cons x l ih =>
    intro k n acc h hn ha
    obtain ⟨n, rfl⟩ : ∃ m, n = m + 1 := ⟨n - 1, by simp at hn; omega⟩
    obtain ⟨a, c, d⟩ := drop_cons h
    simp only [List.length_cons] at hn
    simp only [global_Edges_l2, lt_t a, cond_true, idx_nat, c, Option.bind_some, w64_succ (show k < 4611686018427387904 by omega), placesOf]
    by_cases hs : x.From = s
    · rw [show (x.From == s) = true by simp [hs], cond_true, appL_some (by simp; omega), Option.bind_some, ih (k + 1) n _ d (by omega) (by simp; omega), if_pos hs]
      simp
    · rw [show (x.From == s) = false by simp [hs], cond_false, ih (k + 1) n _ d (by omega) (by omega), if_neg hs]
/-- The edges of a state in their order: what both answer. -/
def EdgesAre (g : T_api_Global) (s : Int) (L : List Int) : Prop := L.Perm (placesOf g s g.Edges 0) ∧ Srt (key g) (· < ·) L
theorem Edges_eq {N : Nat} (hN : 16777216 < N) (g : T_api_Global) (hg : g.Edges.length ≤ 4194304) (hn : NumE g) (s : Int) : ∃ L, EdgesAre g s L ∧ global_Edges N g s = some L := by
  have hl := placesOf_len g s g.Edges 0
  obtain ⟨C, c1, c2, c3⟩ := e_sort (r := (· < ·)) (e_cmp g hn) (N := N) (placesOf g s g.Edges 0) (by omega) (by omega)
    (fun y hy => by have := placesOf_ge g s g.Edges 0 y hy; exact ⟨by omega, by omega⟩) (placesOf_up g s g.Edges 0)
  refine ⟨C, ⟨c1, c2⟩, ?_⟩
  unfold global_Edges
  have h := edges_loop (N := N) g s hg g.Edges 0 N [] rfl (by omega) (by simp)
  rw [show (0 : Int) = ((0 : Nat) : Int) from rfl, h]
  unfold global_Edges_k1
  rw [List.nil_append, c3]; rfl
/-- Ahead, as the reference answers it. -/
theorem before_eq {N : Nat} (g : T_api_Global) (hn : NumE g) (x y : Int) (hx : Vx g x) (hy : Vx g y) : ∃ b, ref18_before N g x y = some b ∧ (b = true ↔ Lt (key g) (· < ·) x y) := by
  obtain ⟨e, e1, e2, e3⟩ := hx.get
  obtain ⟨f, f1, f2, f3⟩ := hy.get
  obtain ⟨⟨a1, a2⟩, a3, a4⟩ := hn e e3
  obtain ⟨⟨b1, b2⟩, b3, b4⟩ := hn f f3
  unfold ref18_before
  rw [e1, f1]
  simp only [Option.bind_some]
  unfold Lt
  rw [e2, f2]
  unfold ekey
  by_cases c1 : e.Act.To = f.Act.To
  · rw [show (e.Act.To != f.Act.To) = false by simp [c1], cond_false]
    by_cases c2 : e.Act.Label = f.Act.Label
    · rw [show (e.Act.Label != f.Act.Label) = false by simp [c2], cond_false]
      exact ⟨_, rfl, by rw [decide_eq_true_iff]; omega⟩
    · rw [show (e.Act.Label != f.Act.Label) = true by simp [c2], cond_true]
      exact ⟨_, rfl, by rw [decide_eq_true_iff]; omega⟩
  · rw [show (e.Act.To != f.Act.To) = true by simp [c1], cond_true]
    exact ⟨_, rfl, by rw [decide_eq_true_iff]; omega⟩
theorem lt_as {g : T_api_Global} (x y : Int) (h : Lt (key g) (· < ·) x y) : ¬ Lt (key g) (· < ·) y x := by
  unfold Lt at *; omega
theorem lt_tr {g : T_api_Global} {x y z : Int} (h : Lt (key g) (· < ·) x y) (h' : Lt (key g) (· < ·) y z) : Lt (key g) (· < ·) x z := by
  unfold Lt at *; omega
theorem lt_tot {g : T_api_Global} {x y : Int} (h : ¬ Lt (key g) (· < ·) x y) (hne : x ≠ y) : Lt (key g) (· < ·) y x := by
  unfold Lt at *; omega
theorem EdgesAre.uniq {g : T_api_Global} {s : Int} {A B : List Int} (ha : EdgesAre g s A) (hb : EdgesAre g s B) : A = B :=
  srt_uniq lt_as A B (ha.1.trans hb.1.symm) ha.2 hb.2
/-- The search for the place of one more edge. -/
theorem refEdges_in {N : Nat} (g : T_api_Global) (hn : NumE g) (acc : List Int) (hacc : ∀ y ∈ acc, Vx g y) (hal : acc.length ≤ 4194304) (v : Int) (hv : Vx g v) (ag : List Int → Int → Option (List Int)) :
    ∀ (n : Nat) (A B : List Int) (j : Int), B.length < n → acc = A ++ B → j = (A.length : Int) → (∀ y ∈ A, Lt (key g) (· < ·) y v) →
    ∃ A B, acc = A ++ B ∧ (∀ y ∈ A, Lt (key g) (· < ·) y v) ∧ (∀ y C, B = y :: C → ¬ Lt (key g) (· < ·) y v) ∧ ref18_Edges_l4 N g acc v ag n j = ref18_Edges_k3 acc v ag (A.length : Int) := by
  intro n
  induction n with
  | zero => intro A B j h; omega
  | succ n ih =>
    intro A B j hn' he hj hA
    cases B with
    | nil =>
      have hd : decide (j < (acc.length : Int)) = false := by rw [he]; simp; omega
      refine ⟨A, [], he, hA, by simp, ?_⟩
      simp only [ref18_Edges_l4, hd, cond_false]
      rw [hj]
    | cons y B =>
      have hd : decide (j < (acc.length : Int)) = true := by rw [he]; simp; omega
      have e1 : idx acc j = some y := idx_mid he hj
      obtain ⟨b, b1, b2⟩ := before_eq (N := N) g hn y v (hacc y (by rw [he]; simp)) hv
      cases b with
      | true =>
        have hl : acc.length = A.length + (B.length + 1) := by rw [he]; simp
        obtain ⟨A', B', p1, p2, p3, p4⟩ := ih (A ++ [y]) B (w64 (j + 1)) (by simp at hn'; omega) (by rw [he]; simp) (by rw [hj, w64_succ (by omega)]; simp)
          (by
            intro z hz
            rcases List.mem_append.mp hz with hz | hz
            · exact hA z hz
            · simp at hz; subst hz; exact b2.mp rfl)
        refine ⟨A', B', p1, p2, p3, ?_⟩
        simp only [ref18_Edges_l4, hd, cond_true, e1, Option.bind_some, b1]
        exact p4
      | false =>
        refine ⟨A, y :: B, he, hA, ?_, ?_⟩
        · intro z C hz
          have := (List.cons.inj hz).1
          subst this
          intro h
          have := b2.mpr h
          cases this
        · simp only [ref18_Edges_l4, hd, cond_true, e1, Option.bind_some, b1, cond_false]
          rw [hj]
end Gp
end
section
/- Plain law: both answer the same edges of a state. -/
set_option linter.unusedVariables false
set_option linter.unusedSimpArgs false
namespace Gp
open Go Go.Kx Gx
theorem lsl_to {α : Type} {L A B : List α} {i : Int} (hL : L = A ++ B) (hi : i = (A.length : Int)) : lsl L none (some i) = some A := by
  subst hL hi
  have h : decide ((A.length : Int) ≤ ((A ++ B).length : Int)) = true := by simp; omega
  have h2 : decide ((0 : Int) ≤ (A.length : Int)) = true := by simp
  unfold lsl bnd
  simp only [Option.getD_some, Option.getD_none, h, h2]
  simp
theorem lsl_from {α : Type} {L A B : List α} {i : Int} (hL : L = A ++ B) (hi : i = (A.length : Int)) : lsl L (some i) none = some B := by
  subst hL hi
  have h : decide ((A.length : Int) ≤ ((A ++ B).length : Int)) = true := by simp; omega
  have h2 : decide ((0 : Int) ≤ (A.length : Int)) = true := by simp
  unfold lsl bnd
  simp only [Option.getD_some, Option.getD_none, h, h2, Int.le_refl, decide_true, Bool.and_self, cond_true, Option.map_some, Int.toNat_natCast, List.take_length]
  simp
theorem refEdges_loop {N : Nat} (g : T_api_Global) (s : Int) (hn : NumE g) (hg : g.Edges.length ≤ 4194304) (hN : 4194304 < N) :
    ∀ (l : List T_api_Edge) (k n : Nat) (acc pre : List Int), g.Edges.drop k = l → l.length < n → placesOf g s g.Edges 0 = pre ++ placesOf g s l k → (∀ y ∈ pre, 0 ≤ y ∧ y < (k : Int)) → acc.Perm pre → Srt (key g) (· < ·) acc →
    ∃ L, EdgesAre g s L ∧ ref18_Edges_l2 N g s n acc (k : Int) = some L := by
  intro l
  induction l with
  | nil =>
    intro k n acc pre h hn' he hp hperm hs
    obtain ⟨n, rfl⟩ : ∃ m, n = m + 1 := ⟨n - 1, by simp at hn'; omega⟩
    refine ⟨acc, ⟨by rw [he]; simpa [placesOf] using hperm, hs⟩, ?_⟩
    simp only [ref18_Edges_l2, lt_f (drop_nil h), cond_false, ref18_Edges_k1]
  | cons x l ih =>
    intro k n acc pre h hn' he hp hperm hs
    obtain ⟨n, rfl⟩ : ∃ m, n = m + 1 := ⟨n - 1, by simp at hn'; omega⟩
    obtain ⟨a, c, d⟩ := drop_cons h
    simp only [List.length_cons] at hn'
    have e0 : placesOf g s (x :: l) k = if x.From = s then (k : Int) :: placesOf g s l (k + 1) else placesOf g s l (k + 1) := rfl
    rw [e0] at he
    by_cases hf : x.From = s
    · rw [if_pos hf] at he
      have hpl : pre.length ≤ g.Edges.length := by
        have h1 := placesOf_len g s g.Edges 0
        have h2 := congrArg List.length he
        simp at h2; omega
      have hal : acc.length ≤ g.Edges.length := by rw [hperm.length_eq]; exact hpl
      have hk : Vx g (k : Int) := ⟨by omega, by omega⟩
      obtain ⟨A, B, p1, p2, p3, p4⟩ := refEdges_in (N := N) g hn acc (fun y hy => by have := hp y (hperm.mem_iff.mp hy); exact ⟨by omega, by omega⟩) (by omega) (k : Int) hk (ref18_Edges_l2 N g s n) N [] acc (0 : Int) (by omega) rfl (by simp) (by simp)
      have hl : acc.length = A.length + B.length := by rw [p1]; simp
      have hB : ∀ y ∈ B, Lt (key g) (· < ·) (k : Int) y := by
        cases B with
        | nil => simp
        | cons z B =>
          have hz : z ∈ pre := hperm.mem_iff.mp (by rw [p1]; simp)
          have hzk := hp z hz
          have h1 : Lt (key g) (· < ·) (k : Int) z := lt_tot (p3 z B rfl) (by omega)
          intro y hy
          rcases List.mem_cons.mp hy with hy | hy
          · subst hy; exact h1
          · rw [p1] at hs
            exact lt_tr h1 ((srt_cons.mp (srt_app.mp hs).2.1).1 y hy)
      have hs' : Srt (key g) (· < ·) (A ++ (k : Int) :: B) := by
        rw [p1] at hs
        obtain ⟨s1, s2, s3⟩ := srt_app.mp hs
        refine srt_app.mpr ⟨s1, srt_cons.mpr ⟨hB, s2⟩, ?_⟩
        intro y hy z hz
        rcases List.mem_cons.mp hz with hz | hz
        · subst hz; exact p2 y hy
        · exact s3 y hy z hz
      have hperm' : (A ++ (k : Int) :: B).Perm (pre ++ [(k : Int)]) := by
        refine List.perm_middle.trans ?_
        rw [p1] at hperm
        exact (List.Perm.cons _ hperm).trans (List.perm_append_singleton _ pre).symm
      obtain ⟨L, q1, q2⟩ := ih (k + 1) n (A ++ (k : Int) :: B) (pre ++ [(k : Int)]) d (by omega) (by rw [he]; simp)
        (by
          intro y hy
          rcases List.mem_append.mp hy with hy | hy
          · have := hp y hy; omega
          · simp at hy; omega) hperm' hs'
      refine ⟨L, q1, ?_⟩
      simp only [ref18_Edges_l2, lt_t a, cond_true, idx_nat, c, Option.bind_some, show (x.From != s) = false by simp [hf], cond_false, p4, ref18_Edges_k3]
      rw [lsl_to p1 rfl, lsl_from p1 rfl]
      simp only [Option.bind_some]
      rw [appL_some (by simp; omega)]
      simp only [Option.bind_some]
      rw [appL_some (by simp; omega)]
      simp only [Option.bind_some]
      rw [w64_succ (by omega)]
      exact q2
    · rw [if_neg hf] at he
      obtain ⟨L, q1, q2⟩ := ih (k + 1) n acc pre d (by omega) he (fun y hy => by have := hp y hy; omega) hperm hs
      refine ⟨L, q1, ?_⟩
      simp only [ref18_Edges_l2, lt_t a, cond_true, idx_nat, c, Option.bind_some, show (x.From != s) = true by simp [hf]]
      rw [w64_succ (by omega)]
      exact q2
theorem refEdges_eq {N : Nat} (hN : 4194304 < N) (g : T_api_Global) (hg : g.Edges.length ≤ 4194304) (hn : NumE g) (s : Int) : ∃ L, EdgesAre g s L ∧ ref18_Edges N g s = some L := by
  unfold ref18_Edges
  exact refEdges_loop g s hn hg hN g.Edges 0 N [] [] rfl (by omega) (by simp) (by simp) (.refl _) srt_nil
/-- Both answer one list. -/
theorem Edges_both {N : Nat} (hN : 16777216 < N) (g : T_api_Global) (hg : g.Edges.length ≤ 4194304) (hn : NumE g) (s : Int) : ∃ L, EdgesAre g s L ∧ global_Edges N g s = some L ∧ ref18_Edges N g s = some L := by
  obtain ⟨A, a1, a2⟩ := Edges_eq hN g hg hn s
  obtain ⟨B, b1, b2⟩ := refEdges_eq (N := N) (by omega) g hg hn s
  have := a1.uniq b1
  subst this
  exact ⟨A, a1, a2, b2⟩
end Gp
end
section
open Go Go.Kx Gx
set_option maxRecDepth 100000
theorem awake_c (n : Nat) : law18_awake (n + 300) = some true := by kernel_rfl
end
section
/- What the arguments hold that the statement reads: sizes and numbers within their kinds. -/
namespace Gx
open Go Go.Kx
def k_api_Sort (x : T_api_Sort) : Prop := ((Lit.int .i64 x.Kind).wf = true) ∧ ((Lit.int .i64 x.Lo).wf = true) ∧ ((Lit.int .i64 x.Hi).wf = true)
def k_api_Field (x : T_api_Field) : Prop := (x.Name.size ≤ bd) ∧ (k_api_Sort x.Sort')
def k_api_Diff (x : T_api_Diff) : Prop := ((Lit.int .i64 x.X).wf = true) ∧ ((Lit.int .i64 x.Y).wf = true) ∧ ((Lit.int .i64 x.C).wf = true)
def k_api_Guard (x : T_api_Guard) : Prop := (x.Diffs.length ≤ bd ∧ ∀ y ∈ x.Diffs, k_api_Diff y) ∧ (x.Equals.length ≤ bd ∧ ∀ y ∈ x.Equals, ((Lit.int .i64 y.1).wf = true) ∧ ((Lit.int .i64 y.2).wf = true))
def k_api_Decl (x : T_api_Decl) : Prop := (x.Name.size ≤ bd) ∧ (x.Fields.length ≤ bd ∧ ∀ y ∈ x.Fields, k_api_Field y) ∧ ((Lit.int .i64 x.First).wf = true) ∧ (k_api_Guard x.Guard)
def k_api_Interaction (x : T_api_Interaction) : Prop := ((Lit.int .i64 x.From).wf = true) ∧ ((Lit.int .i64 x.To).wf = true) ∧ ((Lit.int .i64 x.Label).wf = true)
def k_api_Edge (x : T_api_Edge) : Prop := ((Lit.int .i64 x.From).wf = true) ∧ (k_api_Interaction x.Act) ∧ ((Lit.int .i64 x.To).wf = true) ∧ (True)
def k_api_Timeout (x : T_api_Timeout) : Prop := ((Lit.int .i64 x.State).wf = true) ∧ ((Lit.int .i64 x.Ticks).wf = true) ∧ ((Lit.int .i64 x.Else).wf = true)
def k_api_Global (x : T_api_Global) : Prop := (x.Name.size ≤ bd) ∧ (x.Roles.length ≤ bd ∧ ∀ y ∈ x.Roles, y.size ≤ bd) ∧ (x.Decls.length ≤ bd ∧ ∀ y ∈ x.Decls, k_api_Decl y) ∧ ((Lit.int .i64 x.States).wf = true) ∧ ((Lit.int .i64 x.Start).wf = true) ∧ ((Lit.int .i64 x.End).wf = true) ∧ (x.Edges.length ≤ bd ∧ ∀ y ∈ x.Edges, k_api_Edge y) ∧ (x.Timeouts.length ≤ bd ∧ ∀ y ∈ x.Timeouts, k_api_Timeout y)
def k_law18_Query (x : T_law18_Query) : Prop := ((Lit.int .i64 x.State).wf = true) ∧ (k_api_Interaction x.Act) ∧ (x.Name.size ≤ bd)
end Gx
end
section
/- Plain law: the searches of both agree on every automaton. -/
set_option linter.unusedVariables false
set_option linter.unusedSimpArgs false
namespace Gp
open Go Go.Kx Gx
theorem sizeD_of {x : T_api_Decl} (h : k_api_Decl x) : SizeD x := by
  obtain ⟨_, h1, _, h2⟩ := h
  exact ⟨by have := h1.1; unfold bd at this; omega, by have := h2.1.1; unfold bd at this; omega, by have := h2.2.1; unfold bd at this; omega⟩
theorem sizeG_of {x : T_api_Global} (h : k_api_Global x) : SizeG x := by
  obtain ⟨_, h1, h2, _, _, _, h3, h4⟩ := h
  exact ⟨by have := h1.1; unfold bd at this; omega, by have := h2.1; unfold bd at this; omega, fun d hd => sizeD_of (h2.2 d hd), by have := h3.1; unfold bd at this; omega, by have := h4.1; unfold bd at this; omega⟩
theorem numE_of {x : T_api_Global} (h : k_api_Global x) : NumE x := by
  obtain ⟨_, h1, h2, _, _, _, h3, h4⟩ := h
  intro e he
  have := (h3.2 e he).2.1
  exact ⟨I64.of this.2.1, I64.of this.2.2⟩
theorem plain : ∀ (x0 : T_api_Global) (x1 : T_api_Global) (x2 : T_law18_Query), k_api_Global x0 → k_api_Global x1 → k_law18_Query x2 → ∃ N, law18_GlobalSearch N x0 x1 x2 = some true := by
  intro g o q hg ho hq
  refine ⟨33554432 + 300, ?_⟩
  have aw : law18_awake (33554432 + 300) = some true := awake_c _
  generalize hN : 33554432 + 300 = N at aw ⊢
  have s0 := sizeG_of hg
  have s1 := sizeG_of ho
  obtain ⟨a, a1, a2⟩ := few18_some (N := N) (by omega) g s0
  obtain ⟨b, b1, b2⟩ := few18_some (N := N) (by omega) o s1
  unfold law18_GlobalSearch
  rw [aw]
  simp only [Option.bind_some, Bool.not_true, cond_false]
  rw [a1]
  simp only [Option.bind_some]
  cases a
  · simp
  simp only [Bool.not_true, cond_false]
  rw [b1]
  simp only [Option.bind_some]
  cases b
  · simp
  simp only [Bool.not_true, cond_false]
  obtain ⟨v, hv⟩ := next_some g q.State q.Act
  rw [Next_eq (N := N) (by omega) g s0.e, refNext_eq (N := N) (by omega) g s0.e, hv]
  obtain ⟨L, l1, l2, l3⟩ := Edges_both (N := N) (by omega) g s0.e (numE_of hg) q.State
  have hll : L.length ≤ 4194304 := by
    rw [l1.1.length_eq]
    have := placesOf_len g q.State g.Edges 0
    have := s0.e; omega
  obtain ⟨i, hi⟩ := where_some (fun x => eqStr x q.Name) g.Roles
  obtain ⟨j, hj⟩ := where_some (fun x : T_api_Decl => eqStr x.Name q.Name) g.Decls
  simp only [Option.bind_some, beq_self_eq_true, cond_true]
  rw [l2, l3]
  simp only [Option.bind_some]
  rw [sameInts_refl (N := N) (by omega) L hll]
  unfold global_Role ref18_Role
  rw [Index_eq (N := N) (by omega) g.Roles s0.r, refIndex_eq (N := N) (by omega) g.Roles s0.r, hi, Label_eq (N := N) (by omega) g s0.d, refLabel_eq (N := N) (by omega) g s0.d, hj,
    Equal_eq (N := N) (by omega) g o s0, refEqual_eq (N := N) (by omega) g o s0, Equal_eq (N := N) (by omega) g g s0, eqGlobal_refl]
  simp
end Gp
end
