/- The plain law, part 1: what the functions compute answers as the statement says. -/
import Derived.Lib.Bytealg
import Derived.Test.YtbaebccneokflaaGreatDoorGuardPartsPure
set_option linter.all false
section
section
/- Plain aids: numbers that do not wrap, places in lists, loops over lists. -/
namespace Gp
open Go Go.Kx
theorem w64_id {n : Int} (h1 : -9223372036854775808 ≤ n) (h2 : n ≤ 9223372036854775807) : w64 n = n := by
  show IntKind.i64.wrap n = n
  simp [IntKind.wrap, IntKind.signed, IntKind.bits]
  omega
theorem w64_succ {n : Nat} (h : n < 4611686018427387904) : w64 ((n : Int) + 1) = ((n + 1 : Nat) : Int) := by rw [w64_id (by omega) (by omega)]; omega
theorem idx_nat {α : Type} (xs : List α) (k : Nat) : idx xs (k : Int) = xs[k]? := by
  unfold idx
  have : decide (0 ≤ (k : Int)) = true := by simp
  rw [this]; simp
theorem idx_int {α : Type} {xs : List α} {i : Int} {k : Nat} (h : i = k) : idx xs i = xs[k]? := by rw [h, idx_nat]
theorem setL'_nat {α : Type} (xs : List α) (k : Nat) (e : α) : setL' xs (k : Int) e = xs.set k e := by unfold setL'; simp
theorem setL'_int {α : Type} {xs : List α} {i : Int} {k : Nat} (h : i = k) (e : α) : setL' xs i e = xs.set k e := by rw [h, setL'_nat]
theorem get_mid {α : Type} (A : List α) (x : α) (B : List α) {k : Nat} (h : A.length = k) : (A ++ x :: B)[k]? = some x := by
  subst h; simp
theorem set_mid {α : Type} (A : List α) (x y : α) (B : List α) {k : Nat} (h : A.length = k) : (A ++ x :: B).set k y = A ++ y :: B := by
  subst h; simp
theorem idx_mid {α : Type} {L A : List α} {x : α} {B : List α} {i : Int} (hL : L = A ++ x :: B) (h : i = (A.length : Int)) : idx L i = some x := by
  rw [idx_int h, hL]; exact get_mid A x B rfl
theorem setL'_mid {α : Type} {L A : List α} {x : α} {B : List α} {i : Int} (hL : L = A ++ x :: B) (h : i = (A.length : Int)) (y : α) : setL' L i y = A ++ y :: B := by
  rw [setL'_int h, hL]; exact set_mid A x y B rfl
theorem appL_some {α : Type} {xs ys : List α} (h : xs.length + ys.length ≤ 4294967296) : appL xs ys = some (xs ++ ys) := by
  unfold appL
  have : Nat.ble (xs.length + ys.length) lim = true := Nat.ble_eq_true_of_le h
  rw [this]; rfl
theorem drop_cons {α : Type} {xs : List α} {k : Nat} {x : α} {l : List α} (h : xs.drop k = x :: l) : k < xs.length ∧ xs[k]? = some x ∧ xs.drop (k + 1) = l := by
  have hlt : k < xs.length := by
    rcases Nat.lt_or_ge k xs.length with h' | h'
    · exact h'
    · rw [List.drop_eq_nil_of_le h'] at h; cases h
  rw [List.drop_eq_getElem_cons hlt] at h
  simp only [List.cons.injEq] at h
  exact ⟨hlt, by rw [List.getElem?_eq_getElem hlt, h.1], h.2⟩
theorem drop_nil {α : Type} {xs : List α} {k : Nat} (h : xs.drop k = []) : xs.length ≤ k := by simpa using h
/-- The value of a loop over a list, from the back. -/
def lv {α γ : Type} (b : α → Nat → γ → γ) (e : γ) : List α → Nat → γ
  | [], _ => e
  | x :: l, k => b x k (lv b e l (k + 1))
theorem lv_of {α γ : Type} (xs : List α) (F : Nat → Int → γ) (b : α → Nat → γ → γ) (e : γ)
    (h1 : ∀ n k x, k < xs.length → xs[k]? = some x → F (n + 1) (k : Int) = b x k (F n ((k + 1 : Nat) : Int)))
    (h2 : ∀ n k, xs.length ≤ k → F (n + 1) (k : Int) = e) :
    ∀ (l : List α) (k n : Nat), xs.drop k = l → l.length < n → F n (k : Int) = lv b e l k := by
  intro l
  induction l with
  | nil =>
    intro k n h hn
    obtain ⟨n, rfl⟩ : ∃ m, n = m + 1 := ⟨n - 1, by simp at hn; omega⟩
    exact h2 n k (drop_nil h)
  | cons x l ih =>
    intro k n h hn
    obtain ⟨n, rfl⟩ : ∃ m, n = m + 1 := ⟨n - 1, by simp at hn; omega⟩
    obtain ⟨a, c, d⟩ := drop_cons h
    rw [h1 n k x a c, ih (k + 1) n d (by simp at hn; omega)]; rfl
theorem lv_from {α γ : Type} {xs : List α} {F : Nat → Int → γ} {b : α → Nat → γ → γ} {e : γ} {n : Nat} {i : Int} (hn : xs.length < n) (hi : i = ((0 : Nat) : Int))
    (h1 : ∀ n k x, k < xs.length → xs[k]? = some x → F (n + 1) (k : Int) = b x k (F n ((k + 1 : Nat) : Int)))
    (h2 : ∀ n k, xs.length ≤ k → F (n + 1) (k : Int) = e) : F n i = lv b e xs 0 := by
  rw [hi]; exact lv_of xs F b e h1 h2 xs 0 n rfl hn
/-- Places below the end. -/
theorem lt_t {k n : Nat} (h : k < n) : decide ((k : Int) < (n : Int)) = true := by simp [h]
theorem lt_f {k n : Nat} (h : n ≤ k) : decide ((k : Int) < (n : Int)) = false := by simp; omega
end Gp
end
section
/- Plain lists in the order of a key, equal keys in the order of a relation. -/
namespace Gp
open Go Go.Kx
def Lt {α : Type} (K : α → Int) (r : α → α → Prop) (x y : α) : Prop := K x < K y ∨ (K x = K y ∧ r x y)
def Srt {α : Type} (K : α → Int) (r : α → α → Prop) (l : List α) : Prop := l.Pairwise (Lt K r)
variable {α : Type} {K : α → Int} {r : α → α → Prop}
theorem get_at {L A : List α} {x : α} {B : List α} {k : Nat} (hL : L = A ++ x :: B) (h : A.length = k) : L[k]? = some x := by rw [hL]; exact get_mid A x B h
/-- Blocks of one size, each sorted, the last one perhaps shorter. -/
inductive Bk (K : α → Int) (r : α → α → Prop) (n : Nat) : List α → List α → Prop
  | last (o c : List α) : c.length ≤ n → c.Perm o → Srt K r c → Bk K r n o c
  | cons (o1 c1 o2 c2 : List α) : c1.length = n → c1.Perm o1 → Srt K r c1 → Bk K r n o2 c2 → Bk K r n (o1 ++ o2) (c1 ++ c2)
theorem Bk.few {n : Nat} {o c : List α} (h : Bk K r n o c) (hn : 0 < n) (hc : c.length < 2 * n) :
    (c.length ≤ n ∧ c.Perm o ∧ Srt K r c) ∨ ∃ o1 o2 c1 c2, o = o1 ++ o2 ∧ c = c1 ++ c2 ∧ c1.length = n ∧ 0 < c2.length ∧ c2.length ≤ n ∧ c1.Perm o1 ∧ c2.Perm o2 ∧ Srt K r c1 ∧ Srt K r c2 := by
  cases h with
  | last _ _ h1 h2 h3 => exact .inl ⟨h1, h2, h3⟩
  | cons o1 c1 o2 c2 h1 h2 h3 h4 =>
    cases h4 with
    | last _ _ g1 g2 g3 =>
      rcases Nat.eq_zero_or_pos c2.length with h0 | h0
      · have : c2 = [] := List.length_eq_zero_iff.mp h0
        subst this
        have : o2 = [] := by simpa using g2.symm
        subst this
        exact .inl ⟨by simp; omega, by simpa using h2, by simpa using h3⟩
      · exact .inr ⟨o1, o2, c1, c2, rfl, rfl, h1, h0, g1, h2, g2, h3, g3⟩
    | cons p1 d1 p2 d2 g1 g2 g3 g4 => simp at hc; omega
theorem Bk.all {n : Nat} {o c : List α} (h : Bk K r n o c) (hn : 0 < n) (hc : c.length ≤ n) : c.Perm o ∧ Srt K r c := by
  rcases h.few hn (by omega) with h | ⟨o1, o2, c1, c2, h1, h2, h3, h4, _⟩
  · exact h.2
  · subst h2; simp at hc; omega
end Gp
end
section
/- Plain law: searches in lists and the equality of automata. -/
namespace Gp
open Go Go.Kx Gx
/-- A loop that looks at one element after another. -/
theorem look {α γ : Type} (xs : List α) (hs : xs.length ≤ 4194304) (b : α → Int → γ → γ) (F : Nat → Int → γ) (e : γ) {n : Nat} (hn : 4194304 < n)
    (h1 : ∀ n k x, k < xs.length → xs[k]? = some x → F (n + 1) (k : Int) = b x k (F n (w64 ((k : Int) + 1))))
    (h2 : ∀ n k, xs.length ≤ k → F (n + 1) (k : Int) = e) : F n (0 : Int) = lv (fun x (k : Nat) r => b x (k : Int) r) e xs 0 :=
  lv_from (by omega) rfl (fun n k x hk hx => by rw [h1 n k x hk hx, w64_succ (by omega)]) h2
def eqStr (a b : ByteArray) : Bool := a.toList == b.toList
/-- The sizes within which the loops end. -/
structure SizeD (x : T0) : Prop where
  f : x.Fields.length ≤ 4194304
  d : x.Guard.Diffs.length ≤ 4194304
  e : x.Guard.Equals.length ≤ 4194304
variable {N : Nat} (hN : 4194304 < N)
end Gp
end
section
/- Plain law: whether an automaton is small, the next state, and the places of names. -/
namespace Gp
open Go Go.Kx Gx
variable {N : Nat} (hN : 4194304 < N)
/-- The first place of an element, plainly. -/
def whereV {α : Type} (f : α → Bool) (l : List α) : Option Int := lv (fun x (k : Nat) r => bif f x then some (k : Int) else r) (some (-1)) l 0
theorem bcomm (a b : ByteArray) : (a.toList == b.toList) = (b.toList == a.toList) := by
  rw [Bool.eq_iff_iff, beq_iff_eq, beq_iff_eq]; exact ⟨Eq.symm, Eq.symm⟩
include hN in
theorem Index_eq (l : List ByteArray) (hl : l.length ≤ 4194304) (v : ByteArray) : z217 N l v = whereV (fun x => eqStr x v) l := by
  unfold z217 whereV
  refine look l hl (fun x k r => bif eqStr x v then some k else r) (z217_l2 l v) _ hN ?_ ?_
  · intro n k x hk hx
    simp only [z217_l2, lt_t hk, idx_nat, hx, cond_true, Option.bind_some, eqStr, bcomm v x]
  · intro n k hk
    simp only [z217_l2, lt_f hk, cond_false, z217_k1]
end Gp
end
section
/- Plain law: both answer the same edges of a state. -/
namespace Gp
open Go Go.Kx Gx
theorem lsl_to {α : Type} {L A B : List α} {i : Int} (hL : L = A ++ B) (hi : i = (A.length : Int)) : lsl L none (some i) = some A := by
  subst hL hi
  have h : decide ((A.length : Int) ≤ ((A ++ B).length : Int)) = true := by simp; omega
  have h2 : decide ((0 : Int) ≤ (A.length : Int)) = true := by simp
  unfold lsl bnd
  simp only [Option.getD_some, Option.getD_none, h, h2]
  simp
end Gp
end
section
/- Plain law: names and words, as both sides read them. -/
namespace Gp
open Go Go.Kx Gx
/-- Whether all elements, with their places, fulfil a test. -/
def allV {α : Type} (p : α → Nat → Bool) : List α → Nat → Bool
  | [], _ => true
  | x :: l, k => p x k && allV p l (k + 1)
theorem allV_of {α : Type} (p : α → Nat → Bool) (xs : List α) (F : Nat → Int → Option Bool) (e : Option Bool)
    (h1 : ∀ n k x, k < xs.length → xs[k]? = some x → F (n + 1) (k : Int) = bif p x k then F n ((k + 1 : Nat) : Int) else some false)
    (h2 : ∀ n k, xs.length ≤ k → F (n + 1) (k : Int) = e) :
    ∀ (l : List α) (k n : Nat), xs.drop k = l → l.length < n → F n (k : Int) = bif allV p l k then e else some false := by
  intro l
  induction l with
  | nil =>
    intro k n h hn
    obtain ⟨n, rfl⟩ : ∃ m, n = m + 1 := ⟨n - 1, by simp at hn; omega⟩
    exact h2 n k (drop_nil h)
  | cons x l ih =>
    intro k n h hn
    obtain ⟨n, rfl⟩ : ∃ m, n = m + 1 := ⟨n - 1, by simp at hn; omega⟩
    obtain ⟨a, c, d⟩ := drop_cons h
    rw [h1 n k x a c, ih (k + 1) n d (by simp at hn; omega)]
    show _ = bif (p x k && allV p l (k + 1)) then e else some false
    cases p x k <;> rfl
theorem allV_from {α : Type} (p : α → Nat → Bool) {xs : List α} {F : Nat → Int → Option Bool} {e : Option Bool} {n : Nat} (hn : xs.length < n)
    (h1 : ∀ n k x, k < xs.length → xs[k]? = some x → F (n + 1) (k : Int) = bif p x k then F n ((k + 1 : Nat) : Int) else some false)
    (h2 : ∀ n k, xs.length ≤ k → F (n + 1) (k : Int) = e) : F n (0 : Int) = bif allV p xs 0 then e else some false :=
  allV_of p xs F e h1 h2 xs 0 n rfl hn
/-- Exactly the tests of all places. -/
theorem allV_iff {α : Type} (p : α → Nat → Bool) : ∀ (l : List α) (k : Nat), allV p l k = true ↔ ∀ i x, l[i]? = some x → p x (k + i) = true
  | [], k => by simp [allV]
  | x :: l, k => by
    show (p x k && allV p l (k + 1)) = true ↔ _
    rw [Bool.and_eq_true, allV_iff p l (k + 1)]
    constructor
    · rintro ⟨h0, h1⟩ i y hy
      cases i with
      | zero => simp at hy; subst hy; exact h0
      | succ i => have := h1 i y (by simpa using hy); rw [show k + (i + 1) = k + 1 + i by omega]; exact this
    · intro h
      exact ⟨by simpa using h 0 x (by simp), fun i y hy => by rw [show k + 1 + i = k + (i + 1) by omega]; exact h (i + 1) y (by simpa using hy)⟩
def bs (s : ByteArray) : List UInt8 := s.data.toList
theorem size_bs (s : ByteArray) : s.size = (bs s).length := rfl
theorem slt_t {s : ByteArray} {k : Nat} (h : k < (bs s).length) : decide ((k : Int) < (s.size : Int)) = true := lt_t h
theorem slt_f {s : ByteArray} {k : Nat} (h : (bs s).length ≤ k) : decide ((k : Int) < (s.size : Int)) = false := lt_f h
theorem toList_bs (s : ByteArray) : s.toList = bs s := ByteArray.toList_eq s
theorem bs_inj {a b : ByteArray} (h : bs a = bs b) : a = b := by
  cases a with | mk a => cases b with | mk b => simpa [bs] using h
theorem sidx_bs (s : ByteArray) (k : Nat) : sidx s (k : Int) = (bs s)[k]?.map (fun b => (b.toNat : Int)) := by
  unfold sidx
  have h : decide (0 ≤ (k : Int)) = true := by simp
  rw [h, cond_true]
  have e : s[(k : Int).toNat]? = (bs s)[k]? := by
    simp [getElem?_def, bs]
    split <;> simp_all
    rfl
  rw [e]
variable {N : Nat} (hN : 4194304 < N)
/-- Letters and signs within names. -/
def letterV (c : Int) : Bool := (decide (97 ≤ c) && decide (c ≤ 122)) || (decide (65 ≤ c) && decide (c ≤ 90))
def innerV (c : Int) : Bool := letterV c || ((decide (48 ≤ c) && decide (c ≤ 57)) || c == 95)
theorem letter_eq (N : Nat) (c : Int) : z129 N c = some (letterV c) := by
  unfold z129 letterV
  cases decide (97 ≤ c) <;> cases decide (c ≤ 122) <;> cases decide (65 ≤ c) <;> rfl
theorem refLetter_eq (N : Nat) (c : Int) : z154 N c = some (letterV c) := letter_eq N c
theorem inner_eq (N : Nat) (c : Int) : z197 N c = some (innerV c) := by
  unfold z197 innerV z131
  rw [letter_eq]
  simp only [Option.bind_some]
  cases letterV c
  · cases decide (48 ≤ c) <;> cases decide (c ≤ 57) <;> rfl
  · rfl
def isName (s : ByteArray) : Bool :=
  match bs s with
  | [] => false
  | x :: l => letterV (x.toNat : Int) && (decide (l.length < 16) && allV (fun (c : UInt8) _ => innerV (c.toNat : Int)) (x :: l) 0)
def keywords : List ByteArray := [(str [97, 103, 97, 105, 110]), (str [97, 110, 100]), (str [97, 115]), (str [97, 116]), (str [99, 97, 108, 108]), (str [99, 104, 111, 105, 99, 101]), (str [101, 108, 115, 101]), (str [102, 114, 111, 109]), (str [105, 102]), (str [105, 110, 116]), (str [108, 101, 110]), (str [108, 111, 111, 112]), (str [109, 101, 115, 115, 97, 103, 101]), (str [111, 102]), (str [111, 102, 102, 101, 114]), (str [111, 110]), (str [111, 114]), (str [112, 97, 114]), (str [112, 108, 97, 121, 115]), (str [112, 114, 111, 116, 111, 99, 111, 108]), (str [115, 101, 114, 118, 105, 99, 101]), (str [116, 101, 120, 116]), (str [116, 105, 109, 101, 115]), (str [116, 111]), (str [118, 97, 114]), (str [119, 104, 101, 114, 101]), (str [119, 104, 105, 108, 101]), (str [119, 105, 116, 104, 105, 110])]
def isWord (s : ByteArray) : Bool := isName s && !(keywords.any fun k => eqStr k s)
include hN in
theorem nameL (s : ByteArray) (hs : s.size ≤ 4194304) : z192_l2 N s N (0 : Int) = some (allV (fun (c : UInt8) _ => innerV (c.toNat : Int)) (bs s) 0) := by
  rw [size_bs] at hs
  rw [allV_from (xs := bs s) (fun (c : UInt8) _ => innerV (c.toNat : Int)) (F := z192_l2 N s) (e := some true) (by omega)]
  · cases allV (fun (c : UInt8) _ => innerV (c.toNat : Int)) (bs s) 0 <;> rfl
  · intro n k x hk hx
    simp only [z192_l2, slt_t hk, cond_true, sidx_bs, hx, Option.map_some, Option.bind_some, inner_eq, w64_succ (show k < 4611686018427387904 by omega)]
    cases innerV (x.toNat : Int) <;> rfl
  · intro n k hk
    simp only [z192_l2, slt_f hk, cond_false, z192_k1]
theorem nameL_ref (s : ByteArray) : ∀ n k, z98_l2 N s n k = z192_l2 N s n k
  | 0, _ => rfl
  | n + 1, k => by
    simp only [z98_l2, z192_l2, nameL_ref s n]
    rfl
theorem bs_nil : bs (str []) = [] := rfl
include hN in
theorem name_eq (s : ByteArray) (hs : s.size ≤ 4194304) : z192 N s = some (isName s) ∧ z98 N s = some (isName s) := by
  unfold z192 z98
  rw [nameL_ref, nameL hN s hs, toList_bs, toList_bs, bs_nil, size_bs, show sidx s (0 : Int) = sidx s ((0 : Nat) : Int) from rfl, sidx_bs]
  unfold isName
  cases h : bs s with
  | nil => exact ⟨rfl, rfl⟩
  | cons x l =>
    have e : (x :: l == ([] : List UInt8)) = false := rfl
    rw [e]
    simp only [cond_false, List.getElem?_cons_zero, Option.map_some, Option.bind_some, letter_eq, refLetter_eq]
    have d : decide (((x :: l).length : Int) > 16) = !decide (l.length < 16) := by
      by_cases q : l.length < 16
      · rw [decide_eq_true q]; simp; omega
      · rw [decide_eq_false q]; simp; omega
    rw [d]
    cases letterV (x.toNat : Int) <;> cases decide (l.length < 16) <;> exact ⟨rfl, rfl⟩
/-- A search answers a place exactly if an element is found. -/
theorem whereV_any {α : Type} (f : α → Bool) (l : List α) (k : Nat) : ∃ i, lv (fun x (k : Nat) r => bif f x then some (k : Int) else r) (some (-1)) l k = some i ∧ decide (i ≥ 0) = l.any f := by
  induction l generalizing k with
  | nil => exact ⟨-1, rfl, rfl⟩
  | cons x l ih =>
    show ∃ i, (bif f x then some (k : Int) else lv _ _ l (k + 1)) = some i ∧ _
    rw [List.any_cons]
    cases f x
    · exact ih (k + 1)
    · exact ⟨k, rfl, by simp⟩
include hN in
theorem contains_eq (l : List ByteArray) (hl : l.length ≤ 4194304) (v : ByteArray) : z157 N l v = some (l.any fun x => eqStr x v) := by
  unfold z157
  rw [Index_eq hN l hl]
  obtain ⟨i, h1, h2⟩ := whereV_any (fun x => eqStr x v) l 0
  unfold whereV
  rw [h1, Option.bind_some, h2]
include hN in
theorem refIn_eq (l : List ByteArray) (hl : l.length ≤ 4194304) (v : ByteArray) : z99 N l v = some (l.any fun x => eqStr x v) := by
  unfold z99
  rw [look l hl (fun x k r => bif eqStr x v then some true else r) (z99_l2 l v) (some false) hN]
  · generalize (0 : Nat) = k
    induction l generalizing k with
    | nil => rfl
    | cons x l ih =>
      show (bif eqStr x v then some true else lv _ _ l (k + 1)) = _
      rw [List.any_cons, ih (by simp at hl; omega)]
      cases eqStr x v <;> rfl
  · intro n k x hk hx
    simp only [z99_l2, lt_t hk, idx_nat, hx, cond_true, Option.bind_some, eqStr]
  · intro n k hk
    simp only [z99_l2, lt_f hk, cond_false, z99_k1]
include hN in
theorem word_eq (s : ByteArray) (hs : s.size ≤ 4194304) : z122 N s = some (isWord s) ∧ z57 N s = some (isWord s) := by
  obtain ⟨h1, h2⟩ := name_eq hN s hs
  unfold z122 z57 z100
  rw [h1, h2]
  simp only [Option.bind_some]
  have c1 := contains_eq hN keywords (by decide) s
  have c2 := refIn_eq hN keywords (by decide) s
  unfold keywords at c1 c2
  rw [c1, c2]
  unfold isWord keywords
  simp only [Option.bind_some]
  cases isName s <;> exact ⟨rfl, rfl⟩
end Gp
end
section
/- Plain law: numbers, order and time limits, as both sides read them. -/
namespace Gp
open Go Go.Kx Gx
theorem minI_lt {a b n : Int} : minI a b < n ↔ a < n ∨ b < n := by unfold minI; split <;> omega
theorem maxI_ge {a b n : Int} : maxI a b ≥ n ↔ a ≥ n ∨ b ≥ n := by unfold maxI; split <;> omega
variable {N : Nat} (hN : 4194304 < N)
end Gp
end
section
/- Plain law: the search by breadth: the least numbers of edges from a state. -/
namespace Gp
open Go Go.Kx Gx
theorem idx_some {α : Type} {L : List α} {v : Int} {d : α} (h : idx L v = some d) : 0 ≤ v ∧ v < (L.length : Int) := by
  by_cases h0 : 0 ≤ v
  · obtain ⟨k, rfl⟩ : ∃ k : Nat, v = (k : Int) := ⟨v.toNat, by omega⟩
    rw [idx_nat] at h
    obtain ⟨hk, _⟩ := List.getElem?_eq_some_iff.mp h
    exact ⟨h0, by omega⟩
  · unfold idx at h
    rw [decide_eq_false h0] at h; cases h
theorem idx_lt {α : Type} {L : List α} {v : Int} (h0 : 0 ≤ v) (h1 : v < (L.length : Int)) : ∃ d, idx L v = some d := by
  obtain ⟨k, rfl⟩ : ∃ k : Nat, v = (k : Int) := ⟨v.toNat, by omega⟩
  exact ⟨L[k]'(by omega), by rw [idx_nat, List.getElem?_eq_getElem]⟩
theorem setL_len {α : Type} (L : List α) {b : Int} (d : α) (h0 : 0 ≤ b) : (setL' L b d).length = L.length := by
  obtain ⟨k, rfl⟩ : ∃ k : Nat, b = (k : Int) := ⟨b.toNat, by omega⟩
  rw [setL'_nat]; simp
theorem idx_set {α : Type} {L : List α} {b : Int} {d : α} (h0 : 0 ≤ b) (h1 : b < (L.length : Int)) (v : Int) : idx (setL' L b d) v = if v = b then some d else idx L v := by
  obtain ⟨k, rfl⟩ : ∃ k : Nat, b = (k : Int) := ⟨b.toNat, by omega⟩
  rw [setL'_nat]
  by_cases hv : 0 ≤ v
  · obtain ⟨j, rfl⟩ : ∃ j : Nat, v = (j : Int) := ⟨v.toNat, by omega⟩
    rw [idx_nat, idx_nat, List.getElem?_set]
    by_cases e : k = j
    · subst e; simp; omega
    · rw [if_neg e, if_neg (by omega)]
  · rw [if_neg (by omega)]
    unfold idx
    rw [decide_eq_false hv]; rfl
/-- The state of the search: what is known, and what is to be done; all that is known is at most one beyond `da`. -/
structure Jn (E : List (Int × Int)) (S : Nat) (e da : Int) (out todo : List Int) (mu : Nat) : Prop where
  len : out.length = S
  lo : ∀ v d, idx out v = some d → -1 ≤ d ∧ d ≤ da + 1
  ub : ∀ v d, idx out v = some d → d + (out.count (-1) : Nat) + 1 ≤ (S : Int)
  root : idx out e = some 0
  zero : ∀ v, idx out v = some 0 → v = e
  pred : ∀ v d, idx out v = some d → 0 < d → ∃ u, (u, v) ∈ E ∧ idx out u = some (d - 1)
  todo_in : ∀ v ∈ todo, ∃ d, idx out v = some d ∧ da ≤ d ∧ 0 ≤ d
  sorted : todo.Pairwise (fun x y => ∀ dx dy, idx out x = some dx → idx out y = some dy → dx ≤ dy)
  proc : ∀ u v d, (u, v) ∈ E → idx out u = some d → 0 ≤ d → u ∉ todo → ∃ d', idx out v = some d' ∧ 0 ≤ d' ∧ d' ≤ d + 1
  mu_eq : out.count (-1) + todo.length = mu
variable {N : Nat}
/-- The least numbers of edges. -/
structure Dist (E : List (Int × Int)) (S : Nat) (e : Int) (L : List Int) : Prop where
  len : L.length = S
  lo : ∀ v d, idx L v = some d → -1 ≤ d ∧ d < (S : Int)
  root : idx L e = some 0
  zero : ∀ v, idx L v = some 0 → v = e
  pred : ∀ v d, idx L v = some d → 0 < d → ∃ u, (u, v) ∈ E ∧ idx L u = some (d - 1)
  succ : ∀ u v d, (u, v) ∈ E → idx L u = some d → 0 ≤ d → ∃ d', idx L v = some d' ∧ 0 ≤ d' ∧ d' ≤ d + 1
end Gp
end
section
/- Plain law: all states are reached, and reach End, as both sides find it. -/
namespace Gp
open Go Go.Kx Gx
variable {N : Nat}
/-- What is reached: nothing beyond the distances, and all up to n. -/
structure Rc (S : Nat) (F : List Int) (n : Int) (R : List Bool) : Prop where
  len : R.length = S
  sound : ∀ v, idx R v = some true → ∃ d, idx F v = some d ∧ 0 ≤ d
  full : ∀ v d, idx F v = some d → 0 ≤ d → d ≤ n → idx R v = some true
theorem Rc.set {S : Nat} {F : List Int} {n : Int} {R : List Bool} (h : Rc S F n R) {v : Int} {b : Bool} (v0 : 0 ≤ v) (v1 : v < (S : Int)) (hb : b = true → ∃ d, idx F v = some d ∧ 0 ≤ d) (hm : idx R v = some true → b = true) : Rc S F n (setL' R v b) := by
  have hset := fun w => idx_set (L := R) (d := b) v0 (by rw [h.len]; exact v1) w
  refine ⟨by rw [setL_len _ _ v0, h.len], ?_, ?_⟩
  · intro w hw
    rw [hset] at hw
    split at hw
    · rename_i hc; subst hc; exact hb (Option.some.inj hw)
    · exact h.sound w hw
  · intro w d hw h0 h1
    rw [hset]
    split
    · rename_i hc; subst hc
      rw [hm (h.full _ _ hw h0 h1)]
    · exact h.full w d hw h0 h1
end Gp
end
section
/- Plain law: paths: words between points, as both sides read them. -/
namespace Gp
open Go Go.Kx Gx
def mkB (l : List UInt8) : ByteArray := ⟨l.toArray⟩
theorem bs_mkB (l : List UInt8) : bs (mkB l) = l := by simp [bs, mkB]
theorem mkB_bs (s : ByteArray) : mkB (bs s) = s := bs_inj (bs_mkB _)
theorem bs_extract (s : ByteArray) (a b : Nat) : bs (s.extract a b) = ((bs s).take b).drop a := by
  unfold bs
  rw [ByteArray.data_extract, Array.toList_extract]
  simp [List.extract, List.drop_take]
theorem ssl_mid {s : ByteArray} {x y z : List UInt8} {i j : Int} (h : bs s = x ++ (y ++ z)) (hi : i = (x.length : Int)) (hj : j = ((x.length + y.length : Nat) : Int)) : ssl s (some i) (some j) = some (mkB y) := by
  subst hi hj
  have q1 : decide ((0 : Int) ≤ (x.length : Int)) = true := by simp
  have q2 : decide ((x.length : Int) ≤ ((x.length + y.length : Nat) : Int)) = true := by simp; omega
  have q3 : decide (((x.length + y.length : Nat) : Int) ≤ (s.size : Int)) = true := by rw [size_bs, h]; simp; omega
  unfold ssl bnd
  simp only [Option.getD_some, q1, q2, q3, Bool.and_self, cond_true, Option.map_some, Int.toNat_natCast]
  congr 1
  apply bs_inj
  rw [bs_extract, bs_mkB, h, ← List.append_assoc, List.take_append_of_le_length (by simp), List.take_of_length_le (by simp)]
  simp
theorem ssl_to {s : ByteArray} {x y : List UInt8} {j : Int} (h : bs s = x ++ y) (hj : j = (x.length : Int)) : ssl s none (some j) = some (mkB x) := by
  have e : ssl s none (some j) = ssl s (some 0) (some j) := rfl
  rw [e]
  exact ssl_mid (x := []) (y := x) (z := y) (by rw [h]; rfl) rfl (by rw [hj]; simp)
theorem ssl_from {s : ByteArray} {x y : List UInt8} {i : Int} (h : bs s = x ++ y) (hi : i = (x.length : Int)) : ssl s (some i) none = some (mkB y) := by
  have e : ssl s (some i) none = ssl s (some i) (some (s.size : Int)) := rfl
  rw [e]
  exact ssl_mid (x := x) (y := y) (z := []) (by rw [h]; simp) hi (by rw [size_bs, h]; simp)
theorem indexB_some {l : List UInt8} {c : UInt8} (h : 0 < l.count c) : ∃ p q, l = p ++ c :: q ∧ p.count c = 0 ∧ Go.Lib.indexByte l c = (p.length : Int) := by
  induction l with
  | nil => simp at h
  | cons b l ih =>
    cases hc : (b == c)
    · rw [List.count_cons, hc] at h
      obtain ⟨p, q, h1, h2, h3⟩ := ih (by simpa using h)
      refine ⟨b :: p, q, by rw [h1]; rfl, by rw [List.count_cons, h2, hc]; rfl, ?_⟩
      unfold Go.Lib.indexByte
      rw [hc, h3, show ((p.length : Int) == -1) = false by simp]
      simp
    · have : b = c := by simpa using hc
      subst this
      exact ⟨[], l, rfl, by simp, by unfold Go.Lib.indexByte; rw [hc]; rfl⟩
def splitA (acc : List UInt8) : List UInt8 → List (List UInt8)
  | [] => [acc]
  | c :: l => if c = 46 then acc :: splitA [] l else splitA (acc ++ [c]) l
theorem splitA_cons (acc : List UInt8) (c : UInt8) (l : List UInt8) : splitA acc (c :: l) = if c = 46 then acc :: splitA [] l else splitA (acc ++ [c]) l := rfl
theorem splitA_none : ∀ (l acc : List UInt8), l.count 46 = 0 → splitA acc l = [acc ++ l]
  | [], acc, _ => by simp [splitA]
  | c :: l, acc, h => by
    rw [List.count_cons] at h
    have hc : ¬ c = 46 := by intro hc; subst hc; simp at h
    rw [splitA_cons, if_neg hc, splitA_none l _ (by omega)]; simp
theorem splitA_some : ∀ (p acc q : List UInt8), p.count 46 = 0 → splitA acc (p ++ 46 :: q) = (acc ++ p) :: splitA [] q
  | [], acc, q, _ => by rw [List.nil_append, splitA_cons, if_pos rfl, List.append_nil]
  | c :: p, acc, q, h => by
    rw [List.count_cons] at h
    have hc : ¬ c = 46 := by intro hc; subst hc; simp at h
    show splitA acc (c :: (p ++ 46 :: q)) = _
    rw [splitA_cons, if_neg hc, splitA_some p _ q (by omega)]; simp
theorem splitA_len : ∀ (l acc : List UInt8), (splitA acc l).length = l.count 46 + 1
  | [], acc => by simp [splitA]
  | c :: l, acc => by
    rw [splitA_cons, List.count_cons]
    split
    · rename_i h; subst h
      rw [List.length_cons, splitA_len l]; simp
    · rename_i h
      rw [splitA_len l]; simp [h]
variable {N : Nat}
theorem index_eq (s : ByteArray) : z236 N s (str [46]) = some (Go.Lib.indexByte (bs s) 46) := by
  unfold z236 z267
  have h1 : (((str [46]).size : Int) == 0) = false := rfl
  have h2 : (((str [46]).size : Int) == 1) = true := rfl
  have h3 : sidx (str [46]) (0 : Int) = some 46 := by
    rw [show (0 : Int) = ((0 : Nat) : Int) from rfl, sidx_bs]; rfl
  rw [h1, h2, h3]
  simp only [cond_true, cond_false, Option.bind_some, z235]
  have hf : firstB s 46 = Go.Lib.indexByte (bs s) 46 := Go.Lib.firstIdx_eq s 46
  rw [hf, toList_bs, toList_bs]
  cases he : (bs (str [46]) == bs s)
  · rfl
  · have he : bs (str [46]) = bs s := eq_of_beq he
    rw [← he]; rfl
theorem count_eq (s : ByteArray) : z262 N s (str [46]) = some (((bs s).count 46 : Nat) : Int) := by
  unfold z262
  have h1 : (((str [46]).size : Int) == 0) = false := rfl
  have h2 : (((str [46]).size : Int) == 1) = true := rfl
  have h3 : sidx (str [46]) (0 : Int) = some 46 := by
    rw [show (0 : Int) = ((0 : Nat) : Int) from rfl, sidx_bs]; rfl
  rw [h1, h2, h3]
  simp only [cond_true, cond_false, Option.bind_some]
  congr 1
  unfold countB
  rw [show s.foldl (fun (n : Int) x => if x == Kx.byteOf 46 then n + 1 else n) ((0 : Nat) : Int) = (bs s).foldl (fun (n : Int) x => if x == Kx.byteOf 46 then n + 1 else n) ((0 : Nat) : Int) from Go.Lib.foldl_data _ _ _, Go.Lib.count_foldl]
  simp [Go.Lib.countByte, Kx.byteOf]
theorem gen_loop (s sep : ByteArray) (hsep : sep = str [46]) (cnt : Nat) (hc : cnt ≤ s.size) (hs : s.size ≤ 4194304) :
    ∀ (n : Nat) (cur : ByteArray) (D R : List ByteArray), (bs cur).count 46 < n → (bs cur).length ≤ 4194304 → D.length + (bs cur).count 46 = cnt → R.length = (bs cur).count 46 + 1 →
    z233_l2 N s sep (0 : Int) ((cnt + 1 : Nat) : Int) n cur (D ++ R) (D.length : Int) = some (D ++ (splitA [] (bs cur)).map mkB) := by
  subst hsep
  intro n
  induction n with
  | zero => intro cur D R h; omega
  | succ n ih =>
    intro cur D R hn hcur hD hR
    have hw : w64 ((s.size : Int) + 1) = ((s.size + 1 : Nat) : Int) := w64_succ (by omega)
    have hmin : minI ((cnt + 1 : Nat) : Int) ((s.size + 1 : Nat) : Int) = ((cnt + 1 : Nat) : Int) := by unfold minI; rw [if_neg (by omega)]
    have hw2 : w64 (((cnt + 1 : Nat) : Int) - 1) = (cnt : Int) := by rw [w64_id (by omega) (by omega)]; omega
    have fin : (bs cur).count 46 = 0 → z233_k1 cur (D ++ R) (D.length : Int) = some (D ++ (splitA [] (bs cur)).map mkB) := by
      intro h0
      rw [h0] at hR
      obtain ⟨r, rfl⟩ := List.length_eq_one_iff.mp hR
      unfold z233_k1
      rw [idx_mid (A := D) (x := r) (B := []) rfl rfl, Option.bind_some, setL'_mid (A := D) (x := r) (B := []) rfl rfl, w64_succ (by omega), lsl_to (A := D ++ [cur]) (B := []) (by simp) (by simp), splitA_none _ _ h0]
      simp [mkB_bs]
    by_cases hlt : D.length < cnt
    · have hd : decide ((D.length : Int) < (cnt : Int)) = true := by simp; omega
      obtain ⟨p, q, e1, e2, e3⟩ := indexB_some (l := bs cur) (c := 46) (by omega)
      have hlen : (bs cur).length = p.length + (q.length + 1) := by rw [e1]; simp
      have hcnt : (bs cur).count 46 = q.count 46 + 1 := by rw [e1, List.count_append, List.count_cons, e2]; simp
      obtain ⟨r, R', rfl⟩ : ∃ r R', R = r :: R' := by
        cases R with
        | nil => simp at hR
        | cons r R' => exact ⟨r, R', rfl⟩
      simp only [List.length_cons] at hR
      have hneg : decide ((p.length : Int) < 0) = false := by simp
      have wp : w64 ((p.length : Int) + 0) = (p.length : Int) := by rw [w64_id (by omega) (by omega)]; omega
      have wp1 : w64 ((p.length : Int) + ((str [46]).size : Int)) = ((p ++ [46] : List UInt8).length : Int) := by
        rw [show ((str [46]).size : Int) = 1 from rfl, w64_succ (by omega)]; simp
      simp only [z233_l2, hw, hmin, hw2, hd, cond_true, index_eq, e3, Option.bind_some, hneg, cond_false, wp, wp1]
      rw [ssl_to e1 rfl, Option.bind_some, idx_mid (A := D) (x := r) (B := R') rfl rfl, Option.bind_some, ssl_from (x := p ++ [46]) (y := q) (by rw [e1]; simp) rfl, Option.bind_some, setL'_mid (A := D) (x := r) (B := R') rfl rfl, w64_succ (by omega)]
      have := ih (mkB q) (D ++ [mkB p]) R' (by rw [bs_mkB]; omega) (by rw [bs_mkB]; omega) (by rw [bs_mkB]; simp; omega) (by rw [bs_mkB]; omega)
      rw [bs_mkB] at this
      rw [show ((D.length + 1 : Nat) : Int) = ((D ++ [mkB p]).length : Int) by simp, show D ++ mkB p :: R' = (D ++ [mkB p]) ++ R' by simp, this, e1, splitA_some _ _ _ e2]
      simp
    · have hd : decide ((D.length : Int) < (cnt : Int)) = false := by simp; omega
      simp only [z233_l2, hw, hmin, hw2, hd, cond_false]
      exact fin (by omega)
theorem split_eq (hN : 4194304 < N) (s : ByteArray) (hs : s.size ≤ 1000000) : z190 N s (str [46]) = some ((splitA [] (bs s)).map mkB) := by
  unfold z190 z233
  have h0 : ((-1 : Int) == 0) = false := rfl
  have h1 : ((str [46]).toList == (str []).toList) = false := by rw [toList_bs, toList_bs]; rfl
  have h2 : decide ((-1 : Int) < 0) = true := rfl
  have hcl : (bs s).count 46 ≤ (bs s).length := List.count_le_length
  rw [h0, h1, h2, count_eq]
  simp only [cond_true, cond_false, Option.bind_some, z233_k3]
  rw [size_bs] at hs
  rw [w64_succ (by omega)]
  have hw : w64 ((s.size : Int) + 1) = ((s.size + 1 : Nat) : Int) := w64_succ (by rw [size_bs]; omega)
  have hmin : minI (((bs s).count 46 + 1 : Nat) : Int) ((s.size + 1 : Nat) : Int) = (((bs s).count 46 + 1 : Nat) : Int) := by unfold minI; rw [if_neg (by rw [size_bs]; omega)]
  have m : mkL (str []) (((bs s).count 46 + 1 : Nat) : Int) (((bs s).count 46 + 1 : Nat) : Int) = some (List.replicate ((bs s).count 46 + 1) (str [])) := by
    unfold mkL
    have q1 : decide ((0 : Int) ≤ (((bs s).count 46 + 1 : Nat) : Int)) = true := by simp; omega
    have q2 : decide ((((bs s).count 46 + 1 : Nat) : Int) ≤ 4294967296) = true := by simp; omega
    simp only [q1, q2, Int.le_refl, decide_true, Bool.and_self, cond_true]
    simp
  rw [hw, hmin, m, Option.bind_some]
  have := gen_loop (N := N) s (str [46]) rfl ((bs s).count 46) (by rw [size_bs]; omega) (by rw [size_bs]; omega) N s [] (List.replicate ((bs s).count 46 + 1) (str [])) (by omega) (by omega) (by simp) (by simp)
  rw [List.nil_append] at this
  have this' : z233_l2 N s (str [46]) (0 : Int) (((bs s).count 46 + 1 : Nat) : Int) N s (List.replicate ((bs s).count 46 + 1) (str [])) (0 : Int) = some ([] ++ (splitA [] (bs s)).map mkB) := this
  rw [this']; simp
def pathV (s : ByteArray) : Bool := decide (s.size ≤ 50) && (splitA [] (bs s)).all fun p => isWord (mkB p)
theorem piece_len : ∀ (l acc : List UInt8), ∀ p ∈ splitA acc l, p.length ≤ acc.length + l.length
  | [], acc, p, h => by simp [splitA] at h; subst h; simp
  | c :: l, acc, p, h => by
    rw [splitA_cons] at h
    split at h
    · rcases List.mem_cons.mp h with h | h
      · subst h; simp
      · have := piece_len l [] p h; simp at this; simp; omega
    · have := piece_len l _ p h; simp at this; simp; omega
theorem path_eq (hN : 4194304 < N) (s : ByteArray) : z119 N s = some (pathV s) := by
  unfold z119 pathV
  by_cases h : s.size ≤ 50
  · rw [decide_eq_true (show (s.size : Int) ≤ 50 by omega), decide_eq_true h, cond_true, split_eq hN s (by omega), Option.bind_some]
    unfold z189_1 z225_0
    have hl : (splitA [] (bs s)).length ≤ 51 := by
      rw [splitA_len]
      have : (bs s).count 46 ≤ (bs s).length := List.count_le_length
      rw [size_bs] at h; omega
    rw [look ((splitA [] (bs s)).map mkB) (by simp; omega) (fun x k r => bif !(isWord x) then some k else r) (z225_0_l2 N ((splitA [] (bs s)).map mkB)) (some (-1)) hN]
    · obtain ⟨i, h1, h2⟩ := whereV_any (fun x => !(isWord x)) ((splitA [] (bs s)).map mkB) 0
      rw [h1, Option.bind_some, h2, Option.bind_some, List.any_map, List.not_any_eq_all_not]
      simp [Function.comp_def]
    · intro n k x hk hx
      have hx' := List.mem_of_getElem? hx
      obtain ⟨p, hp, rfl⟩ := List.mem_map.mp hx'
      have hpl := piece_len _ _ p hp
      have hw := (word_eq hN (mkB p) (by rw [size_bs, bs_mkB]; rw [size_bs] at h; simp at hpl; omega)).1
      simp only [z225_0_l2, lt_t hk, idx_nat, hx, cond_true, Option.bind_some, z191, hw]
    · intro n k hk
      simp only [z225_0_l2, lt_f hk, cond_false, z225_0_k1]
  · rw [decide_eq_false (show ¬ (s.size : Int) ≤ 50 by omega), decide_eq_false h]; rfl
theorem refPath_loop (hN : 4194304 < N) (s : ByteArray) (hs : s.size ≤ 4194304) : ∀ (n : Nat) (x acc l : List UInt8) (i j : Int), l.length + 1 < n → bs s = x ++ (acc ++ l) → i = (x.length : Int) → j = ((x.length + acc.length : Nat) : Int) →
    z58_l2 N s n i j = bif (splitA acc l).all fun p => isWord (mkB p) then z58_k1 s else some false := by
  intro n
  induction n with
  | zero => intro x acc l i j h; omega
  | succ n ih =>
    intro x acc l i j hn he hi hj
    have hsz : s.size = x.length + (acc.length + l.length) := by rw [size_bs, he]; simp
    have hle : decide (j ≤ (s.size : Int)) = true := by simp; omega
    have hw := (word_eq hN (mkB acc) (by rw [size_bs, bs_mkB]; omega)).2
    have wj : w64 (j + 1) = ((x.length + acc.length + 1 : Nat) : Int) := by rw [hj]; exact w64_succ (by omega)
    cases l with
    | nil =>
      have hend : (j == (s.size : Int)) = true := by simp at hsz; simp; omega
      obtain ⟨n, rfl⟩ : ∃ m, n = m + 1 := ⟨n - 1, by simp at hn; omega⟩
      have hgt : decide (w64 (j + 1) ≤ (s.size : Int)) = false := by rw [wj]; simp at hsz; simp; omega
      unfold z58_l2
      rw [hle, cond_true, hend, cond_true]
      unfold z58_k3
      rw [cond_true, ssl_mid he hi hj, Option.bind_some]
      unfold z101
      rw [hw]
      simp only [Option.bind_some, splitA, List.all_cons, List.all_nil, Bool.and_true]
      cases isWord (mkB acc)
      · rfl
      · simp only [Bool.not_true, cond_false, cond_true]
        unfold z58_l2
        rw [hgt]; rfl
    | cons c l =>
      have hne : (j == (s.size : Int)) = false := by simp at hsz; simp; omega
      have hgc : sidx s j = some (c.toNat : Int) := by
        rw [hj, sidx_bs, get_at (A := x ++ acc) (x := c) (B := l) (by rw [he]; simp) (by simp)]; rfl
      unfold z58_l2
      rw [hle, cond_true, hne, cond_false, hgc, Option.bind_some]
      by_cases hc : c = 46
      · subst hc
        have hb : (((46 : UInt8).toNat : Int) == 46) = true := rfl
        rw [hb]
        unfold z58_k3
        rw [cond_true, ssl_mid he hi hj, Option.bind_some]
        unfold z101
        rw [hw]
        have e0 : splitA acc (46 :: l) = acc :: splitA [] l := by rw [splitA_cons, if_pos rfl]
        rw [e0, List.all_cons]
        simp only [Option.bind_some]
        cases isWord (mkB acc)
        · rfl
        · simp only [Bool.not_true, cond_false, Bool.true_and]
          rw [wj]
          exact ih (x ++ acc ++ [46]) [] l _ _ (by simp at hn; omega) (by rw [he]; simp) (by simp; omega) (by simp; omega)
      · have hb : ((c.toNat : Int) == 46) = false := by
          rw [beq_eq_false_iff_ne]
          intro h
          apply hc
          apply UInt8.toNat_inj.mp
          show c.toNat = 46
          omega
        rw [hb]
        unfold z58_k3
        have e0 : splitA acc (c :: l) = splitA (acc ++ [c]) l := by rw [splitA_cons, if_neg hc]
        rw [cond_false, wj, e0]
        exact ih x (acc ++ [c]) l _ _ (by simp at hn; omega) (by rw [he]; simp) hi (by simp; omega)
theorem refPath_eq (hN : 4194304 < N) (s : ByteArray) (hs : s.size ≤ 4000000) : z58 N s = some (pathV s) := by
  unfold z58
  rw [refPath_loop hN s (by omega) N [] [] (bs s) (0 : Int) (0 : Int) (by rw [size_bs] at hs; omega) rfl rfl rfl]
  unfold z58_k1 pathV
  by_cases h : s.size ≤ 50
  · rw [decide_eq_true (show (s.size : Int) ≤ 50 by omega), decide_eq_true h]
    cases (splitA [] (bs s)).all fun p => isWord (mkB p) <;> rfl
  · rw [decide_eq_false (show ¬ (s.size : Int) ≤ 50 by omega), decide_eq_false h]
    cases (splitA [] (bs s)).all fun p => isWord (mkB p) <;> rfl
end Gp
end
section
/- Plain law: declarations of message types, as both sides read them. -/
namespace Gp
open Go Go.Kx Gx
variable {N : Nat}
/-- All fields of the declarations, one behind the other. -/
def flat (l : List T0) : List T2 := (l.map fun d => d.Fields).flatten
theorem flat_cons (x : T0) (l : List T0) : flat (x :: l) = x.Fields ++ flat l := rfl
theorem flat_app (a b : List T0) : flat (a ++ b) = flat a ++ flat b := by simp [flat]
theorem flat_le (l : List T0) (h : ∀ d ∈ l, SizeD d) : (flat l).length ≤ l.length * 4194304 := by
  induction l with
  | nil => simp [flat]
  | cons x l ih =>
    rw [flat_cons, List.length_append, List.length_cons]
    have := (h x (by simp)).f
    have := ih (fun d hd => h d (by simp [hd]))
    omega
theorem take_drop_cons {α : Type} {xs l : List α} {k : Nat} {x : α} (h : xs.drop k = x :: l) : xs.take (k + 1) = xs.take k ++ [x] := by
  obtain ⟨a, c, d⟩ := drop_cons h
  rw [List.take_add_one, c]; rfl
theorem fields_loop (l : List T0) (hs : (flat l).length ≤ 4294967296) (hl : l.length ≤ 4194304) :
    ∀ (m : List T0) (k n : Nat) (acc : List T2), l.drop k = m → m.length < n → acc = flat (l.take k) → z79_l2 l n acc (k : Int) = some (flat l) := by
  intro m
  induction m with
  | nil =>
    intro k n acc h hn ha
    obtain ⟨n, rfl⟩ : ∃ m, n = m + 1 := ⟨n - 1, by simp at hn; omega⟩
    have hk := drop_nil h
    simp only [z79_l2, lt_f hk, cond_false, z79_k1]
    rw [ha, List.take_of_length_le hk]
  | cons x m ih =>
    intro k n acc h hn ha
    obtain ⟨n, rfl⟩ : ∃ m, n = m + 1 := ⟨n - 1, by simp at hn; omega⟩
    obtain ⟨a, c, d⟩ := drop_cons h
    have ht := take_drop_cons h
    have hcut : flat l = flat (l.take (k + 1)) ++ flat (l.drop (k + 1)) := by rw [← flat_app, List.take_append_drop]
    have hle : acc.length + x.Fields.length ≤ 4294967296 := by
      rw [hcut, ht, flat_app, List.length_append, List.length_append, ← ha] at hs
      have : (flat [x]).length = x.Fields.length := by simp [flat]
      omega
    simp only [z79_l2, lt_t a, cond_true, idx_nat, c, Option.bind_some]
    rw [appL_some hle, Option.bind_some, w64_succ (by omega)]
    refine ih (k + 1) n _ d (by simp at hn; omega) ?_
    rw [ht, flat_app, ← ha]; simp [flat]
theorem fields_eq (hN : 4194304 < N) (l : List T0) (hl : l.length ≤ 1000) (hd : ∀ d ∈ l, SizeD d) : z79 N l = some (flat l) := by
  unfold z79
  exact fields_loop l (by have := flat_le l hd; omega) (by omega) l 0 N [] rfl (by omega) rfl
theorem vars_loop (l : List T0) (hs : (flat l).length ≤ 4294967296) (hl : l.length ≤ 4194304) :
    ∀ (m : List T0) (k n : Nat) (acc : Int), l.drop k = m → m.length < n → acc = ((flat (l.take k)).length : Int) → z55_l2 l n acc (k : Int) = some ((flat l).length : Int) := by
  intro m
  induction m with
  | nil =>
    intro k n acc h hn ha
    obtain ⟨n, rfl⟩ : ∃ m, n = m + 1 := ⟨n - 1, by simp at hn; omega⟩
    have hk := drop_nil h
    simp only [z55_l2, lt_f hk, cond_false, z55_k1]
    rw [ha, List.take_of_length_le hk]
  | cons x m ih =>
    intro k n acc h hn ha
    obtain ⟨n, rfl⟩ : ∃ m, n = m + 1 := ⟨n - 1, by simp at hn; omega⟩
    obtain ⟨a, c, d⟩ := drop_cons h
    have ht := take_drop_cons h
    have hcut : flat l = flat (l.take (k + 1)) ++ flat (l.drop (k + 1)) := by rw [← flat_app, List.take_append_drop]
    have hx : (flat [x]).length = x.Fields.length := by simp [flat]
    have hle : (flat (l.take k)).length + x.Fields.length ≤ 4294967296 := by
      rw [hcut, ht, flat_app, List.length_append, List.length_append] at hs
      omega
    simp only [z55_l2, lt_t a, cond_true, idx_nat, c, Option.bind_some]
    rw [w64_succ (by omega), w64_id (by omega) (by omega)]
    refine ih (k + 1) n _ d (by simp at hn; omega) ?_
    rw [ht, flat_app, List.length_append, hx, ha]; simp
theorem vars_eq (hN : 4194304 < N) (l : List T0) (hl : l.length ≤ 1000) (hd : ∀ d ∈ l, SizeD d) : z55 N l = some ((flat l).length : Int) := by
  unfold z55
  exact vars_loop l (by have := flat_le l hd; omega) (by omega) l 0 N 0 rfl (by omega) rfl
theorem field_loop (l : List T0) (hl : l.length ≤ 4194304) (hd : ∀ d ∈ l, SizeD d) :
    ∀ (m : List T0) (k n i : Nat), l.drop k = m → m.length < n → i < (flat m).length → i ≤ 4294967296 → z61_l2 l n (i : Int) (k : Int) = (flat m)[i]? := by
  intro m
  induction m with
  | nil => intro k n i h hn hi; simp [flat] at hi
  | cons x m ih =>
    intro k n i h hn hi hi2
    obtain ⟨n, rfl⟩ : ∃ m, n = m + 1 := ⟨n - 1, by simp at hn; omega⟩
    obtain ⟨a, c, d⟩ := drop_cons h
    rw [flat_cons]
    simp only [z61_l2, lt_t a, cond_true, idx_nat, c, Option.bind_some]
    by_cases hlt : i < x.Fields.length
    · rw [lt_t hlt, cond_true, List.getElem?_append_left hlt, List.getElem?_eq_getElem hlt]; rfl
    · rw [lt_f (by omega), cond_false, w64_succ (by omega), List.getElem?_append_right (by omega)]
      have hf := (hd x (List.mem_of_getElem? c)).f
      have hw : w64 ((i : Int) - (x.Fields.length : Int)) = ((i - x.Fields.length : Nat) : Int) := by rw [w64_id (by omega) (by omega)]; omega
      rw [hw]
      exact ih (k + 1) n _ d (by simp at hn; omega) (by rw [flat_cons, List.length_append] at hi; omega) (by omega)
/-- A variable of kind 2. -/
def textV (fl : List T2) (x : Int) : Bool := match idx fl x with | some f => f.Sort'.Kind == 2 | none => false
theorem idx_none {α : Type} {L : List α} {v : Int} (h : ¬ (0 ≤ v ∧ v < (L.length : Int))) : idx L v = none := by
  cases hc : idx L v with
  | none => rfl
  | some d => exact absurd (idx_some hc) h
theorem text_eq (hN : 4194304 < N) (l : List T0) (hl : l.length ≤ 1000) (hd : ∀ d ∈ l, SizeD d) (x : Int) : z102 N l x = some (textV (flat l) x) := by
  have hfl := flat_le l hd
  unfold z102 textV
  rw [vars_eq hN l hl hd]
  by_cases h0 : x ≥ 0
  · rw [decide_eq_true h0, cond_true, Option.bind_some]
    by_cases h1 : x < ((flat l).length : Int)
    · obtain ⟨k, rfl⟩ : ∃ k : Nat, x = (k : Int) := ⟨x.toNat, by omega⟩
      have hk : k < (flat l).length := by omega
      have hf : z61 N l (k : Int) = (flat l)[k]? := field_loop l (by omega) hd l 0 N k rfl (by omega) hk (by omega)
      rw [decide_eq_true h1, cond_true, hf, idx_nat, List.getElem?_eq_getElem hk]; rfl
    · rw [decide_eq_false h1, idx_none (by omega)]; rfl
  · rw [decide_eq_false h0, idx_none (by omega)]; rfl
def diffOk (n : Int) (d : T1) : Prop := -1 ≤ d.X ∧ d.X < n ∧ -1 ≤ d.Y ∧ d.Y < n ∧ -20000 ≤ d.C ∧ d.C ≤ 20000
instance (n : Int) (d : T1) : Decidable (diffOk n d) := by unfold diffOk; infer_instance
def guardV (fl : List T2) (g : T3) : Bool :=
  decide (g.Diffs.length ≤ 20 ∧ g.Equals.length ≤ 20) && (allV (fun d _ => decide (diffOk (fl.length : Int) d)) g.Diffs 0 && allV (fun e _ => textV fl e.1 && textV fl e.2) g.Equals 0)
theorem guarded_eq (hN : 4194304 < N) (g : T3) (fl : List T2) : z126 N g fl = some (guardV fl g) := by
  unfold z126 guardV
  by_cases c1 : (g.Diffs.length : Int) > 20
  · rw [decide_eq_true c1, decide_eq_false (show ¬ (g.Diffs.length ≤ 20 ∧ g.Equals.length ≤ 20) by omega)]; rfl
  by_cases c2 : (g.Equals.length : Int) > 20
  · rw [decide_eq_false c1, decide_eq_true c2, decide_eq_false (show ¬ (g.Diffs.length ≤ 20 ∧ g.Equals.length ≤ 20) by omega)]; rfl
  rw [decide_eq_false c1, decide_eq_false c2, decide_eq_true (show g.Diffs.length ≤ 20 ∧ g.Equals.length ≤ 20 by omega)]
  simp only [cond_false, Bool.true_and]
  rw [allV_from (fun d _ => decide (diffOk (fl.length : Int) d)) (xs := g.Diffs) (F := z126_l6 N g fl) (e := z126_k5 N g fl) (by omega)]
  · unfold z126_k5
    rw [allV_from (fun e _ => textV fl e.1 && textV fl e.2) (xs := g.Equals) (F := z126_l2 N g fl) (e := some true) (by omega)]
    · cases allV (fun d _ => decide (diffOk (fl.length : Int) d)) g.Diffs 0 <;> cases allV (fun e _ => textV fl e.1 && textV fl e.2) g.Equals 0 <;> rfl
    · intro n k x hk hx
      obtain ⟨m, rfl⟩ : ∃ m, N = m + 3 := ⟨N - 3, by omega⟩
      have e0 : idx ([x.1, x.2] : List Int) (0 : Int) = some x.1 := rfl
      have e1 : idx ([x.1, x.2] : List Int) (1 : Int) = some x.2 := rfl
      have w0 : w64 ((0 : Int) + 1) = 1 := by decide
      have w1 : w64 ((1 : Int) + 1) = 2 := by decide
      have l0 : decide ((0 : Int) < 2) = true := rfl
      have l1 : decide ((1 : Int) < 2) = true := rfl
      have l2 : decide ((2 : Int) < 2) = false := rfl
      have one : ∀ (v : Int) (r : Option Bool), (bif decide (v < (0 : Int)) then some false else bif decide (v ≥ (fl.length : Int)) then some false else (idx fl v).bind fun x143 => bif (x143.Sort'.Kind != (2 : Int)) then some false else r) = bif textV fl v then r else some false := by
        intro v r
        unfold textV
        by_cases h0 : v < 0
        · rw [decide_eq_true h0, idx_none (by omega)]; rfl
        by_cases h1 : v ≥ (fl.length : Int)
        · rw [decide_eq_false h0, decide_eq_true h1, idx_none (by omega)]; rfl
        obtain ⟨f, hf⟩ := idx_lt (L := fl) (v := v) (by omega) (by omega)
        rw [decide_eq_false h0, decide_eq_false h1, hf]
        simp only [cond_false, Option.bind_some]
        unfold bne
        cases (f.Sort'.Kind == 2) <;> rfl
      have inner : z126_l4 fl (k : Int) (z126_l2 (m + 3) g fl n) x (m + 3) (0 : Int) = bif textV fl x.1 && textV fl x.2 then z126_k3 (k : Int) (z126_l2 (m + 3) g fl n) else some false := by
        simp only [z126_l4, e0, e1, w0, w1, l0, l1, l2, cond_true, cond_false, Option.bind_some]
        rw [one, one]
        cases textV fl x.1 <;> cases textV fl x.2 <;> rfl
      simp only [z126_l2, lt_t hk, cond_true, idx_nat, hx, Option.bind_some, inner, z126_k3]
      rw [w64_succ (by omega)]
    · intro n k hk
      simp only [z126_l2, lt_f hk, cond_false, z126_k1]
  · intro n k x hk hx
    simp only [z126_l6, lt_t hk, idx_nat, hx, cond_true, Option.bind_some, w64_succ (show k < 4611686018427387904 by omega)]
    by_cases d1 : minI x.X x.Y < -1
    · rw [decide_eq_true d1, decide_eq_false (show ¬ diffOk (fl.length : Int) x by rw [minI_lt] at d1; unfold diffOk; omega)]; rfl
    by_cases d2 : maxI x.X x.Y ≥ (fl.length : Int)
    · rw [decide_eq_false d1, decide_eq_true d2, decide_eq_false (show ¬ diffOk (fl.length : Int) x by rw [maxI_ge] at d2; unfold diffOk; omega)]; rfl
    by_cases d3 : x.C < -20000
    · rw [decide_eq_false d1, decide_eq_false d2, decide_eq_true d3, decide_eq_false (show ¬ diffOk (fl.length : Int) x by unfold diffOk; omega)]; rfl
    by_cases d4 : x.C > 20000
    · rw [decide_eq_false d1, decide_eq_false d2, decide_eq_false d3, decide_eq_true d4, decide_eq_false (show ¬ diffOk (fl.length : Int) x by unfold diffOk; omega)]; rfl
    rw [decide_eq_false d1, decide_eq_false d2, decide_eq_false d3, decide_eq_false d4, decide_eq_true (show diffOk (fl.length : Int) x by rw [minI_lt] at d1; rw [maxI_ge] at d2; unfold diffOk; omega)]; rfl
  · intro n k hk
    simp only [z126_l6, lt_f hk, cond_false]
theorem goodGuard_eq (hN : 4194304 < N) (l : List T0) (hl : l.length ≤ 1000) (hd : ∀ d ∈ l, SizeD d) (g : T3) (h1 : g.Diffs.length ≤ 4194304) (h2 : g.Equals.length ≤ 4194304) : z59 N l g = some (guardV (flat l) g) := by
  unfold z59 guardV
  rw [vars_eq hN l hl hd, Option.bind_some]
  rw [allV_from (fun d _ => decide (diffOk ((flat l).length : Int) d)) (xs := g.Diffs) (F := z59_l4 N l g ((flat l).length : Int)) (e := z59_k3 N l g) (by omega)]
  · unfold z59_k3
    rw [allV_from (fun e _ => textV (flat l) e.1 && textV (flat l) e.2) (xs := g.Equals) (F := z59_l2 N l g) (e := z59_k1 g) (by omega)]
    · have hk1 : z59_k1 g = some (decide (g.Diffs.length ≤ 20 ∧ g.Equals.length ≤ 20)) := by
        unfold z59_k1
        by_cases c1 : (g.Diffs.length : Int) ≤ 20
        · rw [decide_eq_true c1, cond_true]
          congr 1
          rw [decide_eq_decide]; omega
        · rw [decide_eq_false c1, decide_eq_false (show ¬ (g.Diffs.length ≤ 20 ∧ g.Equals.length ≤ 20) by omega)]; rfl
      rw [hk1]
      cases allV (fun d _ => decide (diffOk ((flat l).length : Int) d)) g.Diffs 0 <;> cases allV (fun e _ => textV (flat l) e.1 && textV (flat l) e.2) g.Equals 0 <;> cases decide (g.Diffs.length ≤ 20 ∧ g.Equals.length ≤ 20) <;> rfl
    · intro n k x hk hx
      simp only [z59_l2, lt_t hk, cond_true, idx_nat, hx, Option.bind_some, text_eq hN l hl hd, w64_succ (show k < 4611686018427387904 by omega)]
      cases textV (flat l) x.1 <;> cases textV (flat l) x.2 <;> rfl
    · intro n k hk
      simp only [z59_l2, lt_f hk, cond_false]
  · intro n k x hk hx
    simp only [z59_l4, lt_t hk, idx_nat, hx, cond_true, Option.bind_some, w64_succ (show k < 4611686018427387904 by omega)]
    by_cases d1 : x.X < -1
    · rw [decide_eq_true d1, decide_eq_false (show ¬ diffOk ((flat l).length : Int) x by unfold diffOk; omega)]; rfl
    by_cases d2 : x.X ≥ ((flat l).length : Int)
    · rw [decide_eq_false d1, decide_eq_true d2, decide_eq_false (show ¬ diffOk ((flat l).length : Int) x by unfold diffOk; omega)]; rfl
    by_cases d3 : x.Y < -1
    · rw [decide_eq_false d1, decide_eq_false d2, decide_eq_true d3, decide_eq_false (show ¬ diffOk ((flat l).length : Int) x by unfold diffOk; omega)]; rfl
    by_cases d4 : x.Y ≥ ((flat l).length : Int)
    · rw [decide_eq_false d1, decide_eq_false d2, decide_eq_false d3, decide_eq_true d4, decide_eq_false (show ¬ diffOk ((flat l).length : Int) x by unfold diffOk; omega)]; rfl
    by_cases d5 : x.C < -20000
    · rw [decide_eq_false d1, decide_eq_false d2, decide_eq_false d3, decide_eq_false d4, decide_eq_true d5, decide_eq_false (show ¬ diffOk ((flat l).length : Int) x by unfold diffOk; omega)]; rfl
    by_cases d6 : x.C > 20000
    · rw [decide_eq_false d1, decide_eq_false d2, decide_eq_false d3, decide_eq_false d4, decide_eq_false d5, decide_eq_true d6, decide_eq_false (show ¬ diffOk ((flat l).length : Int) x by unfold diffOk; omega)]; rfl
    rw [decide_eq_false d1, decide_eq_false d2, decide_eq_false d3, decide_eq_false d4, decide_eq_false d5, decide_eq_false d6, decide_eq_true (show diffOk ((flat l).length : Int) x by unfold diffOk; omega)]; rfl
  · intro n k hk
    simp only [z59_l4, lt_f hk, cond_false]
/-- Sorts of fields. -/
def sortOk (s : T4) : Prop := (s.Kind = 1 ∧ -1000 ≤ s.Lo ∧ s.Lo ≤ s.Hi ∧ s.Hi ≤ 1000) ∨ (s.Kind = 2 ∧ 0 ≤ s.Lo ∧ s.Lo ≤ s.Hi ∧ s.Hi ≤ 40)
instance (s : T4) : Decidable (sortOk s) := by unfold sortOk; infer_instance
theorem three (a b c : Prop) [Decidable a] [Decidable b] [Decidable c] : (bif decide a then (bif decide b then some (decide c) else some false) else some false) = some (decide (a ∧ b ∧ c)) := by
  by_cases ha : a <;> by_cases hb : b <;> simp [ha, hb]
theorem sorted_eq (s : T4) : z123 N s = some (decide (sortOk s)) := by
  unfold z123
  rw [three, three]
  by_cases h1 : s.Kind = 1
  · rw [show (s.Kind == 1) = true by simp [h1], cond_true]; congr 1; rw [decide_eq_decide]; unfold sortOk; omega
  · rw [show (s.Kind == 1) = false by simp [h1], cond_false]
    by_cases h2 : s.Kind = 2
    · rw [show (s.Kind == 2) = true by simp [h2], cond_true]; congr 1; rw [decide_eq_decide]; unfold sortOk; omega
    · rw [show (s.Kind == 2) = false by simp [h2], cond_false, decide_eq_false (show ¬ sortOk s by unfold sortOk; omega)]
theorem goodSort_eq (s : T4) : z56 N s = some (decide (sortOk s)) := by
  unfold z56 z56_k1
  rw [three, three]
  by_cases h1 : s.Kind = 1
  · rw [show (s.Kind == 1) = true by simp [h1], show (s.Kind == 2) = false by simp [h1]]; simp only [cond_true, cond_false]; congr 1; rw [decide_eq_decide]; unfold sortOk; omega
  · rw [show (s.Kind == 1) = false by simp [h1]]
    by_cases h2 : s.Kind = 2
    · rw [show (s.Kind == 2) = true by simp [h2]]; simp only [cond_true, cond_false]; congr 1; rw [decide_eq_decide]; unfold sortOk; omega
    · rw [show (s.Kind == 2) = false by simp [h2]]; simp only [cond_false]; rw [decide_eq_false (show ¬ sortOk s by unfold sortOk; omega)]
end Gp
end
section
/- Plain law: both sides find the same automata valid. -/
namespace Gp
open Go Go.Kx Gx
variable {N : Nat}
/-- Sizes of the names of a declaration. -/
structure NameD (x : T0) : Prop where
  n : x.Name.size ≤ 4000000
  f : ∀ f ∈ x.Fields, f.Name.size ≤ 4000000
def fieldV (x : T0) (f : T2) (j : Nat) : Bool := isWord f.Name && (decide (sortOk f.Sort') && !((x.Fields.take j).any fun y => eqStr y.Name f.Name))
def declV (fl : List T2) (l : List T0) (x : T0) (k : Nat) : Bool :=
  pathV x.Name && (decide (x.Fields.length ≤ 4) && (decide (x.First = ((flat (l.take k)).length : Int)) && (!((l.take k).any fun y => eqStr y.Name x.Name) && (allV (fieldV x) x.Fields 0 && guardV fl x.Guard))))
def validD (l : List T0) : Bool := decide (l.length ≤ 40) && (decide ((flat l).length ≤ 24) && allV (declV (flat l) l) l 0)
theorem containsD_eq (hN : 4194304 < N) (l : List T0) (hl : l.length ≤ 4194304) (x : T0) : z120_4 N l x = some (l.any fun y => eqStr y.Name x.Name) := by
  unfold z120_4 z66_3
  rw [look l hl (fun y k r => bif eqStr y.Name x.Name then some k else r) (z66_3_l2 N l x) (some (-1)) hN]
  · obtain ⟨i, h1, h2⟩ := whereV_any (fun y : T0 => eqStr y.Name x.Name) l 0
    rw [h1, Option.bind_some, h2]
  · intro n k y hk hy
    simp only [z66_3_l2, lt_t hk, idx_nat, hy, cond_true, Option.bind_some, z121_2, eqStr]
  · intro n k hk
    simp only [z66_3_l2, lt_f hk, cond_false, z66_3_k1]
theorem containsF_eq (hN : 4194304 < N) (l : List T2) (hl : l.length ≤ 4194304) (x : T2) : z124_7 N l x = some (l.any fun y => eqStr y.Name x.Name) := by
  unfold z124_7 z68_6
  rw [look l hl (fun y k r => bif eqStr y.Name x.Name then some k else r) (z68_6_l2 N l x) (some (-1)) hN]
  · obtain ⟨i, h1, h2⟩ := whereV_any (fun y : T2 => eqStr y.Name x.Name) l 0
    rw [h1, Option.bind_some, h2]
  · intro n k y hk hy
    simp only [z68_6_l2, lt_t hk, idx_nat, hy, cond_true, Option.bind_some, z125_5, eqStr]
  · intro n k hk
    simp only [z68_6_l2, lt_f hk, cond_false, z68_6_k1]
theorem flat_next {l : List T0} {k : Nat} {x : T0} (h : l[k]? = some x) : (flat (l.take (k + 1))).length = (flat (l.take k)).length + x.Fields.length := by
  rw [List.take_add_one, h]
  show (flat (l.take k ++ [x])).length = _
  rw [flat_app, List.length_append]; simp [flat]
theorem flat_take_le (l : List T0) (k : Nat) : (flat (l.take k)).length ≤ (flat l).length := by
  have : flat l = flat (l.take k) ++ flat (l.drop k) := by rw [← flat_app, List.take_append_drop]
  rw [this, List.length_append]; omega
theorem valid_eq (hN : 4194304 < N) (l : List T0) (hl : l.length ≤ 4194304) (hd : ∀ d ∈ l, SizeD d) (hn : ∀ d ∈ l, NameD d) : z74 N l = some (validD l) := by
  unfold z74 validD
  by_cases c1 : (l.length : Int) > 40
  · rw [decide_eq_true c1, decide_eq_false (show ¬ l.length ≤ 40 by omega)]; rfl
  rw [decide_eq_false c1, decide_eq_true (show l.length ≤ 40 by omega), fields_eq hN l (by omega) hd]
  simp only [cond_false, Option.bind_some, Bool.true_and]
  by_cases c2 : ((flat l).length : Int) > 24
  · rw [decide_eq_true c2, decide_eq_false (show ¬ (flat l).length ≤ 24 by omega)]; rfl
  rw [decide_eq_false c2, decide_eq_true (show (flat l).length ≤ 24 by omega)]
  simp only [cond_false, Bool.true_and]
  have hfl := flat_le l hd
  have h := allV_from (declV (flat l) l) (xs := l) (F := fun n i => z74_l2 N l (flat l) n ((flat (l.take i.toNat)).length : Int) i) (e := some true) (n := N) (by omega) (by
    intro n k x hk hx
    show z74_l2 N l (flat l) (n + 1) ((flat (l.take k)).length : Int) (k : Int) = bif declV (flat l) l x k then z74_l2 N l (flat l) n ((flat (l.take (k + 1))).length : Int) ((k + 1 : Nat) : Int) else some false
    have hxm : x ∈ l := List.mem_of_getElem? hx
    have sx := hd x hxm
    have nx := hn x hxm
    have ht : lsl l none (some (k : Int)) = some (l.take k) := lsl_to (A := l.take k) (B := l.drop k) (List.take_append_drop k l).symm (by simp; omega)
    have hft := flat_take_le l k
    have hnext : w64 (((flat (l.take k)).length : Int) + (x.Fields.length : Int)) = ((flat (l.take (k + 1))).length : Int) := by rw [flat_next hx, w64_id (by have := sx.f; omega) (by have := sx.f; omega)]; omega
    have inner : z74_l4 N (flat l) ((flat (l.take k)).length : Int) (k : Int) (z74_l2 N l (flat l) n) x N (0 : Int) = bif allV (fieldV x) x.Fields 0 then z74_k3 N (flat l) ((flat (l.take k)).length : Int) (k : Int) (z74_l2 N l (flat l) n) x else some false := by
      refine allV_from (fieldV x) (by have := sx.f; omega) ?_ ?_
      · intro m j f hj hf
        have sf := sx.f
        have hw := (word_eq hN f.Name (by have := nx.f f (List.mem_of_getElem? hf); omega)).1
        have ht' : lsl x.Fields none (some (j : Int)) = some (x.Fields.take j) := lsl_to (A := x.Fields.take j) (B := x.Fields.drop j) (List.take_append_drop j _).symm (by simp; omega)
        have hc := containsF_eq hN (x.Fields.take j) (by simp; omega) f
        simp only [z74_l4, lt_t hj, cond_true, idx_nat, hf, Option.bind_some, hw, sorted_eq, ht', hc, fieldV]
        rw [w64_succ (by omega)]
        cases isWord f.Name <;> cases decide (sortOk f.Sort') <;> cases ((x.Fields.take j).any fun y => eqStr y.Name f.Name) <;> rfl
      · intro m j hj
        simp only [z74_l4, lt_f hj, cond_false]
    have hc := containsD_eq hN (l.take k) (by simp; omega) x
    simp only [z74_l2, lt_t hk, cond_true, idx_nat, hx, Option.bind_some, path_eq hN, ht, hc, inner, z74_k3, guarded_eq hN, declV, hnext]
    rw [w64_succ (by omega)]
    have e1 : decide ((x.Fields.length : Int) > 4) = !decide (x.Fields.length ≤ 4) := by
      by_cases q : x.Fields.length ≤ 4
      · rw [decide_eq_true q, decide_eq_false (by omega)]; rfl
      · rw [decide_eq_false q, decide_eq_true (by omega)]; rfl
    have e2 : (x.First != ((flat (l.take k)).length : Int)) = !decide (x.First = ((flat (l.take k)).length : Int)) := by
      by_cases q : x.First = ((flat (l.take k)).length : Int)
      · rw [decide_eq_true q]; simp [q]
      · rw [decide_eq_false q]; simp [q]
    rw [e1, e2]
    cases pathV x.Name <;> cases decide (x.Fields.length ≤ 4) <;> cases decide (x.First = ((flat (l.take k)).length : Int)) <;> cases ((l.take k).any fun y => eqStr y.Name x.Name) <;> cases allV (fieldV x) x.Fields 0 <;> cases guardV (flat l) x.Guard <;> rfl) (by
    intro n k hk
    show z74_l2 N l (flat l) (n + 1) ((flat (l.take k)).length : Int) (k : Int) = some true
    simp only [z74_l2, lt_f hk, cond_false, z74_k1])
  have h' : z74_l2 N l (flat l) N (0 : Int) (0 : Int) = bif allV (declV (flat l) l) l 0 then some true else some false := h
  rw [h']
  cases allV (declV (flat l) l) l 0 <;> rfl
theorem allV_not_any {α : Type} (f : α → Bool) : ∀ (l : List α) (k : Nat), allV (fun y _ => !f y) l k = !(l.any f)
  | [], _ => rfl
  | x :: l, k => by
    show (!f x && allV _ l (k + 1)) = _
    rw [allV_not_any f l, List.any_cons]
    cases f x <;> rfl
theorem take_get {α : Type} {l : List α} {k i : Nat} {x : α} (h : (l.take k)[i]? = some x) : l[i]? = some x ∧ i < k := by
  rw [List.getElem?_take] at h
  split at h
  · exact ⟨h, by assumption⟩
  · cases h
theorem refValid_eq (hN : 4194304 < N) (l : List T0) (hl : l.length ≤ 4194304) (hd : ∀ d ∈ l, SizeD d) (hn : ∀ d ∈ l, NameD d) : z18 N l = some (validD l) := by
  unfold z18 validD
  by_cases c1 : (l.length : Int) > 40
  · rw [decide_eq_true c1, decide_eq_false (show ¬ l.length ≤ 40 by omega)]; rfl
  rw [decide_eq_false c1, decide_eq_true (show l.length ≤ 40 by omega), vars_eq hN l (by omega) hd]
  simp only [cond_false, Option.bind_some, Bool.true_and]
  by_cases c2 : ((flat l).length : Int) > 24
  · rw [decide_eq_true c2, decide_eq_false (show ¬ (flat l).length ≤ 24 by omega)]; rfl
  rw [decide_eq_false c2, decide_eq_true (show (flat l).length ≤ 24 by omega)]
  simp only [cond_false, Bool.true_and]
  have hfl := flat_le l hd
  have h := allV_from (declV (flat l) l) (xs := l) (F := fun n i => z18_l2 N l n ((flat (l.take i.toNat)).length : Int) i) (e := some true) (n := N) (by omega) (by
    intro n k x hk hx
    show z18_l2 N l (n + 1) ((flat (l.take k)).length : Int) (k : Int) = bif declV (flat l) l x k then z18_l2 N l n ((flat (l.take (k + 1))).length : Int) ((k + 1 : Nat) : Int) else some false
    have hxm : x ∈ l := List.mem_of_getElem? hx
    have sx := hd x hxm
    have nx := hn x hxm
    have hft := flat_take_le l k
    have hnext : w64 (((flat (l.take k)).length : Int) + (x.Fields.length : Int)) = ((flat (l.take (k + 1))).length : Int) := by rw [flat_next hx, w64_id (by have := sx.f; omega) (by have := sx.f; omega)]; omega
    have inner8 : z18_l8 N l ((flat (l.take k)).length : Int) (k : Int) (z18_l2 N l n) x N (0 : Int) = bif allV (fun y _ => !eqStr y.Name x.Name) (l.take k) 0 then z18_k7 N l ((flat (l.take k)).length : Int) (k : Int) (z18_l2 N l n) x else some false := by
      refine allV_from (fun (y : T0) _ => !eqStr y.Name x.Name) (by simp; omega) ?_ ?_
      · intro m j y hj hy
        obtain ⟨hy', hjk⟩ := take_get hy
        simp only [z18_l8, lt_t hjk, cond_true, idx_nat, hy', Option.bind_some, eqStr]
        rw [w64_succ (by omega)]
        cases (y.Name.toList == x.Name.toList) <;> rfl
      · intro m j hj
        have : k ≤ j := by simp at hj; omega
        simp only [z18_l8, lt_f this, cond_false]
    have inner4 : z18_l4 N l ((flat (l.take k)).length : Int) (k : Int) (z18_l2 N l n) x N (0 : Int) = bif allV (fieldV x) x.Fields 0 then z18_k3 N l ((flat (l.take k)).length : Int) (k : Int) (z18_l2 N l n) x else some false := by
      refine allV_from (fieldV x) (by have := sx.f; omega) ?_ ?_
      · intro m j f hj hf
        have sf := sx.f
        have hw := (word_eq hN f.Name (by have := nx.f f (List.mem_of_getElem? hf); omega)).2
        have inner6 : z18_l6 x (j : Int) (z18_l4 N l ((flat (l.take k)).length : Int) (k : Int) (z18_l2 N l n) x m) N (0 : Int) = bif allV (fun y _ => !eqStr y.Name f.Name) (x.Fields.take j) 0 then z18_k5 (j : Int) (z18_l4 N l ((flat (l.take k)).length : Int) (k : Int) (z18_l2 N l n) x m) else some false := by
          refine allV_from (fun (y : T2) _ => !eqStr y.Name f.Name) (by simp; omega) ?_ ?_
          · intro p i y hi hy
            obtain ⟨hy', hij⟩ := take_get hy
            simp only [z18_l6, lt_t hij, cond_true, idx_nat, hy', hf, Option.bind_some, eqStr]
            rw [w64_succ (by omega)]
            cases (y.Name.toList == f.Name.toList) <;> rfl
          · intro p i hi
            have : j ≤ i := by simp at hi; omega
            simp only [z18_l6, lt_f this, cond_false]
        simp only [z18_l4, lt_t hj, cond_true, idx_nat, hf, Option.bind_some, hw, goodSort_eq, inner6, fieldV, z18_k5, allV_not_any]
        rw [w64_succ (by omega)]
        cases isWord f.Name <;> cases decide (sortOk f.Sort') <;> cases ((x.Fields.take j).any fun y => eqStr y.Name f.Name) <;> rfl
      · intro m j hj
        simp only [z18_l4, lt_f hj, cond_false]
    have hg := goodGuard_eq hN l (by omega) hd x.Guard sx.d sx.e
    simp only [z18_l2, lt_t hk, cond_true, idx_nat, hx, Option.bind_some, inner8, inner4, z18_k7, z18_k3, refPath_eq hN x.Name nx.n, hg, declV, hnext, allV_not_any]
    rw [w64_succ (by omega)]
    have e1 : decide ((x.Fields.length : Int) > 4) = !decide (x.Fields.length ≤ 4) := by
      by_cases q : x.Fields.length ≤ 4
      · rw [decide_eq_true q, decide_eq_false (by omega)]; rfl
      · rw [decide_eq_false q, decide_eq_true (by omega)]; rfl
    have e2 : (x.First != ((flat (l.take k)).length : Int)) = !decide (x.First = ((flat (l.take k)).length : Int)) := by
      by_cases q : x.First = ((flat (l.take k)).length : Int)
      · rw [decide_eq_true q]; simp [q]
      · rw [decide_eq_false q]; simp [q]
    rw [e1, e2]
    cases pathV x.Name <;> cases decide (x.Fields.length ≤ 4) <;> cases decide (x.First = ((flat (l.take k)).length : Int)) <;> cases ((l.take k).any fun y => eqStr y.Name x.Name) <;> cases allV (fieldV x) x.Fields 0 <;> cases guardV (flat l) x.Guard <;> rfl) (by
    intro n k hk
    show z18_l2 N l (n + 1) ((flat (l.take k)).length : Int) (k : Int) = some true
    simp only [z18_l2, lt_f hk, cond_false, z18_k1])
  have h' : z18_l2 N l N (0 : Int) (0 : Int) = bif allV (declV (flat l) l) l 0 then some true else some false := h
  rw [h']
  cases allV (declV (flat l) l) l 0 <;> rfl
end Gp
end
end
section
/- Plain law: few declarations; bounds; lists of bounds that are the same. -/
namespace Gp
open Go Go.Kx Gx
variable {N : Nat}
theorem few_loop (l : List T0) (hl : l.length ≤ 4194304) : ∀ (r : List T0) (n k : Nat) (a : Int), l.drop k = r → r.length < n → ∃ b, z32_l2 l n a (k : Int) = some b ∧ (b = true → l.length ≤ 60) := by
  intro r
  induction r with
  | nil =>
    intro n k a h hn
    obtain ⟨n, rfl⟩ : ∃ m, n = m + 1 := ⟨n - 1, by simp at hn; omega⟩
    unfold z32_l2
    rw [lt_f (drop_nil h)]
    simp only [cond_false, z32_k1]
    by_cases h1 : l.length ≤ 60
    · have : decide ((l.length : Int) ≤ 60) = true := by simp; omega
      rw [this]
      exact ⟨_, rfl, fun _ => h1⟩
    · have : decide ((l.length : Int) ≤ 60) = false := by simp; omega
      rw [this]
      exact ⟨false, rfl, fun h => by cases h⟩
  | cons x r ih =>
    intro n k a h hn
    obtain ⟨n, rfl⟩ : ∃ m, n = m + 1 := ⟨n - 1, by simp at hn; omega⟩
    obtain ⟨h1, h2, h3⟩ := drop_cons h
    unfold z32_l2
    rw [lt_t h1, w64_succ (by omega)]
    simp only [cond_true, idx_nat, h2, Option.bind_some]
    exact ih n (k + 1) _ h3 (by simp at hn; omega)
theorem few_some (hN : 4194304 < N) (l : List T0) (hl : l.length ≤ 4194304) (vs ks : List T5) : ∃ b, z12 N l vs ks = some b ∧ (b = true → l.length ≤ 60 ∧ vs.length ≤ 30 ∧ ks.length ≤ 60) := by
  obtain ⟨b, h1, h2⟩ := few_loop l hl l N 0 0 rfl (by omega)
  have h1 : z32 N l = some b := h1
  unfold z12
  rw [h1]
  simp only [Option.bind_some]
  cases b with
  | false => exact ⟨false, rfl, fun h => by cases h⟩
  | true =>
    simp only [cond_true]
    by_cases q1 : vs.length ≤ 30
    · have : decide ((vs.length : Int) ≤ 30) = true := by simp; omega
      rw [this]
      refine ⟨_, rfl, fun h => ⟨h2 rfl, q1, ?_⟩⟩
      have := of_decide_eq_true h
      omega
    · have : decide ((vs.length : Int) ≤ 30) = false := by simp; omega
      rw [this]
      exact ⟨false, rfl, fun h => by cases h⟩
end Gp
end
section
/- Plain law: values that fit; what is known; what is known behind a message. -/
namespace Gp
open Go Go.Kx Gx
variable {N : Nat}
def badB (b : UInt8) : Bool := decide (b.toNat < 32) || decide (126 < b.toNat)
def numV (v : T5) : Int := bif v.Kind == 2 then (v.S.size : Int) else v.N
def fitsV (s : T4) (v : T5) : Bool :=
  v.Kind == s.Kind && (decide (s.Lo ≤ numV v) && (decide (numV v ≤ s.Hi) && (bif v.Kind == 1 then v.S.toList == (str []).toList else v.N == 0 && !((bs v.S).any badB))))
theorem get_bs (s : ByteArray) (i : Nat) (h : i < (bs s).length) : s.get! i = (bs s)[i] := by
  have h' : i < s.data.size := by simpa [bs] using h
  show s.data[i]! = _
  rw [getElem!_pos s.data i h']
  simp [bs]
theorem decode_lo (s : ByteArray) (i : Nat) (b : UInt8) (h : (bs s)[i]? = some b) (hb : b.toNat < 128) : Utf8.decode s i = (b.toNat, 1) := by
  obtain ⟨hi, he⟩ := List.getElem?_eq_some_iff.1 h
  have h0 : s.get! (i + 0) = b := by rw [Nat.add_zero, get_bs s i hi, he]
  unfold Utf8.decode
  simp only [h0, hb, if_true]
theorem decode_hi (s : ByteArray) (i : Nat) (b : UInt8) (h : (bs s)[i]? = some b) (hb : ¬ b.toNat < 128) : 126 < (Utf8.decode s i).1 := by
  obtain ⟨hi, he⟩ := List.getElem?_eq_some_iff.1 h
  have h0 : s.get! (i + 0) = b := by rw [Nat.add_zero, get_bs s i hi, he]
  unfold Utf8.decode Utf8.runeError
  simp only [h0, hb, if_false]
  split
  · split
    · simp only []; omega
    · simp only []; omega
  · split
    · split
      · rename_i hc
        simp only [Bool.and_eq_true, decide_eq_true_eq] at hc
        have := hc.1
        simp only [] at *; omega
      · simp only []; omega
    · split
      · split
        · rename_i hc
          simp only [Bool.and_eq_true, decide_eq_true_eq] at hc
          have := hc.1
          simp only [] at *; omega
        · simp only []; omega
      · simp only []; omega
theorem runes_loop (s : ByteArray) : ∀ (r : List UInt8) (n i : Nat), (bs s).drop i = r → r.length < n → ∃ z, z246_8_l2 N s true n i = some z ∧ decide (z ≥ 0) = r.any badB := by
  intro r
  induction r with
  | nil =>
    intro n i h hn
    obtain ⟨n, rfl⟩ : ∃ m, n = m + 1 := ⟨n - 1, by simp at hn; omega⟩
    have hi := drop_nil h
    unfold z246_8_l2
    have : decide (i < s.size) = false := by rw [size_bs]; simp; omega
    rw [this]
    exact ⟨-1, rfl, rfl⟩
  | cons b r ih =>
    intro n i h hn
    obtain ⟨n, rfl⟩ : ∃ m, n = m + 1 := ⟨n - 1, by simp at hn; omega⟩
    obtain ⟨h1, h2, h3⟩ := drop_cons h
    simp only [List.length_cons] at hn
    unfold z246_8_l2
    have : decide (i < s.size) = true := by rw [size_bs]; simp; omega
    rw [this, List.any_cons]
    simp only [cond_true, z145]
    by_cases hb : b.toNat < 128
    · rw [decode_lo s i b h2 hb]
      by_cases c1 : b.toNat < 32
      · have e1 : decide (((b.toNat : Nat) : Int) < 32) = true := by simp; omega
        have e2 : badB b = true := by simp [badB, c1]
        rw [e1, e2]
        exact ⟨(i : Int), rfl, by simp⟩
      · have e1 : decide (((b.toNat : Nat) : Int) < 32) = false := by simp; omega
        rw [e1]
        simp only [cond_false, Option.bind_some]
        by_cases c2 : 126 < b.toNat
        · have e3 : decide (((b.toNat : Nat) : Int) > 126) = true := by simp; omega
          have e2 : badB b = true := by simp [badB, c2]
          rw [e3, e2]
          exact ⟨(i : Int), rfl, by simp⟩
        · have e3 : decide (((b.toNat : Nat) : Int) > 126) = false := by simp; omega
          have e2 : badB b = false := by simp [badB]; omega
          rw [e3, e2]
          exact ih n (i + 1) h3 (by omega)
    · have hd := decode_hi s i b h2 hb
      have e2 : badB b = true := by simp [badB]; omega
      generalize (Utf8.decode s i).1 = c at hd ⊢
      have e1 : decide ((c : Int) < 32) = false := by simp; omega
      have e3 : decide ((c : Int) > 126) = true := by simp; omega
      rw [e1, e2]
      simp only [cond_false, Option.bind_some]
      rw [e3]
      exact ⟨(i : Int), rfl, by simp⟩
theorem runes_eq (hN : 4194304 < N) (s : ByteArray) (hs : s.size ≤ 4194304) : z144_10 N s = some ((bs s).any badB) := by
  obtain ⟨z, h1, h2⟩ := runes_loop (N := N) s (bs s) N 0 rfl (by rw [size_bs] at hs; omega)
  unfold z144_10 z213_9 z246_8
  rw [h1]
  simp only [Option.bind_some]
  rw [h2]
theorem number_eq (v : T5) : z36 N v = some (numV v) := by
  unfold z36 numV
  cases (v.Kind == 2) <;> rfl
theorem fits_eq (hN : 4194304 < N) (s : T4) (v : T5) (hv : v.S.size ≤ 4194304) : z80 N s v = some (fitsV s v) := by
  unfold z80 fitsV
  rw [number_eq]
  simp only [Option.bind_some, bne]
  cases h1 : v.Kind == s.Kind with
  | false => rfl
  | true =>
    simp only [Bool.not_true, cond_false, Bool.true_and]
    by_cases h2 : numV v < s.Lo
    · rw [decide_eq_true h2, decide_eq_false (show ¬ s.Lo ≤ numV v by omega)]; rfl
    · rw [decide_eq_false h2, decide_eq_true (show s.Lo ≤ numV v by omega)]
      simp only [cond_false, Bool.true_and]
      by_cases h3 : numV v > s.Hi
      · rw [decide_eq_true h3, decide_eq_false (show ¬ numV v ≤ s.Hi by omega)]; rfl
      · rw [decide_eq_false h3, decide_eq_true (show numV v ≤ s.Hi by omega)]
        simp only [cond_false, Bool.true_and]
        cases h4 : v.Kind == 1 with
        | true => rfl
        | false =>
          simp only [cond_false]
          cases h5 : v.N == 0 with
          | false => rfl
          | true =>
            simp only [cond_true, Bool.true_and]
            rw [runes_eq hN v.S hv]; rfl
def zeroV (v : T5) : Bool := (v.Kind == 0) && ((v.N == 0) && ((v.S.toList == (str []).toList) && true))
def fitAt (fl : List T2) (v : T5) (i : Nat) : Bool := match fl[i]? with
  | some f => fitsV f.Sort' v
  | none => false
def knownV (fl : List T2) (ks : List T5) : Bool := decide (fl.length = ks.length) && allV (fun v i => zeroV v || fitAt fl v i) ks 0
def properV (d : List T0) (label : Int) (ks : List T5) : Bool := decide (0 ≤ label ∧ label < (d.length : Int)) && (validD d && knownV (flat d) ks)
def fitV (fs : List T2) (vs : List T5) : Bool := decide (fs.length = vs.length) && allV (fun v i => fitAt fs v i) vs 0
theorem len_ne (a b : Nat) : ((a : Int) != (b : Int)) = !decide (a = b) := by
  by_cases h : a = b
  · subst h; simp
  · simp [h]; omega
theorem proper_loop (hN : 4194304 < N) (fl : List T2) (ks : List T5) (hl : fl.length = ks.length) (hk : ks.length ≤ 4194304) (hs : ∀ v ∈ ks, v.S.size ≤ 4194304) : z33_l2 N ks fl N (0 : Int) = some (allV (fun v i => zeroV v || fitAt fl v i) ks 0) := by
  have h := allV_from (fun (v : T5) i => zeroV v || fitAt fl v i) (xs := ks) (F := z33_l2 N ks fl) (e := some true) (n := N) (by omega) (by
    intro n k x hk' hx
    obtain ⟨f, hf⟩ : ∃ f, fl[k]? = some f := ⟨fl[k], by simp [hl, hk']⟩
    rw [z33_l2, lt_t hk', w64_succ (by omega)]
    simp only [cond_true, idx_nat, hx, Option.bind_some, hf, fitAt]
    rw [fits_eq hN _ _ (hs x (List.mem_of_getElem? hx))]
    show (bif !(zeroV x) then _ else _) = _
    cases zeroV x <;> cases fitsV f.Sort' x <;> rfl) (by
    intro n k hk'
    unfold z33_l2
    rw [lt_f hk']; rfl)
  rw [h]
  cases allV (fun (v : T5) i => zeroV v || fitAt fl v i) ks 0 <;> rfl
theorem proper_eq (hN : 4194304 < N) (d : List T0) (hl : d.length ≤ 1000) (hd : ∀ x ∈ d, SizeD x) (hn : ∀ x ∈ d, NameD x) (label : Int) (ks : List T5) (hk : ks.length ≤ 4194304) (hs : ∀ v ∈ ks, v.S.size ≤ 4194304) :
    z33 N d label ks = some (properV d label ks) := by
  unfold z33 properV
  rw [valid_eq hN d (by omega) hd hn, fields_eq hN d hl hd]
  by_cases c1 : label < 0
  · rw [decide_eq_true c1, decide_eq_false (show ¬ (0 ≤ label ∧ label < (d.length : Int)) by omega)]; rfl
  · rw [decide_eq_false c1]
    by_cases c2 : label ≥ (d.length : Int)
    · rw [decide_eq_true c2, decide_eq_false (show ¬ (0 ≤ label ∧ label < (d.length : Int)) by omega)]; rfl
    · rw [decide_eq_false c2, decide_eq_true (show (0 ≤ label ∧ label < (d.length : Int)) by omega)]
      cases validD d with
      | false => rfl
      | true =>
        simp only [cond_false, Option.bind_some, Bool.not_true, Bool.true_and, knownV]
        rw [len_ne]
        by_cases c3 : (flat d).length = ks.length
        · rw [decide_eq_true c3]
          simp only [Bool.not_true, cond_false, Bool.true_and]
          exact proper_loop hN _ _ c3 hk hs
        · rw [decide_eq_false c3]; rfl
theorem fit_eq (hN : 4194304 < N) (fs : List T2) (vs : List T5) (hk : vs.length ≤ 4194304) (hs : ∀ v ∈ vs, v.S.size ≤ 4194304) : z43 N fs vs = some (fitV fs vs) := by
  unfold z43 fitV
  rw [len_ne]
  by_cases c3 : fs.length = vs.length
  · rw [decide_eq_true c3]
    simp only [Bool.not_true, cond_false, Bool.true_and]
    have h := allV_from (fun (f : T2) i => match vs[i]? with | some v => fitsV f.Sort' v | none => false) (xs := fs) (F := z43_l2 N fs vs) (e := some true) (n := N) (by omega) (by
      intro n k x hk' hx
      obtain ⟨v, hv⟩ : ∃ v, vs[k]? = some v := ⟨vs[k], by simp [← c3, hk']⟩
      rw [z43_l2, lt_t hk', w64_succ (by omega)]
      simp only [cond_true, idx_nat, hx, Option.bind_some, hv]
      rw [fits_eq hN _ _ (hs v (List.mem_of_getElem? hv))]
      cases fitsV x.Sort' v <;> rfl) (by
      intro n k hk'
      unfold z43_l2
      rw [lt_f hk']; rfl)
    rw [h]
    have e : allV (fun (f : T2) i => match vs[i]? with | some v => fitsV f.Sort' v | none => false) fs 0 = allV (fun v i => fitAt fs v i) vs 0 := by
      rw [Bool.eq_iff_iff, allV_iff, allV_iff]
      constructor
      · intro q i v hv
        obtain ⟨f, hf⟩ : ∃ f, fs[i]? = some f := ⟨fs[i]'(by rw [c3]; exact (List.getElem?_eq_some_iff.1 hv).1), by simp⟩
        have := q i f hf
        simp only [Nat.zero_add] at this ⊢
        rw [hv] at this
        unfold fitAt; rw [hf]; exact this
      · intro q i f hf
        obtain ⟨v, hv⟩ : ∃ v, vs[i]? = some v := ⟨vs[i]'(by rw [← c3]; exact (List.getElem?_eq_some_iff.1 hf).1), by simp⟩
        have := q i v hv
        simp only [Nat.zero_add] at this ⊢
        unfold fitAt at this; rw [hf] at this
        rw [hv]; exact this
    rw [e]
    cases allV (fun v i => fitAt fs v i) vs 0 <;> rfl
  · rw [decide_eq_false c3]; rfl
/-- What is known behind a message. -/
def behindV (first : Nat) (vs ks : List T5) : List T5 := ks.take first ++ vs ++ ks.drop (first + vs.length)
theorem behind_eq (x : T0) (vs ks : List T5) (first : Nat) (hf : x.First = (first : Int)) (hle : first + vs.length ≤ ks.length) (hk : ks.length ≤ 4194304) : z40 N x vs ks = some (behindV first vs ks) := by
  unfold z40 z93
  rw [appL_some (by simp; omega)]
  simp only [Option.bind_some, List.nil_append]
  have hb : bnd (some x.First) none ks.length = some (first, ks.length) := by
    unfold bnd
    rw [hf]
    have h1 : decide ((0 : Int) ≤ (first : Int)) = true := by simp
    have h2 : decide ((first : Int) ≤ (ks.length : Int)) = true := by simp; omega
    simp only [Option.getD_some, Option.getD_none, h1, h2, Bool.and_true, Bool.true_and, cond_true]
    simp
  unfold lsl cpL
  rw [hb]
  simp only [Option.map_some, Option.bind_some]
  have hm : min vs.length (ks.length - first) = vs.length := by omega
  rw [hm, List.take_length]; rfl
theorem behind_len (first : Nat) (vs ks : List T5) (hle : first + vs.length ≤ ks.length) : (behindV first vs ks).length = ks.length := by
  unfold behindV; simp; omega
/-- Where the fields of a declaration lie. -/
theorem valid_at {d : List T0} (hv : validD d = true) {i : Nat} {x : T0} (hx : d[i]? = some x) : ∃ first : Nat, x.First = (first : Int) ∧ first + x.Fields.length ≤ (flat d).length ∧ d.length ≤ 40 ∧ (flat d).length ≤ 24 ∧ declV (flat d) d x i = true := by
  unfold validD at hv
  simp only [Bool.and_eq_true, decide_eq_true_eq] at hv
  obtain ⟨h1, h2, h3⟩ := hv
  rw [allV_iff] at h3
  have hd := h3 i x hx
  rw [Nat.zero_add] at hd
  have hd0 := hd
  unfold declV at hd
  simp only [Bool.and_eq_true, decide_eq_true_eq] at hd
  refine ⟨(flat (d.take i)).length, hd.2.2.1, ?_, h1, h2, hd0⟩
  have := flat_next hx
  have := flat_take_le d (i + 1)
  omega
end Gp
end
section
/- Plain law: Learn. -/
namespace Gp
open Go Go.Kx Gx
variable {N : Nat}
/-- The sizes within which the loops over values end. -/
structure SizeC (vs ks : List T5) : Prop where
  v : ∀ v ∈ vs, v.S.size ≤ 4194304
  k : ∀ v ∈ ks, v.S.size ≤ 4194304
theorem idx_mem {α : Type} {L : List α} {v : Int} {x : α} (h : idx L v = some x) : ∃ i : Nat, v = (i : Int) ∧ L[i]? = some x := by
  obtain ⟨h0, h1⟩ := idx_some h
  obtain ⟨i, rfl⟩ := Int.eq_ofNat_of_zero_le h0
  exact ⟨i, rfl, by rw [← idx_nat]; exact h⟩
end Gp
end
section
/- Plain law: values that fulfil a guard; Check. -/
namespace Gp
open Go Go.Kx Gx
variable {N : Nat}
def nvV (l : List T5) (x : Int) : Int := bif decide (x < 0) then 0 else match idx l x with
  | some v => numV v
  | none => 0
def unkV (l : List T5) (x : Int) : Bool := bif decide (x < 0) then false else match idx l x with
  | some v => v.Kind == 0
  | none => true
def diffV (l : List T5) (d : T1) : Bool := !(unkV l d.X) && (!(unkV l d.Y) && !(decide (w64 (nvV l d.X - nvV l d.Y) > d.C)))
def eqV (l : List T5) (e : Int × Int) : Bool := match idx l e.1 with
  | some a => match idx l e.2 with
    | some b => !(a.Kind == 0) && (!(b.Kind == 0) && (a.S.toList == b.S.toList))
    | none => false
  | none => false
def keepsV (g : T3) (l : List T5) : Bool := allV (fun d _ => diffV l d) g.Diffs 0 && allV (fun e _ => eqV l e) g.Equals 0
/-- All variables of a guard are there. -/
structure InG (n : Nat) (g : T3) : Prop where
  d : ∀ d ∈ g.Diffs, d.X < (n : Int) ∧ d.Y < (n : Int)
  e : ∀ e ∈ g.Equals, (0 ≤ e.1 ∧ e.1 < (n : Int)) ∧ (0 ≤ e.2 ∧ e.2 < (n : Int))
  dl : g.Diffs.length ≤ 20
  el : g.Equals.length ≤ 20
theorem textV_in {fl : List T2} {x : Int} (h : textV fl x = true) : 0 ≤ x ∧ x < (fl.length : Int) := by
  unfold textV at h
  cases hc : idx fl x with
  | none => rw [hc] at h; cases h
  | some f => exact idx_some hc
theorem inG_of {fl : List T2} {g : T3} (h : guardV fl g = true) : InG fl.length g := by
  unfold guardV at h
  simp only [Bool.and_eq_true, decide_eq_true_eq] at h
  obtain ⟨⟨h1, h2⟩, h3, h4⟩ := h
  rw [allV_iff] at h3 h4
  refine ⟨fun d hd => ?_, fun e he => ?_, h1, h2⟩
  · obtain ⟨i, hi⟩ := List.mem_iff_getElem?.1 hd
    have := of_decide_eq_true (h3 i d hi)
    exact ⟨this.2.1, this.2.2.2.1⟩
  · obtain ⟨i, hi⟩ := List.mem_iff_getElem?.1 he
    have := h4 i e hi
    simp only [Bool.and_eq_true] at this
    exact ⟨textV_in this.1, textV_in this.2⟩
/-- A side of a bound: none, or a value. -/
theorem side (l : List T5) {x : Int} (hx : x < (l.length : Int)) : (decide (x < 0) = true ∧ decide (x ≥ 0) = false ∧ unkV l x = false ∧ nvV l x = 0) ∨
    (decide (x < 0) = false ∧ decide (x ≥ 0) = true ∧ ∃ v, idx l x = some v ∧ unkV l x = (v.Kind == 0) ∧ nvV l x = numV v) := by
  by_cases h : x < 0
  · left
    have e : decide (x < 0) = true := decide_eq_true h
    refine ⟨e, decide_eq_false (by omega), ?_, ?_⟩
    · unfold unkV; rw [e]; rfl
    · unfold nvV; rw [e]; rfl
  · right
    have e : decide (x < 0) = false := decide_eq_false h
    obtain ⟨v, hv⟩ := idx_lt (L := l) (v := x) (by omega) hx
    refine ⟨e, decide_eq_true (by omega), v, hv, ?_, ?_⟩
    · unfold unkV; rw [e, hv]; rfl
    · unfold nvV; rw [e, hv]; rfl
theorem l6_eq (l : List T5) (k : Int) (ag : Int → Option Bool) (d : T1) (hX : d.X < (l.length : Int)) (hY : d.Y < (l.length : Int)) (n : Nat) :
    z42_l6 N l k ag d (n + 3) 0 0 0 = bif diffV l d then ag (w64 (k + 1)) else some false := by
  have w1 : w64 ((0 : Int) + 1) = 1 := rfl
  have w2 : w64 ((1 : Int) + 1) = 2 := rfl
  have i0 : idx ([d.X, d.Y] : List Int) 0 = some d.X := rfl
  have i1 : idx ([d.X, d.Y] : List Int) 1 = some d.Y := rfl
  have d0 : decide ((0 : Int) < 2) = true := rfl
  have d1 : decide ((1 : Int) < 2) = true := rfl
  have d2 : decide ((2 : Int) < 2) = false := rfl
  have b0 : ((0 : Int) == 0) = true := rfl
  have b1 : ((1 : Int) == 0) = false := rfl
  have b2 : ((1 : Int) == 1) = true := rfl
  have fin : ∀ a b : Int, z42_l6 N l k ag d (n + 1) a b 2 = bif !(decide (w64 (a - b) > d.C)) then ag (w64 (k + 1)) else some false := fun a b => by
    rw [z42_l6, d2]
    simp only [cond_false, z42_k5]
    cases decide (w64 (a - b) > d.C) <;> rfl
  have sec : ∀ a : Int, z42_l6 N l k ag d (n + 2) a 0 1 = bif !(unkV l d.Y) && !(decide (w64 (a - nvV l d.Y) > d.C)) then ag (w64 (k + 1)) else some false := fun a => by
    rw [z42_l6, d1]
    simp only [cond_true, i1, Option.bind_some, w2]
    rcases side l hY with ⟨h1, _, h3, h4⟩ | ⟨h1, _, v, hv, h3, h4⟩
    · rw [h1, h3, h4]
      simp only [cond_true]
      rw [fin]
      rfl
    · rw [h1, h3, h4, hv]
      simp only [cond_false, Option.bind_some]
      cases v.Kind == 0 with
      | true => rfl
      | false =>
        simp only [cond_false, number_eq, Option.bind_some, b1, b2, cond_true]
        rw [fin]
        rfl
  rw [z42_l6, d0]
  simp only [cond_true, i0, Option.bind_some, w1]
  unfold diffV
  rcases side l hX with ⟨h1, _, h3, h4⟩ | ⟨h1, _, v, hv, h3, h4⟩
  · rw [h1, h3, h4]
    simp only [cond_true]
    rw [sec]
    rfl
  · rw [h1, h3, h4, hv]
    simp only [cond_false, Option.bind_some]
    cases v.Kind == 0 with
    | true => rfl
    | false =>
      simp only [cond_false, number_eq, Option.bind_some, b0, cond_true]
      rw [sec]
      rfl
theorem equals_eq (hN : 4194304 < N) (g : T3) (l : List T5) (hg : InG l.length g) : z42_l2 g l N (0 : Int) = some (allV (fun e _ => eqV l e) g.Equals 0) := by
  have hel := hg.el
  have h := allV_from (fun (e : Int × Int) _ => eqV l e) (xs := g.Equals) (F := z42_l2 g l) (e := some true) (n := N) (by omega) (by
    intro n k e hk he
    obtain ⟨⟨a1, a2⟩, a3, a4⟩ := hg.e e (List.mem_of_getElem? he)
    obtain ⟨a, ha⟩ := idx_lt (L := l) a1 a2
    obtain ⟨b, hb⟩ := idx_lt (L := l) a3 a4
    rw [z42_l2, lt_t hk, w64_succ (by omega)]
    simp only [cond_true, idx_nat, he, Option.bind_some, ha, hb, eqV]
    cases (a.Kind == 0) <;> cases (b.Kind == 0) <;> cases (a.S.toList == b.S.toList) <;> rfl) (by
    intro n k hk
    rw [z42_l2, lt_f hk]; rfl)
  rw [h]
  cases allV (fun (e : Int × Int) _ => eqV l e) g.Equals 0 <;> rfl
theorem fulfils_eq (hN : 4194304 < N) (g : T3) (l : List T5) (hg : InG l.length g) : z42 N g l = some (keepsV g l) := by
  have hdl := hg.dl
  have h := allV_from (fun (d : T1) _ => diffV l d) (xs := g.Diffs) (F := z42_l4 N g l) (e := z42_k3 N g l) (n := N) (by omega) (by
    intro n k d hk hd
    obtain ⟨a1, a2⟩ := hg.d d (List.mem_of_getElem? hd)
    rw [z42_l4, lt_t hk]
    simp only [cond_true, idx_nat, hd, Option.bind_some]
    have := l6_eq (N := N) l (k : Int) (z42_l4 N g l n) d a1 a2 (N - 3)
    rw [show N - 3 + 3 = N by omega] at this
    rw [this, w64_succ (by omega)]) (by
    intro n k hk
    rw [z42_l4, lt_f hk]; rfl)
  unfold z42 keepsV
  rw [h]
  cases allV (fun (d : T1) _ => diffV l d) g.Diffs 0 with
  | false => rfl
  | true => exact equals_eq hN g l hg
/-- Check, plainly. -/
def checkV (d : List T0) (label : Int) (vs ks : List T5) : Bool := properV d label ks && (match idx d label with
  | some x => fitV x.Fields vs && keepsV x.Guard (behindV x.First.toNat vs ks)
  | none => false)
theorem guard_of {fl : List T2} {d : List T0} {x : T0} {i : Nat} (h : declV fl d x i = true) : guardV fl x.Guard = true := by
  unfold declV at h
  simp only [Bool.and_eq_true] at h
  exact h.2.2.2.2.2
theorem known_len {fl : List T2} {ks : List T5} (h : knownV fl ks = true) : fl.length = ks.length := by
  unfold knownV at h
  simp only [Bool.and_eq_true, decide_eq_true_eq] at h
  exact h.1
theorem fit_len {fl : List T2} {ks : List T5} (h : fitV fl ks = true) : fl.length = ks.length := by
  unfold fitV at h
  simp only [Bool.and_eq_true, decide_eq_true_eq] at h
  exact h.1
theorem check_eq (hN : 4194304 < N) (d : List T0) (hl : d.length ≤ 1000) (hd : ∀ x ∈ d, SizeD x) (hn : ∀ x ∈ d, NameD x) (label : Int) (vs ks : List T5) (hv : vs.length ≤ 4194304) (hk : ks.length ≤ 4194304) (hs : SizeC vs ks) :
    z16 N d label vs ks = some (checkV d label vs ks) := by
  unfold z16 checkV
  rw [proper_eq hN d hl hd hn label ks hk hs.k]
  cases hp : properV d label ks with
  | false => rfl
  | true =>
    unfold properV at hp
    simp only [Bool.and_eq_true, decide_eq_true_eq] at hp
    obtain ⟨⟨p1, p2⟩, p3, p4⟩ := hp
    obtain ⟨x, hx⟩ := idx_lt p1 p2
    obtain ⟨i, rfl, hi⟩ := idx_mem hx
    obtain ⟨first, f1, f2, f3, f4, f5⟩ := valid_at p3 hi
    simp only [Option.bind_some, Bool.not_true, cond_false]
    rw [hx]
    simp only [Option.bind_some]
    rw [fit_eq hN _ _ hv hs.v]
    cases hf : fitV x.Fields vs with
    | false => rfl
    | true =>
      have e1 := fit_len hf
      have e2 := known_len p4
      simp only [Option.bind_some, Bool.not_true, cond_false, Bool.true_and]
      rw [behind_eq x vs ks first f1 (by omega) hk]
      simp only [Option.bind_some]
      have ef : x.First.toNat = first := by omega
      rw [ef, fulfils_eq hN x.Guard _ (by rw [behind_len first vs ks (by omega), ← e2]; exact inG_of (guard_of f5))]
      rfl
end Gp
end
section
/- Plain law: the parts of a guard, each one alone. -/
namespace Gp
open Go Go.Kx Gx
variable {N : Nat}
/-- A declaration with another guard. -/
def withG (x : T0) (g : T3) : T0 := ⟨x.Name, x.Fields, x.First, g⟩
theorem map_same {α β : Type} {l : List α} {i : Nat} {x y : α} (f : α → β) (hx : l[i]? = some x) (h : f y = f x) : (l.set i y).map f = l.map f := by
  rw [List.map_set, h]
  apply List.ext_getElem?
  intro k
  rw [List.getElem?_set]
  split
  · rename_i e
    subst e
    have hi := (List.getElem?_eq_some_iff.1 hx).1
    rw [if_pos (by simpa using hi), List.getElem?_map, hx]; rfl
  · rfl
theorem flat_same {l : List T0} {i : Nat} {x : T0} {g : T3} (hx : l[i]? = some x) (k : Nat) : flat ((l.set i (withG x g)).take k) = flat (l.take k) := by
  unfold flat
  rw [List.map_take, List.map_take, map_same (y := withG x g) (fun d => d.Fields) hx rfl]
theorem flat_same' {l : List T0} {i : Nat} {x : T0} {g : T3} (hx : l[i]? = some x) : flat (l.set i (withG x g)) = flat l := by
  unfold flat
  rw [map_same (y := withG x g) (fun d => d.Fields) hx rfl]
theorem names_same {l : List T0} {i : Nat} {x : T0} {g : T3} (hx : l[i]? = some x) (k : Nat) (n : ByteArray) : ((l.set i (withG x g)).take k).any (fun y => eqStr y.Name n) = (l.take k).any fun y => eqStr y.Name n := by
  have e : ∀ m : List T0, m.any (fun y => eqStr y.Name n) = (m.map fun d => d.Name).any fun z => eqStr z n := fun m => by rw [List.any_map]; rfl
  rw [e, e, List.map_take, List.map_take, map_same (y := withG x g) (fun d => d.Name) hx rfl]
theorem valid_with {d : List T0} (hv : validD d = true) {i : Nat} {x : T0} (hx : d[i]? = some x) {g : T3} (hg : guardV (flat d) g = true) : validD (d.set i (withG x g)) = true := by
  unfold validD at hv ⊢
  simp only [Bool.and_eq_true, decide_eq_true_eq] at hv ⊢
  obtain ⟨h1, h2, h3⟩ := hv
  rw [flat_same' hx, List.length_set]
  refine ⟨h1, h2, ?_⟩
  rw [allV_iff] at h3 ⊢
  intro k z hz
  rw [List.getElem?_set] at hz
  rw [Nat.zero_add]
  split at hz
  · rename_i e
    subst e
    split at hz
    · cases hz
      have := h3 i x hx
      rw [Nat.zero_add] at this
      unfold declV at this ⊢
      rw [flat_same hx, names_same hx]
      simp only [Bool.and_eq_true] at this ⊢
      exact ⟨this.1, this.2.1, this.2.2.1, this.2.2.2.1, this.2.2.2.2.1, hg⟩
    · cases hz
  · have := h3 k z hz
    rw [Nat.zero_add] at this
    unfold declV at this ⊢
    rw [flat_same hx, names_same hx]
    exact this
theorem sizeD_with {x : T0} {g : T3} (h : SizeD x) (h1 : g.Diffs.length ≤ 20) (h2 : g.Equals.length ≤ 20) : SizeD (withG x g) := ⟨h.f, by show g.Diffs.length ≤ _; omega, by show g.Equals.length ≤ _; omega⟩
theorem nameD_with {x : T0} {g : T3} (h : NameD x) : NameD (withG x g) := ⟨h.n, h.f⟩
theorem mem_with {P : T0 → Prop} {d : List T0} {i : Nat} {y : T0} (h : ∀ x ∈ d, P x) (hy : P y) : ∀ x ∈ d.set i y, P x := by
  intro x hx
  rcases List.mem_or_eq_of_mem_set hx with h1 | h1
  · exact h x h1
  · rw [h1]; exact hy
/-- What Check is, but for the guard. -/
def baseV (d : List T0) (label : Int) (x : T0) (vs ks : List T5) : Bool := properV d label ks && fitV x.Fields vs
theorem check_with (hN : 4194304 < N) (d : List T0) (hl : d.length ≤ 1000) (hd : ∀ x ∈ d, SizeD x) (hn : ∀ x ∈ d, NameD x) {i : Nat} {x : T0} (hx : d[i]? = some x) (vs ks : List T5) (hv : vs.length ≤ 4194304) (hk : ks.length ≤ 4194304) (hs : SizeC vs ks)
    (hval : validD d = true) {g : T3} (hg : guardV (flat d) g = true) : z16 N (d.set i (withG x g)) (i : Int) vs ks = some (baseV d (i : Int) x vs ks && keepsV g (behindV x.First.toNat vs ks)) := by
  have hin := inG_of hg
  have hxm := List.mem_of_getElem? hx
  have hi := (List.getElem?_eq_some_iff.1 hx).1
  rw [check_eq hN _ (by rw [List.length_set]; exact hl) (mem_with hd (sizeD_with (hd x hxm) hin.dl hin.el)) (mem_with hn (nameD_with (hn x hxm))) (i : Int) vs ks hv hk hs]
  unfold checkV baseV properV
  rw [idx_nat, List.getElem?_set, if_pos rfl, if_pos hi, List.length_set, valid_with hval hx hg, hval, flat_same' hx]
  show some (_ && (fitV x.Fields vs && keepsV g (behindV x.First.toNat vs ks))) = _
  rw [Bool.and_assoc (decide (0 ≤ (i : Int) ∧ (i : Int) < (d.length : Int)) && (true && knownV (flat d) ks))]
theorem one_d {fl : List T2} {g : T3} (h : guardV fl g = true) {e : T1} (he : e ∈ g.Diffs) : guardV fl ⟨[e], []⟩ = true := by
  unfold guardV at h ⊢
  simp only [Bool.and_eq_true] at h ⊢
  obtain ⟨_, h3, h4⟩ := h
  rw [allV_iff] at h3
  obtain ⟨k, hk⟩ := List.mem_iff_getElem?.1 he
  have := h3 k e hk
  refine ⟨decide_eq_true ⟨by simp, by simp⟩, ?_, rfl⟩
  show (decide (diffOk (fl.length : Int) e) && true) = true
  rw [this]; rfl
theorem one_e {fl : List T2} {g : T3} (h : guardV fl g = true) {e : Int × Int} (he : e ∈ g.Equals) : guardV fl ⟨[], [(e.1, e.2)]⟩ = true := by
  unfold guardV at h ⊢
  simp only [Bool.and_eq_true] at h ⊢
  obtain ⟨_, h3, h4⟩ := h
  rw [allV_iff] at h4
  obtain ⟨k, hk⟩ := List.mem_iff_getElem?.1 he
  have := h4 k e hk
  refine ⟨decide_eq_true ⟨by simp, by simp⟩, rfl, ?_⟩
  show ((textV fl e.1 && textV fl e.2) && true) = true
  rw [this]; rfl
theorem none_g (fl : List T2) : guardV fl ⟨[], []⟩ = true := rfl
theorem keeps_none (l : List T5) : keepsV ⟨[], []⟩ l = true := rfl
theorem keeps_d (l : List T5) (e : T1) : keepsV ⟨[e], []⟩ l = diffV l e := by
  show ((diffV l e && true) && true) = _
  rw [Bool.and_true, Bool.and_true]
theorem keeps_e (l : List T5) (e : Int × Int) : keepsV ⟨[], [(e.1, e.2)]⟩ l = eqV l e := by
  show (true && (eqV l (e.1, e.2) && true)) = _
  rw [Bool.and_true, Bool.true_and]
theorem allV_all {α : Type} (p : α → Bool) : ∀ (l : List α) (k : Nat), allV (fun x _ => p x) l k = l.all p
  | [], _ => rfl
  | x :: l, k => by show (p x && allV _ l (k + 1)) = _; rw [allV_all p l, List.all_cons]
theorem guardParts_law (hN : 33554432 < N) (d : List T0) (hl : d.length ≤ 4194304) (hd : ∀ x ∈ d, SizeD x) (hn : ∀ x ∈ d, NameD x) (label : Int) (c : T6) (hs : SizeC c.Values c.Known) : law14_GuardParts N d label c = some true := by
  have hN' : 4194304 < N := by omega
  unfold law14_GuardParts
  simp only [z11, Option.bind_some, Bool.not_true, cond_false]
  obtain ⟨b, h1, h2⟩ := few_some hN' d hl c.Values c.Known
  rw [h1]
  simp only [Option.bind_some]
  cases b with
  | false => rfl
  | true =>
    simp only [Bool.not_true, cond_false]
    obtain ⟨g1, g2, g3⟩ := h2 rfl
    by_cases c1 : label < 0
    · rw [decide_eq_true c1]; rfl
    · rw [decide_eq_false c1]
      by_cases c2 : label ≥ (d.length : Int)
      · rw [decide_eq_true c2]; rfl
      · rw [decide_eq_false c2, refValid_eq hN' d hl hd hn]
        simp only [cond_false, Option.bind_some]
        have hchk := check_eq hN' d (by omega) hd hn label c.Values c.Known (by omega) (by omega) hs
        cases hval : validD d with
        | false =>
          rw [hchk]
          have : checkV d label c.Values c.Known = false := by
            unfold checkV properV
            rw [hval]
            simp
          rw [this]; rfl
        | true =>
          obtain ⟨i, rfl⟩ : ∃ i : Nat, label = (i : Int) := ⟨label.toNat, by omega⟩
          have hi : i < d.length := by omega
          obtain ⟨x, hx⟩ : ∃ x, d[i]? = some x := ⟨d[i], by simp [hi]⟩
          obtain ⟨first, _, _, _, _, hdv⟩ := valid_at hval hx
          have hgv := guard_of hdv
          have hin := inG_of hgv
          simp only [Bool.not_true, cond_false]
          rw [appL_some (by simp; omega)]
          simp only [Option.bind_some, List.nil_append, idx_nat, hx]
          -- the declarations with another guard
          have own_idx : ∀ g, idx (d.set i (withG x g)) (i : Int) = some (withG x g) := fun g => by rw [idx_nat, List.getElem?_set, if_pos rfl, if_pos hi]
          have own_set : ∀ g g', setL' (d.set i (withG x g)) (i : Int) (withG x g') = d.set i (withG x g') := fun g g' => by rw [setL'_nat, List.set_set]
          have chk : ∀ g, guardV (flat d) g = true → z16 N (d.set i (withG x g)) (i : Int) c.Values c.Known = some (baseV d (i : Int) x c.Values c.Known && keepsV g (behindV x.First.toNat c.Values c.Known)) := fun g hg =>
            check_with hN' d (by omega) hd hn hx c.Values c.Known (by omega) (by omega) hs hval hg
          have hall : checkV d (i : Int) c.Values c.Known = (baseV d (i : Int) x c.Values c.Known && keepsV x.Guard (behindV x.First.toNat c.Values c.Known)) := by
            unfold checkV baseV
            rw [idx_nat, hx]
            show (_ && (fitV x.Fields c.Values && keepsV x.Guard _)) = _
            rw [Bool.and_assoc]
          rw [hall] at hchk
          generalize behindV x.First.toNat c.Values c.Known = B at *
          generalize baseV d (i : Int) x c.Values c.Known = base at *
          have e0 : setL' d (i : Int) (⟨x.Name, x.Fields, x.First, (⟨[], []⟩ : T3)⟩ : T0) = d.set i (withG x ⟨[], []⟩) := by rw [setL'_nat]; rfl
          rw [e0, chk _ (none_g _), keeps_none, Bool.and_true]
          simp only [Option.bind_some]
          -- the loop over the pairs of equal variables
          have loopE : ∀ (r : List (Int × Int)) (n k : Nat) (g : T3) (acc : Bool), x.Guard.Equals.drop k = r → r.length < n → law14_GuardParts_l2 N d (i : Int) c x n (d.set i (withG x g)) acc (k : Int) = law14_GuardParts_k1 N d (i : Int) c (acc && r.all fun e => base && eqV B e) := by
            intro r
            induction r with
            | nil =>
              intro n k g acc h hn
              obtain ⟨n, rfl⟩ : ∃ m, n = m + 1 := ⟨n - 1, by simp at hn; omega⟩
              rw [law14_GuardParts_l2, lt_f (drop_nil h)]
              simp
            | cons e r ih =>
              intro n k g acc h hn
              obtain ⟨n, rfl⟩ : ∃ m, n = m + 1 := ⟨n - 1, by simp at hn; omega⟩
              obtain ⟨q1, q2, q3⟩ := drop_cons h
              simp only [List.length_cons] at hn
              have hkk : k < 20 := by have := hin.el; omega
              rw [law14_GuardParts_l2, lt_t q1, w64_succ (by omega), own_idx]
              simp only [cond_true, idx_nat, q2, Option.bind_some]
              have es : setL' (d.set i (withG x g)) (i : Int) (⟨(withG x g).Name, (withG x g).Fields, (withG x g).First, (⟨[], [(e.1, e.2)]⟩ : T3)⟩ : T0) = d.set i (withG x ⟨[], [(e.1, e.2)]⟩) := own_set g _
              rw [es, chk _ (one_e hgv (List.mem_of_getElem? q2)), keeps_e]
              simp only [Option.bind_some, List.all_cons]
              cases hz : (base && eqV B e) with
              | true =>
                simp only [cond_true, Bool.true_and]
                exact ih n (k + 1) _ acc q3 (by omega)
              | false =>
                simp only [cond_false, Bool.false_and, Bool.and_false]
                rw [ih n (k + 1) _ false q3 (by omega), Bool.false_and]
          have loopD : ∀ (r : List T1) (n k : Nat) (g : T3) (acc : Bool), x.Guard.Diffs.drop k = r → r.length < n → law14_GuardParts_l4 N d (i : Int) c x n (d.set i (withG x g)) acc (k : Int) = law14_GuardParts_k1 N d (i : Int) c ((acc && r.all fun e => base && diffV B e) && x.Guard.Equals.all fun e => base && eqV B e) := by
            intro r
            induction r with
            | nil =>
              intro n k g acc h hn
              obtain ⟨n, rfl⟩ : ∃ m, n = m + 1 := ⟨n - 1, by simp at hn; omega⟩
              rw [law14_GuardParts_l4, lt_f (drop_nil h)]
              simp only [cond_false, law14_GuardParts_k3, List.all_nil, Bool.and_true]
              have := hin.el
              exact loopE x.Guard.Equals N 0 g acc rfl (by omega)
            | cons e r ih =>
              intro n k g acc h hn
              obtain ⟨n, rfl⟩ : ∃ m, n = m + 1 := ⟨n - 1, by simp at hn; omega⟩
              obtain ⟨q1, q2, q3⟩ := drop_cons h
              simp only [List.length_cons] at hn
              have hkk : k < 20 := by have := hin.dl; omega
              rw [law14_GuardParts_l4, lt_t q1, w64_succ (by omega), own_idx]
              simp only [cond_true, idx_nat, q2, Option.bind_some]
              have es : setL' (d.set i (withG x g)) (i : Int) (⟨(withG x g).Name, (withG x g).Fields, (withG x g).First, (⟨[e], []⟩ : T3)⟩ : T0) = d.set i (withG x ⟨[e], []⟩) := own_set g _
              rw [es, chk _ (one_d hgv (List.mem_of_getElem? q2)), keeps_d]
              simp only [Option.bind_some, List.all_cons]
              cases hz : (base && diffV B e) with
              | true =>
                simp only [cond_true, Bool.true_and]
                exact ih n (k + 1) _ acc q3 (by omega)
              | false =>
                simp only [cond_false, Bool.false_and, Bool.and_false]
                rw [ih n (k + 1) _ false q3 (by omega)]
                simp
          have := hin.dl
          have hL := loopD x.Guard.Diffs N 0 ⟨[], []⟩ base rfl (by omega)
          rw [show ((0 : Nat) : Int) = 0 from rfl] at hL
          rw [hL]
          unfold law14_GuardParts_k1
          rw [hchk]
          simp only [Option.bind_some]
          congr 1
          rw [beq_iff_eq]
          unfold keepsV
          rw [allV_all, allV_all]
          cases base with
          | false => rfl
          | true => simp
end Gp
end
section
/- What the arguments hold that the statement reads: sizes and numbers within their kinds. -/
namespace Gx
open Go Go.Kx
def k_api_Sort (x : T4) : Prop := ((Lit.int .i64 x.Kind).wf = true) ∧ ((Lit.int .i64 x.Lo).wf = true) ∧ ((Lit.int .i64 x.Hi).wf = true)
def k_api_Field (x : T2) : Prop := (x.Name.size ≤ bd) ∧ (k_api_Sort x.Sort')
def k_api_Diff (x : T1) : Prop := ((Lit.int .i64 x.X).wf = true) ∧ ((Lit.int .i64 x.Y).wf = true) ∧ ((Lit.int .i64 x.C).wf = true)
def k_api_Guard (x : T3) : Prop := (x.Diffs.length ≤ bd ∧ ∀ y ∈ x.Diffs, k_api_Diff y) ∧ (x.Equals.length ≤ bd ∧ ∀ y ∈ x.Equals, ((Lit.int .i64 y.1).wf = true) ∧ ((Lit.int .i64 y.2).wf = true))
def k_api_Decl (x : T0) : Prop := (x.Name.size ≤ bd) ∧ (x.Fields.length ≤ bd ∧ ∀ y ∈ x.Fields, k_api_Field y) ∧ ((Lit.int .i64 x.First).wf = true) ∧ (k_api_Guard x.Guard)
def k_api_Value (x : T5) : Prop := ((Lit.int .i64 x.Kind).wf = true) ∧ ((Lit.int .i64 x.N).wf = true) ∧ (x.S.size ≤ bd)
def k_law14_Case (x : T6) : Prop := (x.Values.length ≤ bd ∧ ∀ y ∈ x.Values, k_api_Value y) ∧ (x.Known.length ≤ bd ∧ ∀ y ∈ x.Known, k_api_Value y)
end Gx
end
section
/- Plain law: the parts of a guard. -/
namespace Gp
open Go Go.Kx Gx
theorem sizeD_of {x : T0} (h : k_api_Decl x) : SizeD x := by
  obtain ⟨_, h1, _, h2⟩ := h
  exact ⟨by have := h1.1; unfold bd at this; omega, by have := h2.1.1; unfold bd at this; omega, by have := h2.2.1; unfold bd at this; omega⟩
theorem nameD_of {x : T0} (h : k_api_Decl x) : NameD x := by
  obtain ⟨h0, h1, _, h2⟩ := h
  exact ⟨by unfold bd at h0; omega, fun f hf => by have := (h1.2 f hf).1; unfold bd at this; omega⟩
theorem sizeC_of {x : T6} (h : k_law14_Case x) : SizeC x.Values x.Known :=
  ⟨fun v hv => by have := (h.1.2 v hv).2.2; unfold bd at this; omega, fun v hv => by have := (h.2.2 v hv).2.2; unfold bd at this; omega⟩
theorem plain : ∀ (x0 : (List T0)) (x1 : Int) (x2 : T6), (x0.length ≤ bd ∧ ∀ y ∈ x0, k_api_Decl y) → ((Lit.int .i64 x1).wf = true) → k_law14_Case x2 → ∃ N, law14_GuardParts N x0 x1 x2 = some true := by
  intro d label c hd hlab hc
  refine ⟨33554432 + 300, ?_⟩
  exact guardParts_law (by omega) d (by have := hd.1; unfold bd at this; omega) (fun x hx => sizeD_of (hd.2 x hx)) (fun x hx => nameD_of (hd.2 x hx)) label c (sizeC_of hc)
end Gp
end
