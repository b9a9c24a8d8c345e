/- Aids for the walks, part 4: a symbolic state of the machine, and that each step of the machine keeps it. -/
import Derived.Calls
import Derived.Test.YtbaebccneokflaaGreatDoorGuardOwnCore3
set_option linter.all false
section
namespace Go.Kx
section
variable (P : Program) (tt : List (Nat × TD)) (call : Cal) (ext : Xt) (nt : Nat) (ops : Array Oper)
end
def clsOf (tt : List (Nat × TD)) : Op → Nat
  | .move _ => 0
  | .assign _ => 0
  | .pick _ _ _ => 0
  | .nilCheck _ => 0
  | .unOp _ _ _ => 0
  | .binOp _ _ _ _ _ => 0
  | .field _ _ _ => 0
  | .fieldAddr _ _ _ => 0
  | .extract _ _ => 0
  | .build _ _ => 0
  | .index _ _ _ => 0
  | .indexAddr _ _ _ => 0
  | .load _ _ => 1
  | .slice _ _ none none none => 2
  | .slice _ _ _ _ _ => 1
  | .convert t u _ => match look tt t with
    | some d => match look tt u with
      | some du => bif Nat.beq du.kd 6 then 2 else bif Nat.beq d.kd 3 then 0 else 1
      | none => 1
    | none => 1
  | .call c => match c.callee with
    | .builtin .len => 0
    | .builtin .min => 0
    | .builtin .max => 0
    | .builtin .cap => 1
    | .builtin .unsafeSliceData => 1
    | _ => 2
  | _ => 2
def vlOf (P : Program) (tt : List (Nat × TD)) (s : St) (op : Op) : Option SV := match sval tt s op with
  | some v => some v
  | none => xval2 P tt s op
theorem vlOf_ok {X : Ctx} {tt : List (Nat × TD)} (htt : TTOk X.P tt) : VlOk X (vlOf X.P tt) := by
  refine ⟨fun _ _ _ _ _ _ => rfl, fun s E F w a o v hs h => ?_⟩
  unfold vlOf at h
  split at h
  · rename_i u hu
    cases h
    exact sval_ok htt hs hu
  · exact xval2_ok htt hs h
def FtOk (P : Program) (ft : FuncId → Option (Func × Code)) : Prop := ∀ f fn body, ft f = some (fn, body) → P.funcs[f]? = some fn ∧ fn.body = some body ∧ (fn.name == "runtime.NumGoroutine") = false
section
variable {X : Ctx} {s s' : St} {tt : List (Nat × TD)} {call : Cal} {ext : Xt} {ops : Array Oper} {todo : Act → World → Prop}
theorem WPr.skip0 {i : Nat} {rest : List Nat} {o : Oper} (ho : ops[i]? = some o) (hg : guardV ops s.L o = some false) (hd : o.dst = none) (k : WPr X ops rest todo s) : WPr X ops (i :: rest) todo s := by
  intro E F w a hs
  simp only [wpOps, ho, guardV_ok hs hg, Bool.false_eq_true, if_false, hd]
  exact k E F w _ hs
theorem resOne_kb {E F w a} (hs : Sat X s E F w a) {r : ResultVar} {v : SV} (h : resOne tt s r = some v) : v.kb s.nx := by
  cases r with
  | tmp t => exact hs.wf.hL t v h
  | cell ad t =>
    simp only [resOne] at h
    cases hd : look tt t with
    | none => rw [hd] at h; cases h
    | some d =>
      rw [hd] at h
      simp only [] at h
      split at h
      · split at h
        · rename_i hm; exact loadC_kb h (hs.wf.hM _ _ hm).2
        · cases h
      · cases h
theorem resAll_kb {E F w a} (hs : Sat X s E F w a) : ∀ {rs : List ResultVar} {vs : List SV}, resAll tt s rs = some vs → ∀ v ∈ vs, v.kb s.nx
  | [], vs, h => by cases h; simp
  | r :: rs, vs, h => by
    unfold resAll at h
    cases hr : resOne tt s r with
    | none => rw [hr] at h; cases h
    | some v =>
      rw [hr] at h
      simp only [] at h
      cases ha : resAll tt s rs with
      | none => rw [ha] at h; cases h
      | some us =>
        rw [ha] at h
        cases h
        intro u hu
        rcases List.mem_cons.1 hu with rfl | hu
        · exact resOne_kb hs hr
        · exact resAll_kb hs ha u hu
theorem sumAll_kb {n : Nat} : ∀ {vs : List SV} {xs : List (SC ⊕ List SC)}, sumAll vs = some xs → (∀ v ∈ vs, v.kb n) → (SV.t xs).kb n
  | [], xs, h, _ => by cases h; intro v hv; cases hv
  | v :: vs, xs, h, hk => by
    unfold sumAll at h
    cases hv : svSum v with
    | none => rw [hv] at h; cases h
    | some x =>
      rw [hv] at h
      simp only [] at h
      cases hr : sumAll vs with
      | none => rw [hr] at h; cases h
      | some ys =>
        rw [hr] at h
        cases h
        have ih := sumAll_kb hr fun v hv => hk v (List.mem_cons_of_mem _ hv)
        have h0 := hk v List.mem_cons_self
        intro u hu
        rcases List.mem_cons.1 hu with rfl | hu
        · unfold svSum at hv
          split at hv
          · cases hv; exact h0
          · cases hv; exact h0
          · cases hv
        · exact ih u hu
theorem resV_kb {E F w a} (hs : Sat X s E F w a) {rs : List ResultVar} {v : SV} (h : resV tt s rs = some v) : v.kb s.nx := by
  unfold resV at h
  split at h
  · rename_i hr; cases h; exact resAll_kb hs hr v (by simp)
  · rename_i vs _ hr
    cases hsum : sumAll vs with
    | none => rw [hsum] at h; cases h
    | some xs =>
      rw [hsum] at h
      cases h
      exact sumAll_kb hsum (resAll_kb hs hr)
  · cases h
end
end Go.Kx
end
section
namespace Go.Kx
def fL (i : Nat) (f : Func) : FuncId → Option (Func × Code) := fun j => bif Nat.beq j i then (match f.body with
  | some c => some (f, c)
  | none => none) else none
def fN (m : Nat) (a b : FuncId → Option (Func × Code)) : FuncId → Option (Func × Code) := fun j => bif Nat.blt j m then a j else b j
theorem fLo {P : Program} {i : Nat} {f : Func} (h : P.funcs[i]? = some f) (hn : (f.name == "runtime.NumGoroutine") = false) : FtOk P (fL i f) := by
  intro j fn body hj
  unfold fL at hj
  cases hb : Nat.beq j i with
  | false => rw [hb] at hj; cases hj
  | true =>
    rw [hb] at hj
    have := Nat.eq_of_beq_eq_true hb
    subst this
    cases hc : f.body with
    | none => rw [hc] at hj; cases hj
    | some c => rw [hc] at hj; cases hj; exact ⟨h, hc, hn⟩
theorem fNo {P : Program} {m : Nat} {a b : FuncId → Option (Func × Code)} (ha : FtOk P a) (hb : FtOk P b) : FtOk P (fN m a b) := by
  intro j fn body hj
  unfold fN at hj
  cases hc : Nat.blt j m with
  | false => rw [hc] at hj; exact hb j fn body hj
  | true => rw [hc] at hj; exact ha j fn body hj
def xB (g : ByteArray → Int → Int) : List SV → Option SV
  | [.c (.s m), .c (.i .u8 c)] => some (.c (.i .i64 (g m c)))
  | _ => none
def xId : List SV → Option SV
  | [v] => some v
  | _ => none
def xZ : FuncId → List SV → Option SV := fun _ _ => none
def xN (i : Nat) (g : List SV → Option SV) (r : FuncId → List SV → Option SV) : FuncId → List SV → Option SV := fun f as => bif Nat.beq f i then g as else r f as
def XOk (P : Program) (f : FuncId) (g : List SV → Option SV) : Prop := ∀ svs v, g svs = some v → ∀ (E : Env) (w : World), (callFunc f (svs.map (denV E)).toArray).run P w = .ok (.value (denV E v)) w ∧ ∀ n, (∀ u ∈ svs, u.kb n) → v.kb n
def XVOk (P : Program) (x : FuncId → List SV → Option SV) : Prop := ∀ f, XOk P f (x f)
theorem xZo {P : Program} : XVOk P xZ := fun _ _ _ h => nomatch h
theorem xNo {P : Program} {i : Nat} {g : List SV → Option SV} {r : FuncId → List SV → Option SV} (h : XOk P i g) (hr : XVOk P r) : XVOk P (xN i g r) := by
  intro f svs v hv
  unfold xN at hv
  cases hb : Nat.beq f i with
  | true =>
    rw [hb] at hv
    have := Nat.eq_of_beq_eq_true hb
    subst this
    exact h svs v hv
  | false => rw [hb] at hv; exact hr f svs v hv
theorem xB_ok {P : Program} {f : FuncId} {g : ByteArray → Int → Int} (h : ∀ (m : ByteArray) (c : Int) (E : Env) (w : World), (callFunc f (([.c (.s m), .c (.i .u8 c)] : List SV).map (denV E)).toArray).run P w = .ok (.value (denV E (.c (.i .i64 (g m c))))) w) : XOk P f (xB g) := by
  intro svs v hv E w
  unfold xB at hv
  split at hv
  · cases hv; exact ⟨h _ _ E w, fun _ _ => trivial⟩
  · cases hv
theorem xId_ok {P : Program} {f : FuncId} {fn : Func} (hf : P.funcs[f]? = some fn) (hname : (fn.name == "runtime.NumGoroutine") = false) (hb : fn.body.isNone = true) (hn : Extern.findNext fn = none)
    (he : Extern.find fn = some Extern.AbiNoEscape.same) : XOk P f xId := by
  intro svs v hv E w
  unfold xId at hv
  split at hv
  · cases hv
    refine ⟨?_, fun n h => h v (by simp)⟩
    rw [run_callFunc_extern hf hname hb hn he]
    show ((Extern.AbiNoEscape.same #[denV E v]).run P w).andThen _ = _
    rw [Go.Lib.run_noEscape]; rfl
  · cases hv
theorem digits_one : ∀ (n t : Nat) (acc : Array Value), (∀ j : Nat, (acc[j]!).oneCell' = true) → ∀ j : Nat, ((Extern.BytealgMakeNoZero.digits n t acc)[j]!).oneCell' = true
  | 0, _, _, h => h
  | n + 1, t, acc, h => by
    unfold Extern.BytealgMakeNoZero.digits
    refine digits_one n _ _ fun j => ?_
    have := h j
    by_cases h1 : j < acc.size
    · simpa [getElem!_def, Array.getElem?_push, Nat.ne_of_lt h1] using this
    · by_cases h2 : j = acc.size
      · subst h2; simp [getElem!_def]; rfl
      · have : acc.size < j := by omega
        simp [getElem!_def, Array.getElem?_push, h2, h1]
        rfl
theorem digits_size : ∀ (n t : Nat) (acc : Array Value), (Extern.BytealgMakeNoZero.digits n t acc).size = acc.size + n
  | 0, _, _ => rfl
  | n + 1, t, acc => by
    unfold Extern.BytealgMakeNoZero.digits
    rw [digits_size n]
    simp only [Array.size_push]
    omega
theorem mz_run {P : Program} {ps : Array TypeId} {t e : TypeId} (ht : P.underlying t = some (.slice e)) (n : Nat) (w : World) (hle : n ≤ 4096) :
    ∃ q : Nat, ((Extern.BytealgMakeNoZero.makeNoZero ps #[t] #[.int .i64 n]).run P w) = .ok (.slice (some ⟨w.heap.size, 0, none⟩) n (grownCap w n 0 e)) (w.drew.drew.alloc (.cells (Extern.BytealgMakeNoZero.digits (grownCap w n 0 e) q #[]) e)) := by
  have h1 : ¬ (n : Int) < 0 := by omega
  have h2 : ¬ (281474976710656 : Int) < (n : Int) := by omega
  obtain ⟨a, b, qq, hq, hdef⟩ : ∃ (a b : String) (qq : Question), qq.forced = false ∧ Extern.BytealgMakeNoZero.makeNoZero ps #[t] #[.int .i64 n] =
        (do
          let .slice elem ← underlying t | stuck a
          if (n : Int) < 0 || (n : Int) > 2 ^ 48 then runtimePanic (.error b)
          let cap ← choose (.appendCap (n : Int).toNat 0 elem)
          askRoom cap
          let bytes ← choose qq
          let a ← newRow elem (Extern.BytealgMakeNoZero.digits cap bytes #[])
          pure (.slice (some a) (n : Int).toNat cap)) := ⟨_, _, _, rfl, rfl⟩
  refine ⟨qq.cut (w.tape (w.drawn + 1) qq), ?_⟩
  rw [hdef]
  have hc : (Question.appendCap n 0 e).forced = false := rfl
  simp [run_underlying' ht, h1, h2, hq, hc, newRow, digits_size, grownCap, Result.andThen]
theorem mzOk {P : Program} {f : FuncId} {fn : Func} {ps : Array TypeId} {t e : TypeId} (hf : P.funcs[f]? = some fn) (hname : (fn.name == "runtime.NumGoroutine") = false) (hb : fn.body.isNone = true) (hn : Extern.findNext fn = none)
    (he : Extern.find fn = some (Extern.BytealgMakeNoZero.makeNoZero ps #[t])) (ht : P.underlying t = some (.slice e)) : MzOk P f e := by
  intro n w hle
  obtain ⟨q, hq⟩ := mz_run (ps := ps) ht n w hle
  refine ⟨Extern.BytealgMakeNoZero.digits (grownCap w n 0 e) q #[], digits_one _ _ _ (fun j => by simp [getElem!_def]; rfl), ?_, ?_⟩
  · rw [digits_size]
    simpa using grownCap_ge w n 0 e
  · rw [run_callFunc_extern hf hname hb hn he, hq, digits_size]
    simp [Result.andThen]
def evT (call : Cal) (f : FuncId) : Bool := match call f [] [] [] 0 with
  | some (.c (.b true), _) => true
  | _ => false
theorem Fn.ofEv {P : Program} {f : FuncId} {call : Cal} (hc : CalOk P call) (h : evT call f = true) : Fn P f ⟨0, [], [], [], 0, .c (.b true), [], []⟩ := by
  unfold evT at h
  split at h
  · rename_i r hr
    obtain ⟨M', V', nx'⟩ := r
    obtain ⟨hcb, hcs⟩ := hc _ _ _ _ _ _ _ _ _ hr
    refine ⟨hcb, fun E F w hp => ?_⟩
    refine (hcs E F w ⟨fun d v h => (nomatch h), fun k m h => (nomatch h), fun k f h => (nomatch h)⟩ ⟨hp.one, hp.hF, fun k f h => (nomatch h), fun k m h => (nomatch h), fun k k' m m' h => (nomatch h), fun k m h => (nomatch h)⟩).mono ?_
    rintro e w' ⟨E', F', rfl, hq, _, _⟩
    exact ⟨E', F', rfl, {
      env := fun k hk => absurd hk (Nat.not_lt_zero k)
      one := hq.one
      V := fun k f h => (nomatch h)
      M := fun k m h => (nomatch h)
      dis := fun k k' m m' h => (nomatch h)
      mF := fun k m h => (nomatch h)
      fresh := fun k m h => (nomatch h)
      F0 := hq.F0
      F1 := hq.F1
      Fs := hq.Fs
      ext := hq.ext }⟩
  · cases h
end Go.Kx
end
section
namespace Go.Kx
@[reducible] noncomputable def lookF {α : Type _} (l : List (Nat × α)) (d : Nat) : Option α := List.rec (motive := fun _ => Option α) none (fun q _ ih => Bool.rec (motive := fun _ => Option α) ih (some q.2) (Nat.beq q.1 d)) l
theorem lookF_eq {α : Type _} : ∀ (l : List (Nat × α)) (d : Nat), lookF l d = look l d
  | [], _ => rfl
  | (k, v) :: r, d => by
    show Bool.rec (motive := fun _ => Option α) (lookF r d) (some v) (Nat.beq k d) = bif Nat.beq k d then some v else look r d
    rw [lookF_eq r d]
    cases Nat.beq k d <;> rfl
structure IOd where
  run : List (Nat × SV) → Option SV
noncomputable def oTm (t : Nat) (L : List (Nat × SV)) : Option SV := List.rec (motive := fun _ => Option SV) none (fun q _ ih => Bool.rec (motive := fun _ => Option SV) ih (some q.2) (Nat.beq q.1 t)) L
noncomputable def vTm (t : Nat) (L : List (Nat × SV)) (_ : List (Nat × MO)) : Option SV := List.rec (motive := fun _ => Option SV) none (fun q _ ih => Bool.rec (motive := fun _ => Option SV) ih (some q.2) (Nat.beq q.1 t)) L
def oKn (v : Option SV) (_ : List (Nat × SV)) : Option SV := v
noncomputable def odI : Operand → IOd
  | .tmp t => ⟨oTm t⟩
  | .const v => ⟨oKn (cSV v)⟩
  | .global g => ⟨oKn (some (.c (.v (.pointer (some ⟨g, 0, none⟩)))))⟩
  | .func f => ⟨oKn (some (.c (.cl f [] [])))⟩
theorem odI_eq (x : Operand) (L : List (Nat × SV)) : (odI x).run L = evalO L x := by
  cases x with
  | tmp t => exact lookF_eq L t
  | const v => rfl
  | global g => rfl
  | func f => rfl
structure IVal where
  run : List (Nat × SV) → List (Nat × MO) → Option SV
structure IBin where
  run : IntKind → Int → Int → Option SV
def bAdd (k : IntKind) (a b : Int) : Option SV := some (.c (.i k (k.wrap (a + b))))
def bSub (k : IntKind) (a b : Int) : Option SV := some (.c (.i k (k.wrap (a - b))))
def bMul (k : IntKind) (a b : Int) : Option SV := some (.c (.i k (k.wrap (a * b))))
def bEq (_ : IntKind) (a b : Int) : Option SV := some (.c (.b (a == b)))
def bNe (_ : IntKind) (a b : Int) : Option SV := some (.c (.b (a != b)))
def bLt (_ : IntKind) (a b : Int) : Option SV := some (.c (.b (decide (a < b))))
def bLe (_ : IntKind) (a b : Int) : Option SV := some (.c (.b (decide (a ≤ b))))
def bGt (_ : IntKind) (a b : Int) : Option SV := some (.c (.b (decide (a > b))))
def bGe (_ : IntKind) (a b : Int) : Option SV := some (.c (.b (decide (a ≥ b))))
def bNo (_ : IntKind) (_ _ : Int) : Option SV := none
def binI : BinOp → IBin
  | .add => ⟨bAdd⟩
  | .sub => ⟨bSub⟩
  | .mul => ⟨bMul⟩
  | .eql => ⟨bEq⟩
  | .neq => ⟨bNe⟩
  | .lss => ⟨bLt⟩
  | .leq => ⟨bLe⟩
  | .gtr => ⟨bGt⟩
  | .geq => ⟨bGe⟩
  | _ => ⟨bNo⟩
def vNo (_ : List (Nat × SV)) (_ : List (Nat × MO)) : Option SV := none
def vMv (x : IOd) (L : List (Nat × SV)) (_ : List (Nat × MO)) : Option SV := x.run L
def asB : Option SV → Option Bool
  | some (.c (.b t)) => some t
  | _ => none
def vPk (c x y : IOd) (L : List (Nat × SV)) (_ : List (Nat × MO)) : Option SV := match asB (c.run L) with
  | some t => bif t then x.run L else y.run L
  | none => none
def ldM (d : TD) (off : Nat) : Option MO → Option SV
  | some (.box cs _) => loadC d off cs
  | some (.arr cs _ _) => loadC d off cs
  | _ => none
def asP : Option SV → Option (Nat × Nat)
  | some (.c (.bp k off)) => some (k, off)
  | _ => none
noncomputable def vLd (d : TD) (ad : IOd) (L : List (Nat × SV)) (M : List (Nat × MO)) : Option SV := match asP (ad.run L) with
  | some (k, off) => ldM d off (lookF M k)
  | none => none
def vNc (x : IOd) (L : List (Nat × SV)) (_ : List (Nat × MO)) : Option SV := match x.run L with
  | some (.c (.bp k off)) => some (.c (.bp k off))
  | some (.c (.cl f b c)) => some (.c (.cl f b c))
  | _ => none
def asI : Option SV → Option (IntKind × Int)
  | some (.c (.i k a)) => some (k, a)
  | _ => none
def eqU : List UInt8 → List UInt8 → Bool
  | [], [] => true
  | a :: l, b :: r => bif Nat.beq a.toNat b.toNat then eqU l r else false
  | _, _ => false
def nthU : List UInt8 → Nat → Option Int
  | [], _ => none
  | b :: _, 0 => some (b.toNat : Int)
  | _ :: r, n + 1 => nthU r n
structure ISb where
  run : ByteArray → ByteArray → Option SV
def sEq (a b : ByteArray) : Option SV := some (.c (.b (eqU a.data.toList b.data.toList)))
def sNe (a b : ByteArray) : Option SV := some (.c (.b (!(eqU a.data.toList b.data.toList))))
def sNo (_ _ : ByteArray) : Option SV := none
def binS : BinOp → ISb
  | .eql => ⟨sEq⟩
  | .neq => ⟨sNe⟩
  | _ => ⟨sNo⟩
def asS : Option SV → Option ByteArray
  | some (.c (.s m)) => some m
  | _ => none
def vBi (f : IBin) (g : ISb) (x y : IOd) (L : List (Nat × SV)) (_ : List (Nat × MO)) : Option SV := match asI (x.run L) with
  | some (k, a) => match asI (y.run L) with
    | some (k', b) => bif decide (k = k') then f.run k a b else none
    | none => none
  | none => match asS (x.run L) with
    | some m => match asS (y.run L) with
      | some n => g.run m n
      | none => none
    | none => none
def vFa (x : IOd) (o : Nat) (L : List (Nat × SV)) (_ : List (Nat × MO)) : Option SV := match asP (x.run L) with
  | some (k, off) => some (.c (.bp k (off + o)))
  | none => none
def vIa (kd es n : Nat) (x ix : IOd) (L : List (Nat × SV)) (_ : List (Nat × MO)) : Option SV := match asI (ix.run L) with
  | some (_, j) => match x.run L with
    | some (.c (.sp k i len es')) => bif inB j len && Nat.beq kd 6 && Nat.beq es es' then some (.c (.bp k (i * es' + j.toNat * es'))) else none
    | some (.c (.bp k off)) => bif inB j n && Nat.beq kd 5 then some (.c (.bp k (off + j.toNat * es))) else none
    | _ => none
  | none => none
def vIs (x ix : IOd) (L : List (Nat × SV)) (_ : List (Nat × MO)) : Option SV := match asI (ix.run L) with
  | some (_, j) => match asS (x.run L) with
    | some m => match (bif decide (0 ≤ j) then nthU m.data.toList j.toNat else none) with
      | some z => some (.c (.i .u8 z))
      | none => none
    | none => none
  | none => none
noncomputable def xlenF (M : List (Nat × MO)) (k i n es : Nat) : Bool := match lookF M k with
  | some (.arr cs e _) => Nat.beq e es && Nat.ble ((i + n) * es) cs.length
  | _ => false
def evOF (L : List (Nat × SV)) : Option IOd → Option (Option Int)
  | none => some none
  | some x => match asI (x.run L) with
    | some (_, n) => some (some n)
    | none => none
noncomputable def vSl (kd es : Nat) (x : IOd) (lo hi : Option IOd) (L : List (Nat × SV)) (M : List (Nat × MO)) : Option SV := match evOF L lo with
  | some l => match evOF L hi with
    | some h => match x.run L with
      | some (.c (.s m)) => bif Nat.beq kd 2 then (match bnd l h m.data.toList.length with
        | some p => some (.c (.s ⟨⟨(m.data.toList.drop p.1).take (p.2 - p.1)⟩⟩))
        | none => none) else none
      | some (.c (.sp k i len es')) => bif Nat.beq kd 6 && Nat.beq es es' && xlenF M k i len es' then (match bnd l h len with
        | some p => bif Nat.beq p.1 0 || Nat.blt p.1 p.2 then some (.c (.sp k (i + p.1) (p.2 - p.1) es')) else none
        | none => none) else none
      | _ => none
    | none => none
  | none => none
def vLn (kd : Nat) (x : IOd) (L : List (Nat × SV)) (_ : List (Nat × MO)) : Option SV := match x.run L with
  | some (.c (.sp _ _ n _)) => bif Nat.beq kd 6 then some (.c (.i .i64 n)) else none
  | some (.c (.s m)) => bif Nat.beq kd 2 then some (.c (.i .i64 m.size)) else none
  | some (.c .nil) => bif Nat.beq kd 6 then some (.c (.i .i64 0)) else none
  | _ => none
def vCv (k : IntKind) (x : IOd) (L : List (Nat × SV)) (_ : List (Nat × MO)) : Option SV := match asI (x.run L) with
  | some (_, n) => some (.c (.i k (k.wrap n)))
  | none => none
def vNt (x : IOd) (L : List (Nat × SV)) (_ : List (Nat × MO)) : Option SV := match asB (x.run L) with
  | some t => some (.c (.b (!t)))
  | none => none
def vEx (x : IOd) (j : Nat) (L : List (Nat × SV)) (_ : List (Nat × MO)) : Option SV := match x.run L with
  | some (.t vs) => match vs[j]? with
    | some (.inl c) => some (.c c)
    | some (.inr cs) => some (.a cs)
    | none => none
  | _ => none
noncomputable def ldI (ad : Operand) : Option TD → IVal
  | some d => ⟨vLd d (odI ad)⟩
  | none => ⟨vNo⟩
noncomputable def faI (x : Operand) (f : Nat) : Option TD → IVal
  | some d => match d.fo[f]? with
    | some (o, _, _) => ⟨vFa (odI x) o⟩
    | none => ⟨vNo⟩
  | none => ⟨vNo⟩
noncomputable def iaI (x ix : Operand) : Option TD → IVal
  | some d => ⟨vIa d.kd d.es d.n (odI x) (odI ix)⟩
  | none => ⟨vNo⟩
noncomputable def ixI (x ix : Operand) : Option TD → IVal
  | some d => bif Nat.beq d.kd 2 then ⟨vIs (odI x) (odI ix)⟩ else ⟨vNo⟩
  | none => ⟨vNo⟩
noncomputable def ooI : Option Operand → Option IOd
  | some x => some (odI x)
  | none => none
noncomputable def slI (x : Operand) (lo hi : Option Operand) : Option TD → IVal
  | some d => ⟨vSl d.kd d.es (odI x) (ooI lo) (ooI hi)⟩
  | none => ⟨vNo⟩
noncomputable def lnI (x : Operand) : Option TD → IVal
  | some d => ⟨vLn d.kd (odI x)⟩
  | none => ⟨vNo⟩
noncomputable def cvI (x : Operand) : Option TD → Option TD → IVal
  | some _, some d => match d.ik with
    | some k => ⟨vCv k (odI x)⟩
    | none => ⟨vNo⟩
  | _, _ => ⟨vNo⟩
noncomputable def mvI : Operand → IVal
  | .tmp t => ⟨vTm t⟩
  | x => ⟨vMv (odI x)⟩
noncomputable def vF (tt : List (Nat × TD)) : Op → IVal
  | .move x => mvI x
  | .assign x => mvI x
  | .pick c x y => ⟨vPk (odI c) (odI x) (odI y)⟩
  | .load t ad => ldI ad (look tt t)
  | .nilCheck x => ⟨vNc (odI x)⟩
  | .binOp b _ x y _ => ⟨vBi (binI b) (binS b) (odI x) (odI y)⟩
  | .unOp .not _ x => ⟨vNt (odI x)⟩
  | .fieldAddr t x f => faI x f (look tt t)
  | .indexAddr t x ix => iaI x ix (look tt t)
  | .index t x ix => ixI x ix (look tt t)
  | .slice t x lo hi none => slI x lo hi (look tt t)
  | .extract x j => ⟨vEx (odI x) j⟩
  | .convert t u x => cvI x (look tt t) (look tt u)
  | .call { callee := .builtin .len, args := ⟨[x]⟩, argTypes := ⟨[t]⟩ } => lnI x (look tt t)
  | _ => ⟨vNo⟩
theorem asI_ok {v : Option SV} {k : IntKind} {n : Int} (h : asI v = some (k, n)) : v = some (.c (.i k n)) := by
  unfold asI at h
  split at h
  · cases h; rfl
  · cases h
theorem asB_ok {v : Option SV} {t : Bool} (h : asB v = some t) : v = some (.c (.b t)) := by
  unfold asB at h
  split at h
  · cases h; rfl
  · cases h
theorem asP_ok {v : Option SV} {k n : Nat} (h : asP v = some (k, n)) : v = some (.c (.bp k n)) := by
  unfold asP at h
  split at h
  · cases h; rfl
  · cases h
theorem asS_ok {v : Option SV} {m : ByteArray} (h : asS v = some m) : v = some (.c (.s m)) := by
  unfold asS at h
  split at h
  · cases h; rfl
  · cases h
theorem eqU_eq : ∀ (a b : List UInt8), eqU a b = (a == b)
  | [], [] => rfl
  | [], _ :: _ => rfl
  | _ :: _, [] => rfl
  | x :: a, y :: b => by
    unfold eqU
    rw [eqU_eq a b, List.cons_beq_cons]
    cases hb : Nat.beq x.toNat y.toNat with
    | true =>
      have := UInt8.toNat_inj.1 (Nat.eq_of_beq_eq_true hb)
      subst this; simp
    | false =>
      have : (x == y) = false := by
        rw [beq_eq_false_iff_ne]
        intro e; subst e; simp at hb
      rw [this]; rfl
theorem nthU_eq : ∀ (l : List UInt8) (n : Nat), nthU l n = l[n]?.map fun b => (b.toNat : Int)
  | [], _ => by simp [nthU]
  | _ :: _, 0 => rfl
  | _ :: r, n + 1 => by unfold nthU; rw [nthU_eq r n]; simp
theorem sidxF_eq (m : ByteArray) (j : Int) : (bif decide (0 ≤ j) then nthU m.data.toList j.toNat else none) = sidx m j := by
  unfold sidx
  rw [nthU_eq]
  have : m[j.toNat]? = m.data.toList[j.toNat]? := by
    by_cases h : j.toNat < m.size
    · have h' : j.toNat < m.data.toList.length := by simpa using h
      rw [getElem?_pos m j.toNat h, getElem?_pos m.data.toList j.toNat h']
      rfl
    · have h' : ¬ j.toNat < m.data.toList.length := by simpa using h
      rw [getElem?_neg m j.toNat h, getElem?_neg m.data.toList j.toNat h']
  rw [this]
theorem extF_eq (m : ByteArray) (a b : Nat) : (⟨⟨(m.data.toList.drop a).take (b - a)⟩⟩ : ByteArray) = m.extract a b := by
  have : (m.extract a b).data.toList = (m.data.toList.drop a).take (b - a) := by
    simp [ByteArray.extract, ByteArray.copySlice]
  rw [← this]
theorem xlenF_eq (M : List (Nat × MO)) (k i n es : Nat) : xlenF M k i n es = xlen M k i n es := by
  unfold xlenF xlen; rw [lookF_eq]; rfl
theorem evOF_ok {L : List (Nat × SV)} {x : Option Operand} {r : Option Int} (h : evOF L (ooI x) = some r) : ∃ q, evOI L x = some q ∧ q.map (·.2) = r := by
  cases x with
  | none => cases h; exact ⟨none, rfl, rfl⟩
  | some x =>
    simp only [ooI, evOF, odI_eq] at h
    split at h
    · rename_i k n hx
      cases h
      exact ⟨some (k, n), by simp only [evOI, asI_ok hx], rfl⟩
    · cases h
theorem mvI_ok {x : Operand} {L : List (Nat × SV)} {M : List (Nat × MO)} {v : SV} (h : (mvI x).run L M = some v) : evalO L x = some v := by
  unfold mvI at h
  split at h
  · rw [← odI_eq]; exact h
  · simp only [vMv, odI_eq] at h; exact h
theorem vF_ok {P : Program} {tt : List (Nat × TD)} {op : Op} {s : St} {v : SV} (h : (vF tt op).run s.L s.M = some v) : sval tt s op = some v ∨ xval P tt s op = some v := by
  unfold vF at h
  split at h
  · exact .inl (mvI_ok h)
  · exact .inl (mvI_ok h)
  · rename_i c x y
    left
    simp only [vPk, odI_eq] at h
    split at h
    · rename_i t hc
      cases t with
      | true => simp only [sval, asB_ok hc]; exact h
      | false => simp only [sval, asB_ok hc]; exact h
    · cases h
  · rename_i t ad
    unfold ldI at h
    split at h
    · rename_i d hd
      simp only [vLd, odI_eq, lookF_eq] at h
      split at h
      · rename_i k off hx
        unfold ldM at h
        split at h
        · rename_i cs t' hm
          left; simp only [sval, hd, asP_ok hx, hm]; exact h
        · rename_i cs e t' hm
          right; simp only [xval, xvLoad, hd, asP_ok hx, hm]; exact h
        · cases h
      · cases h
    · cases h
  · rename_i x
    left
    simp only [vNc, odI_eq] at h
    split at h
    · rename_i hx; simp only [sval, hx]; exact h
    · rename_i hx; simp only [sval, hx]; exact h
    · cases h
  · rename_i b t x y yt
    left
    simp only [vBi, odI_eq] at h
    split at h
    · rename_i k m hx
      split at h
      · rename_i k' n hy
        cases hk : decide (k = k') with
        | false => rw [hk] at h; cases h
        | true =>
          rw [hk] at h
          simp only [sval, asI_ok hx, asI_ok hy, sbin, hk, cond_true]
          unfold binI at h
          split at h <;> (try cases h) <;> rfl
      · cases h
    · split at h
      · rename_i m hx
        split at h
        · rename_i n hy
          simp only [sval, asS_ok hx, asS_ok hy, sbin]
          unfold binS at h
          split at h
          · simp only [sEq, eqU_eq, ← ByteArray.toList_eq] at h; exact h
          · simp only [sNe, eqU_eq, ← ByteArray.toList_eq] at h; exact h
          · cases h
        · cases h
      · cases h
  · rename_i t x
    left
    simp only [vNt, odI_eq] at h
    split at h
    · rename_i b hx; simp only [sval, asB_ok hx]; exact h
    · cases h
  · rename_i t x f
    left
    unfold faI at h
    split at h
    · rename_i d hd
      split at h
      · rename_i o a b hf
        simp only [vFa, odI_eq] at h
        split at h
        · rename_i k off hx
          simp only [sval, hd, asP_ok hx, faddr, hf]; exact h
        · cases h
      · cases h
    · cases h
  · rename_i t x ix
    right
    unfold iaI at h
    split at h
    · rename_i d hd
      simp only [vIa, odI_eq] at h
      split at h
      · rename_i k j hix
        split at h
        · rename_i hx; simp only [xval, xvIdxA, hd, asI_ok hix, hx]; exact h
        · rename_i hx; simp only [xval, xvIdxA, hd, asI_ok hix, hx]; exact h
        · cases h
      · cases h
    · cases h
  · rename_i t x ix
    right
    unfold ixI at h
    split at h
    · rename_i d hd
      cases hk : Nat.beq d.kd 2 with
      | false => rw [hk] at h; cases h
      | true =>
        rw [hk] at h
        simp only [cond_true, vIs, odI_eq, sidxF_eq] at h
        split at h
        · rename_i k j hix
          split at h
          · rename_i m hx
            simp only [xval, xvIdx, hd, asI_ok hix, asS_ok hx, hk, cond_true]; exact h
          · cases h
        · cases h
    · cases h
  · rename_i t x lo hi
    right
    unfold slI at h
    split at h
    · rename_i d hd
      simp only [vSl, odI_eq] at h
      split at h
      · rename_i l hl
        obtain ⟨ql, h1, rfl⟩ := evOF_ok hl
        split at h
        · rename_i hh he
          obtain ⟨qh, h2, rfl⟩ := evOF_ok he
          split at h
          · rename_i m hx
            simp only [xval, xvSlice, hd, h1, h2, hx]
            cases hk : Nat.beq d.kd 2 with
            | false => rw [hk] at h; cases h
            | true =>
              rw [hk] at h
              simp only [cond_true] at h ⊢
              split at h
              · rename_i p hp
                have hp : bnd (ql.map (·.2)) (qh.map (·.2)) m.size = some p := by simpa using hp
                simp only [ssl, hp, Option.map_some]
                rw [extF_eq] at h; exact h
              · cases h
          · rename_i k i len es' hx
            simp only [xval, xvSlice, hd, h1, h2, hx]
            rw [xlenF_eq] at h
            exact h
          · cases h
        · cases h
      · cases h
    · cases h
  · rename_i x j
    left
    simp only [vEx, odI_eq] at h
    split at h
    · rename_i vs hx; simp only [sval, hx]; exact h
    · cases h
  · rename_i t u x
    left
    unfold cvI at h
    split at h
    · rename_i d0 d h1 h2
      split at h
      · rename_i k hk
        simp only [vCv, odI_eq] at h
        split at h
        · rename_i k0 n hx
          simp only [sval, h1, h2, asI_ok hx, hk]; exact h
        · cases h
      · cases h
    · cases h
  · rename_i x t
    unfold lnI at h
    split at h
    · rename_i d hd
      simp only [vLn, odI_eq] at h
      split at h
      · rename_i hx
        right; simp only [xval, xvLen, hd, hx]; exact h
      · rename_i hx
        left; simp only [sval, scall, hd, hx, lenS]; exact h
      · rename_i hx
        left; simp only [sval, scall, hd, hx, lenS]; exact h
      · cases h
    · cases h
  · cases h
end Go.Kx
end
section
namespace Go.Kx
structure ISl where
  run : Cal → St → Option St
abbrev Kon := List (Nat × SV) → List (Nat × MO) → Nat → Option St
abbrev Kit := List Item → List (Nat × SV) → List (Nat × MO) → Nat → Nat → Option St
structure IOp where
  run : Cal → Kon → Kon
structure ICo where
  run : Cal → Kit → Kit
def frM (K : List (Nat × MO) → Option St) (M : List (Nat × MO)) : Option St := List.casesOn (motive := fun _ => Option St) M (K []) fun q r => K (q :: r)
def frN (K : Nat → Option St) (n : Nat) : Option St := Nat.casesOn (motive := fun _ => Option St) n (K 0) fun m => K (Nat.succ m)
def goS (K : Kon) : Option St → Option St
  | some ⟨L, M, _, nx⟩ => frN (fun nx => frM (fun M => K L M nx) M) nx
  | none => none
theorem goS_eq {K : Kon} {L : List (Nat × SV)} {M : List (Nat × MO)} {V : List (Nat × VF)} {nx : Nat} : goS K (some ⟨L, M, V, nx⟩) = K L M nx := by
  cases nx <;> cases M <;> rfl
theorem goS_ok {K : Kon} {x : Option St} {s' : St} (h : goS K x = some s') : ∃ s1, x = some s1 ∧ K s1.L s1.M s1.nx = some s' := by
  cases x with
  | none => cases h
  | some s1 =>
    obtain ⟨L, M, V, nx⟩ := s1
    rw [goS_eq] at h
    exact ⟨_, rfl, h⟩
noncomputable def pickF (L : List (Nat × SV)) (rd : List Nat) : List (Nat × SV) := List.rec (motive := fun _ => List (Nat × SV)) [] (fun d _ ih => match lookF L d with
  | some v => (d, v) :: ih
  | none => ih) rd
theorem pickF_eq (L : List (Nat × SV)) : ∀ rd : List Nat, pickF L rd = pickL L rd
  | [] => rfl
  | d :: r => by
    show (match lookF L d with | some v => (d, v) :: pickF L r | none => pickF L r) = _
    rw [lookF_eq, pickF_eq L r]; rfl
noncomputable def rV (d : Nat) (iv : IVal) (sl : ISl) (call : Cal) (K : Kon) (L : List (Nat × SV)) (M : List (Nat × MO)) (nx : Nat) : Option St :=
  Option.rec (motive := fun _ => Option St) (goS K (sl.run call ⟨L, M, [], nx⟩)) (fun v => K ((d, v) :: L) M nx) (iv.run L M)
noncomputable def rD (d : Nat) (rd : List Nat) (m : Bool) (iv : IVal) (sl : ISl) (call : Cal) (K : Kon) (L : List (Nat × SV)) (M : List (Nat × MO)) (nx : Nat) : Option St :=
  Option.rec (motive := fun _ => Option St) (goS K (sl.run call ⟨L, M, [], nx⟩)) (fun v => K ((d, v) :: L) M nx) (iv.run (pickF L rd) (Bool.rec (motive := fun _ => List (Nat × MO)) M [] m))
def rN (sl : ISl) (call : Cal) (K : Kon) (L : List (Nat × SV)) (M : List (Nat × MO)) (nx : Nat) : Option St := goS K (sl.run call ⟨L, M, [], nx⟩)
def gV (w : Bool) : Option SV → Option Bool
  | some (.c (.b t)) => match t with
    | true => some w
    | false => some (!w)
  | some .u => some false
  | _ => none
noncomputable def rG (c : Nat) (w : Bool) (t : Nat) (o : IOp) (call : Cal) (K : Kon) (L : List (Nat × SV)) (M : List (Nat × MO)) (nx : Nat) : Option St :=
  Option.rec (motive := fun _ => Option St) none (fun b => Bool.rec (motive := fun _ => Option St) (K ((t, .u) :: L) M nx) (o.run call K L M nx) b) (gV w (lookF L c))
noncomputable def runL (call : Cal) (K : Kon) (l : List IOp) : Kon := List.rec (motive := fun _ => Kon) K (fun o _ ih => o.run call ih) l
section
variable (P : Program) (tt : List (Nat × TD)) (ext : Xt) (nt : Nat)
def oGn (o : Oper) (call : Cal) (s : St) : Option St := evOp P tt call ext nt o s
def oCl (cal : Operand) (args : Array Operand) (o : Oper) (call : Cal) (s : St) : Option St := xeCall call ext nt o s cal args
def isVl : Op → Bool
  | .move _ => true
  | .assign _ => true
  | .pick _ _ _ => true
  | .load _ _ => true
  | .nilCheck _ => true
  | .binOp _ _ _ _ _ => true
  | .unOp _ _ _ => true
  | .fieldAddr _ _ _ => true
  | .indexAddr _ _ _ => true
  | .index _ _ _ => true
  | .slice _ _ _ _ _ => true
  | .extract _ _ => true
  | .convert _ _ _ => true
  | .call { callee := .builtin _, args := _, argTypes := _ } => true
  | _ => false
noncomputable def opI (o : Oper) : IOp := bif isVl o.op then (match o.dst with
    | some d => bif Nat.blt d nt then ⟨rV d (vF tt o.op) ⟨oGn P tt ext nt o⟩⟩ else ⟨rN ⟨oGn P tt ext nt o⟩⟩
    | none => ⟨rN ⟨oGn P tt ext nt o⟩⟩)
  else match o.op with
    | .call { callee := .value cal, args := args, argTypes := _ } => ⟨rN ⟨oCl ext nt cal args o⟩⟩
    | _ => ⟨rN ⟨oGn P tt ext nt o⟩⟩
noncomputable def oGd (ops : Array Oper) (o : Oper) (call : Cal) (s : St) : Option St := match guardV ops s.L o with
  | some true => evOp P tt call ext nt o s
  | some false => match o.dst with
    | some d => bif Nat.blt d nt then some ⟨(d, .u) :: s.L, s.M, s.V, s.nx⟩ else none
    | none => some s
  | none => none
def gSt (ops : Array Oper) (j : Nat) : Option Nat := match ops[j]? with
  | some oj => oj.dst
  | none => none
noncomputable def gdI (ops : Array Oper) (o : Oper) : IOp := match o.guard with
  | none => opI P tt ext nt o
  | some (j, w) => match gSt ops j with
    | some c => match o.dst with
      | some t => bif Nat.blt t nt then ⟨rG c w t (opI P tt ext nt o)⟩ else ⟨rN ⟨oGd P tt ext nt ops o⟩⟩
      | none => ⟨rN ⟨oGd P tt ext nt ops o⟩⟩
    | none => ⟨rN ⟨oGd P tt ext nt ops o⟩⟩
noncomputable def gdL (ops : Array Oper) : List Oper → List IOp
  | [] => []
  | o :: r => gdI P tt ext nt ops o :: gdL ops r
noncomputable def vl2 (s : St) (op : Op) : Option SV := match (vF tt op).run s.L s.M with
  | some v => some v
  | none => vlOf P tt s op
noncomputable def sGo (ops : Array Oper) (o : Oper) (call : Cal) (s : St) : Option St := stepS (clsOf tt) (vl2 P tt) (evOp P tt call ext nt) nt ops o s
noncomputable def stI (ops : Array Oper) (o : Oper) : IOp := match o.guard with
  | none => bif isVl o.op && !(Nat.beq (clsOf tt o.op) 2) then (match o.dst with
    | some d => bif Nat.blt d nt then ⟨rD d (readsOf ops o) (Nat.beq (clsOf tt o.op) 0) (vF tt o.op) ⟨sGo P tt ext nt ops o⟩⟩ else ⟨rN ⟨sGo P tt ext nt ops o⟩⟩
    | none => ⟨rN ⟨sGo P tt ext nt ops o⟩⟩) else ⟨rN ⟨sGo P tt ext nt ops o⟩⟩
  | some _ => ⟨rN ⟨sGo P tt ext nt ops o⟩⟩
noncomputable def stL (ops : Array Oper) : List Oper → List IOp
  | [] => []
  | o :: r => stI P tt ext nt ops o :: stL ops r
def oDd (ops : Array Oper) (call : Cal) (s : St) : Option St := evDrawn P tt call ext nt ops s
noncomputable def longer {α : Type _} (l : List α) : Nat → Bool := List.rec (motive := fun _ => Nat → Bool) (fun _ => false) (fun _ _ ih n => Nat.rec (motive := fun _ => Bool) true (fun m _ => ih m) n) l
noncomputable def lenF {α : Type _} (l : List α) : Nat := List.rec (motive := fun _ => Nat) 0 (fun _ _ ih => Nat.succ ih) l
noncomputable def subF {α : Type _} (l : List (Nat × α)) : Nat → List (Nat × α) := List.rec (motive := fun _ => Nat → List (Nat × α)) (fun _ => []) (fun q _ ih seen => Bool.rec (motive := fun _ => List (Nat × α)) (ih seen) (q :: ih (Nat.lor seen (Nat.pow 2 q.1))) (Nat.beq (Nat.land 1 (Nat.shiftRight seen q.1)) 0)) l
def cNx (_ : Cal) (ih : Kit) (k : List Item) (L : List (Nat × SV)) (M : List (Nat × MO)) (nx m : Nat) : Option St := ih k L M nx m
def cPs (a b : Item) (_ : Cal) (ih : Kit) (k : List Item) (L : List (Nat × SV)) (M : List (Nat × MO)) (nx m : Nat) : Option St := ih (a :: b :: k) L M nx m
def cOn (a : Item) (_ : Cal) (ih : Kit) (k : List Item) (L : List (Nat × SV)) (M : List (Nat × MO)) (nx m : Nat) : Option St := ih (a :: k) L M nx m
noncomputable def cCd (d : Nat) (x y : Item) (_ : Cal) (ih : Kit) (k : List Item) (L : List (Nat × SV)) (M : List (Nat × MO)) (nx m : Nat) : Option St :=
  Option.rec (motive := fun _ => Option St) none (fun t => Bool.rec (motive := fun _ => Option St) (ih (y :: k) L M nx m) (ih (x :: k) L M nx m) t) (asB (lookF L d))
noncomputable def cRg (l : List IOp) (call : Cal) (ih : Kit) (k : List Item) (L : List (Nat × SV)) (M : List (Nat × MO)) (nx m : Nat) : Option St := runL call (fun L M nx => ih k L M nx m) l L M nx
def cDr (sl : ISl) (call : Cal) (ih : Kit) (k : List Item) (L : List (Nat × SV)) (M : List (Nat × MO)) (nx m : Nat) : Option St := goS (fun L M nx => ih k L M nx m) (sl.run call ⟨L, M, [], nx⟩)
def cEx (id : Nat) (_ : Cal) (ih : Kit) (k : List Item) (L : List (Nat × SV)) (M : List (Nat × MO)) (nx m : Nat) : Option St := match exitTo id k with
  | some k2 => ih k2 L M nx m
  | none => none
noncomputable def cLo (a b : Item) (nt : Nat) (_ : Cal) (ih : Kit) (k : List Item) (L : List (Nat × SV)) (M : List (Nat × MO)) (nx m : Nat) : Option St := match longer M m || longer L (Nat.add nt 30) with
  | true => ih (a :: b :: k) (subF L 0) (subF M 0) nx (Nat.add (lenF (subF M 0)) 60)
  | false => ih (a :: b :: k) L M nx m
def cRt (_ : Cal) (_ : Kit) (_ : List Item) (L : List (Nat × SV)) (M : List (Nat × MO)) (nx _ : Nat) : Option St := some ⟨L, M, [], nx⟩
def cNo (_ : Cal) (_ : Kit) (_ : List Item) (_ : List (Nat × SV)) (_ : List (Nat × MO)) (_ _ : Nat) : Option St := none
noncomputable def coI : Code → ICo
  | .skip => ⟨cNx⟩
  | .label _ => ⟨cNx⟩
  | .seq x y => ⟨cPs (.code x) (.code y)⟩
  | .cond (.tmp d) x y => ⟨cCd d (.code x) (.code y)⟩
  | .cond (.const (.bool true)) x _ => ⟨cOn (.code x)⟩
  | .cond (.const (.bool false)) _ y => ⟨cOn (.code y)⟩
  | .block id b => ⟨cPs (.code b) (.inBlock id)⟩
  | .exit id => ⟨cEx id⟩
  | .loop b => ⟨cPs (.code b) (.inLoop b)⟩
  | .ret => ⟨cRt⟩
  | .region _ ops false => ⟨cRg (gdL P tt ext nt ops ops.toList)⟩
  | .region _ ops true => bif stAll (clsOf tt) ops ops.toList [] [] then ⟨cRg (stL P tt ext nt ops ops.toList)⟩ else ⟨cDr ⟨oDd P tt ext nt ops⟩⟩
  | _ => ⟨cNo⟩
noncomputable def itI : Item → ICo
  | .inBlock _ => ⟨cNx⟩
  | .inLoop c => ⟨cLo (.code c) (.inLoop c) nt⟩
  | .code c => coI P tt ext nt c
  | _ => ⟨cNo⟩
noncomputable def evItF (call : Cal) (fuel : Nat) : Kit := Nat.rec (motive := fun _ => Kit) (fun _ _ _ _ _ => none) (fun _ ih k L M nx m =>
  List.casesOn (motive := fun _ => Option St) k (some ⟨L, M, [], nx⟩) fun it k' => (itI P tt ext nt it).run call ih k' L M nx m) fuel
noncomputable def noFr (M : List (Nat × MO)) : Bool := List.rec (motive := fun _ => Bool) true (fun q _ ih => bif q.2.isFresh then false else ih) M
noncomputable def markF (M : List (Nat × MO)) : Nat → List Nat → Nat → Nat
  | 0, _, m => m
  | _ + 1, [], m => m
  | n + 1, k :: r, m => bif Nat.beq (Nat.land 1 (Nat.shiftRight m k)) 0 then (match lookF M k with
    | some (.box cs _) => markF M n (lsKeys cs ++ r) (Nat.lor m (Nat.pow 2 k))
    | some (.arr cs _ _) => markF M n (lsKeys cs ++ r) (Nat.lor m (Nat.pow 2 k))
    | _ => markF M n r (Nat.lor m (Nat.pow 2 k))) else markF M n r m
noncomputable def keysB (nx : Nat) (M : List (Nat × MO)) : List Nat := List.rec (motive := fun _ => List Nat) [] (fun q _ ih => Bool.rec (motive := fun _ => List Nat) ih (q.1 :: ih) (Nat.blt q.1 nx)) M
noncomputable def keepF (nx m : Nat) (M : List (Nat × MO)) : List (Nat × MO) := List.rec (motive := fun _ => List (Nat × MO)) [] (fun q _ ih => Bool.rec (motive := fun _ => List (Nat × MO)) (Bool.rec (motive := fun _ => List (Nat × MO)) (q :: ih) ih (Nat.beq (Nat.land 1 (Nat.shiftRight m q.1)) 0)) (q :: ih) (Nat.blt q.1 nx)) M
noncomputable def gcF (nx : Nat) (v : SV) (M : List (Nat × MO)) : List (Nat × MO) := match subF M 0 with
  | M1 => match markF M1 1000000 (lsKeys (svCs v) ++ keysB nx M1) 0 with
    | m => keepF nx m M1
noncomputable def gc2 (n0 nx : Nat) (v : SV) (M : List (Nat × MO)) : List (Nat × MO) := bif longer M (Nat.add n0 30) then gcF nx v M else M
end
noncomputable def evCallF (P : Program) (tt : List (Nat × TD)) (ft : FuncId → Option (Func × Code)) (ext : Xt) (T : Cal) (fuel : Nat) : Nat → Cal
  | 0 => fun _ _ _ _ _ => none
  | n + 1 => fun f args M V nx => match T f args M V nx with
    | some r => some r
    | none => match ft f with
      | some (fn, body) => bif Nat.ble args.length fn.ntmps && noFr M then
        (match evItF P tt ext fn.ntmps (evCallF P tt ft ext T fuel n) fuel [.code body] (numL 0 args) M nx (Nat.add (lenF M) 60) with
        | some s' => match resV tt s' fn.results.toList with
          | some v => bif Nat.ble nx s'.nx then some (v, gc2 (lenF M) nx v s'.M, s'.V, s'.nx) else none
          | none => none
        | none => none) else none
      | none => none
section
variable {X : Ctx} {s s' : St} {tt : List (Nat × TD)} {call : Cal} {ext : Xt} {ops : Array Oper} {todo : Act → World → Prop} {K : Kon} {L : List (Nat × SV)} {M : List (Nat × MO)} {nx : Nat}
theorem iv_ok (htt : TTOk X.P tt) {E F w a} (hs : Sat X s E F w a) {o : Oper} {v : SV} (h : (vF tt o.op).run s.L s.M = some v) : (execOp a.eval o).run X.P w = .ok (.value (denV E v)) w ∧ v.kb s.nx := by
  rcases vF_ok (P := X.P) h with h | h
  · exact sval_ok htt hs h
  · exact xval_ok htt hs h
theorem vl2_ok (htt : TTOk X.P tt) : VlOk X (vl2 X.P tt) := by
  refine ⟨fun _ _ _ _ _ _ => rfl, fun s E F w a o v hs h => ?_⟩
  unfold vl2 at h
  split at h
  · rename_i u hu
    cases h
    exact iv_ok htt hs hu
  · exact (vlOf_ok htt).2 s E F w a o v hs h
theorem Sat.noV {E F w a} (hs : Sat X s E F w a) : Sat X ⟨s.L, s.M, [], s.nx⟩ E F w a := hs.weaken rfl (fun _ _ h => h) (fun _ _ h => h) (fun _ _ h => nomatch h)
theorem Stp.noV {o : Oper} {s1 : St} (h : Stp X o s s1) : Stp X o s ⟨s1.L, s1.M, [], s1.nx⟩ := fun E F w a hs =>
  Oper.wp_imp (fun _ _ ⟨E', F', h⟩ => ⟨E', F', h.noV⟩) (h E F w a hs)
theorem WP.noV {k : List Item} (h : WP X k ⟨s.L, s.M, [], s.nx⟩) : WP X k s := fun E F w a hs => h E F w a hs.noV
theorem op1_ok (htt : TTOk X.P tt) (hc : CalOk X.P call) (hx : ExtOk X.P ext) {o : Oper} (h : (opI X.P tt ext X.fn.ntmps o).run call K L M nx = some s') :
    ∃ L1 M1 n1, Stp X o ⟨L, M, [], nx⟩ ⟨L1, M1, [], n1⟩ ∧ K L1 M1 n1 = some s' := by
  have hgen : ∀ {sl : ISl}, (∀ s1, sl.run call ⟨L, M, [], nx⟩ = some s1 → Stp X o ⟨L, M, [], nx⟩ s1) → goS K (sl.run call ⟨L, M, [], nx⟩) = some s' → ∃ L1 M1 n1, Stp X o ⟨L, M, [], nx⟩ ⟨L1, M1, [], n1⟩ ∧ K L1 M1 n1 = some s' := fun hsl h => by
    obtain ⟨s1, h1, h2⟩ := goS_ok h
    exact ⟨_, _, _, (hsl s1 h1).noV, h2⟩
  have hev : ∀ s1, (ISl.mk (oGn X.P tt ext X.fn.ntmps o)).run call ⟨L, M, [], nx⟩ = some s1 → Stp X o ⟨L, M, [], nx⟩ s1 := fun s1 h => evOp_ok htt hc hx h
  unfold opI at h
  cases hv : isVl o.op with
  | true =>
    rw [hv] at h
    simp only [cond_true] at h
    split at h
    · rename_i d hd
      cases hb : Nat.blt d X.fn.ntmps with
      | false => rw [hb] at h; exact hgen hev h
      | true =>
        rw [hb] at h
        simp only [cond_true, rV] at h
        cases hv : (vF tt o.op).run L M with
        | some v =>
          rw [hv] at h
          refine ⟨_, _, _, Stp.val (v := v) (fun E F w a hs => iv_ok htt hs hv) ?_, h⟩
          unfold setd
          rw [hd]
          simp only [hb, cond_true]
        | none => rw [hv] at h; exact hgen hev h
    · exact hgen hev h
  | false =>
    rw [hv] at h
    simp only [cond_false] at h
    split at h
    · rename_i ho
      exact hgen (fun s1 h1 => xeCall_ok hc hx ho h1) h
    · exact hgen hev h
theorem gV_ok {j c : Nat} {w b : Bool} {o : Oper} (hg : o.guard = some (j, w)) (hc : gSt ops j = some c) (h : gV w (lookF L c) = some b) : guardV ops L o = some b := by
  rw [lookF_eq] at h
  unfold gSt at hc
  split at hc
  · rename_i oj hoj
    unfold guardV
    simp only [hg, hoj, hc]
    unfold gV at h
    split at h
    · rename_i t ht
      rw [ht]
      cases t <;> exact h
    · rename_i ht; rw [ht]; exact h
    · cases h
  · cases hc
theorem runL_cons {o : IOp} {l : List IOp} : runL call K (o :: l) L M nx = o.run call (runL call K l) L M nx := rfl
theorem runG_ok (htt : TTOk X.P tt) (hc : CalOk X.P call) (hx : ExtOk X.P ext) (hk : ∀ L M nx, K L M nx = some s' → WPr X ops [] todo ⟨L, M, [], nx⟩) : ∀ (l : List Oper) (i : Nat) {L : List (Nat × SV)} {M : List (Nat × MO)} {nx : Nat}, ops.toList.drop i = l →
    runL call K (gdL X.P tt ext X.fn.ntmps ops l) L M nx = some s' → WPr X ops (List.range' i l.length) todo ⟨L, M, [], nx⟩
  | [], i, L, M, nx, _, h => hk _ _ _ h
  | o :: r, i, L, M, nx, hl, h => by
    have ho : ops[i]? = some o := by
      have := congrArg (fun z => z[0]?) hl
      simpa using this
    have hr : ops.toList.drop (i + 1) = r := by
      rw [← List.drop_drop, hl]; rfl
    show WPr X ops (List.range' i (r.length + 1)) todo _
    rw [List.range'_succ]
    unfold gdL at h
    rw [runL_cons] at h
    have ih := fun {L M nx} => runG_ok htt hc hx hk r (i + 1) (L := L) (M := M) (nx := nx) hr
    have hgen : goS (runL call K (gdL X.P tt ext X.fn.ntmps ops r)) (oGd X.P tt ext X.fn.ntmps ops o call ⟨L, M, [], nx⟩) = some s' → WPr X ops (i :: List.range' (i + 1) r.length) todo ⟨L, M, [], nx⟩ := fun h => by
      obtain ⟨s1, h1, h2⟩ := goS_ok h
      unfold oGd at h1
      split at h1
      · rename_i hg
        exact WPr.op ho hg (evOp_ok htt hc hx h1).noV (ih h2)
      · rename_i hg
        split at h1
        · rename_i d hd
          cases hb : Nat.blt d X.fn.ntmps with
          | false => rw [hb] at h1; cases h1
          | true =>
            rw [hb] at h1; cases h1
            exact WPr.skip ho hg hd (blt_lt hb) (ih h2)
        · rename_i hd
          cases h1
          exact WPr.skip0 ho hg hd (ih h2)
      · cases h1
    unfold gdI at h
    split at h
    · rename_i hg
      obtain ⟨L1, M1, n1, hst, h2⟩ := op1_ok htt hc hx h
      exact WPr.op ho (by unfold guardV; rw [hg]) hst (ih h2)
    · rename_i j w hg
      split at h
      · rename_i c hcc
        split at h
        · rename_i t hd
          cases hb : Nat.blt t X.fn.ntmps with
          | false => rw [hb] at h; exact hgen h
          | true =>
            rw [hb] at h
            simp only [cond_true, rG] at h
            cases hgv : gV w (lookF L c) with
            | none => rw [hgv] at h; cases h
            | some b =>
              rw [hgv] at h
              have hgv := gV_ok hg hcc hgv
              cases b with
              | true =>
                obtain ⟨L1, M1, n1, hst, h2⟩ := op1_ok htt hc hx h
                exact WPr.op ho hgv hst (ih h2)
              | false => exact WPr.skip ho hgv hd (blt_lt hb) (ih h)
        · exact hgen h
      · exact hgen h
theorem stI_ok {o : Oper} (h : (stI X.P tt ext X.fn.ntmps ops o).run call K L M nx = some s') : ∃ dl L1 M1 n1, SR (clsOf tt) (vl2 X.P tt) (evOp X.P tt call ext X.fn.ntmps) X.fn.ntmps ops o ⟨L, M, [], nx⟩ dl ⟨L1, M1, [], n1⟩ ∧ K L1 M1 n1 = some s' := by
  have hgen : goS K (sGo X.P tt ext X.fn.ntmps ops o call ⟨L, M, [], nx⟩) = some s' → ∃ dl L1 M1 n1, SR (clsOf tt) (vl2 X.P tt) (evOp X.P tt call ext X.fn.ntmps) X.fn.ntmps ops o ⟨L, M, [], nx⟩ dl ⟨L1, M1, [], n1⟩ ∧ K L1 M1 n1 = some s' := fun h => by
    obtain ⟨s1, h1, h2⟩ := goS_ok h
    obtain ⟨dl, hd⟩ := stepS_ok h1
    obtain ⟨L1, M1, V1, n1⟩ := s1
    have : V1 = [] := hd.2.1
    subst this
    exact ⟨dl, _, _, _, hd, h2⟩
  unfold stI at h
  split at h
  · rename_i hg
    cases hv : (isVl o.op && !(Nat.beq (clsOf tt o.op) 2)) with
    | false => rw [hv] at h; exact hgen h
    | true =>
      rw [hv] at h
      simp only [cond_true] at h
      split at h
      · rename_i d hd
        cases hb : Nat.blt d X.fn.ntmps with
        | false => rw [hb] at h; exact hgen h
        | true =>
          rw [hb] at h
          simp only [cond_true, rD] at h
          rw [pickF_eq] at h
          rw [show (Bool.rec (motive := fun _ => List (Nat × MO)) M [] (Nat.beq (clsOf tt o.op) 0)) = (bif Nat.beq (clsOf tt o.op) 0 then [] else M) by cases Nat.beq (clsOf tt o.op) 0 <;> rfl] at h
          cases hval : (vF tt o.op).run (pickL L (readsOf ops o)) (bif Nat.beq (clsOf tt o.op) 0 then [] else M) with
          | some v =>
            rw [hval] at h
            rw [Bool.and_eq_true, Bool.not_eq_true'] at hv
            refine ⟨[(d, v)], _, _, _, ⟨rfl, rfl, by rw [hd]; rfl, _, fun d v => pickL_ok, .inr (.inl ⟨by unfold guardV; rw [hg], fun e => ?_, rfl, rfl, d, v, hd, blt_lt hb, rfl, ?_⟩)⟩, h⟩
            · rw [e] at hv; exact absurd hv.2 (by decide)
            · unfold vl2
              simp only [hval]
          | none => rw [hval] at h; exact hgen h
      · exact hgen h
  · exact hgen h
theorem runS_ok : ∀ {l : List Oper} {L : List (Nat × SV)} {M : List (Nat × MO)} {nx : Nat}, runL call K (stL X.P tt ext X.fn.ntmps ops l) L M nx = some s' →
    ∃ (sT : Nat → St) (dlf : Nat → List (Nat × SV)) (L1 : List (Nat × SV)) (M1 : List (Nat × MO)) (n1 : Nat), sT 0 = ⟨L, M, [], nx⟩ ∧ sT l.length = ⟨L1, M1, [], n1⟩ ∧
      (∀ i o, l[i]? = some o → SR (clsOf tt) (vl2 X.P tt) (evOp X.P tt call ext X.fn.ntmps) X.fn.ntmps ops o (sT i) (dlf i) (sT (i + 1))) ∧ K L1 M1 n1 = some s'
  | [], L, M, nx, h => ⟨fun _ => ⟨L, M, [], nx⟩, fun _ => [], L, M, nx, rfl, rfl, fun i o h => by simp at h, h⟩
  | o :: r, L, M, nx, h => by
    unfold stL at h
    rw [runL_cons] at h
    obtain ⟨dl, L1, M1, n1, hd, h1⟩ := stI_ok h
    obtain ⟨sT, dlf, L2, M2, n2, e0, e1, hT, h2⟩ := runS_ok h1
    refine ⟨fun | 0 => ⟨L, M, [], nx⟩ | i + 1 => sT i, fun | 0 => dl | i + 1 => dlf i, L2, M2, n2, rfl, e1, fun i o' ho => ?_, h2⟩
    cases i with
    | zero => simp at ho; subst ho; show SR _ _ _ _ ops o _ dl (sT 0); rw [e0]; exact hd
    | succ i => exact hT i o' (by simpa using ho)
theorem cDs_ok (htt : TTOk X.P tt) (hc : CalOk X.P call) (hx : ExtOk X.P ext) (hm : X.P.follows .mixedOrders = true) {id : Nat} {k' : List Item} (hst : stAll (clsOf tt) ops ops.toList [] [] = true)
    (h : runL call K (stL X.P tt ext X.fn.ntmps ops ops.toList) L M nx = some s') (hk : ∀ L M nx, K L M nx = some s' → WP X k' ⟨L, M, [], nx⟩) : WP X (.code (.region id ops true) :: k') ⟨L, M, [], nx⟩ := by
  intro E F w a hs
  obtain ⟨sT, dlf, L1, M1, n1, e0, e1, hT, h2⟩ := runS_ok h
  have k := hk _ _ _ h2
  have e1 : sT ops.size = ⟨L1, M1, [], n1⟩ := by rw [← e1, Array.length_toList]
  refine runs_of_wp (wp_region_any hm ?_)
  have hs' : Sat X ⟨L, M, [], nx⟩ E F { w with drawn := w.drawn + 1 } a := hs.world rfl rfl rfl (Nat.le_refl _) fun _ _ => rfl
  have hf : ∀ j, (Array.replicate ops.size false).getD j false = false := fun j => by
    by_cases h : j < ops.size <;> simp [h]
  refine regionS_aux (todo := rk X k') (vl2_ok htt) (fun nk E0 F0 w0 n0 Z o s s' h => evOp_ok (X := X.var nk E0 F0 w0 n0 Z) htt hc hx h) (StOk.of hst) (fun i o ho => hT i o (by simpa using ho)) e0 (fun E F w a hs => k E F w a (by rw [e1] at hs; exact hs)) ops.size _ E F _ a (by simp)
    (fun i _ hi => by rw [hf] at hi; cases hi) (cnt_false fun j _ => hf j) ?_
  have hz : mxF (clsOf tt) ops (fun _ => false) ops.size = 0 := by
    have : ∀ n, mxF (clsOf tt) ops (fun _ => false) n = 0 := fun n => by
      induction n with
      | zero => rfl
      | succ n ih => simp [mxF, ih]
    exact this _
  have : sD (clsOf tt) ops ⟨L, M, [], nx⟩ sT dlf (fun j => (Array.replicate ops.size false).getD j false) = ⟨L, M, [], nx⟩ := by
    unfold sD
    rw [show (fun j => (Array.replicate ops.size false).getD j false) = fun _ => false from funext hf, gath_false, hz, e0]
  rw [this]
  exact hs'
theorem subF_look {α : Type _} : ∀ {l : List (Nat × α)} {seen k : Nat} {v : α}, look (subF l seen) k = some v → look l k = some v ∧ Nat.testBit seen k = false
  | [], _, _, _, h => by cases h
  | (j, u) :: r, seen, k, v, h => by
    have hb0 : Nat.beq (Nat.land 1 (Nat.shiftRight seen j)) 0 = !(Nat.testBit seen j) := by
      have e1 : Nat.testBit seen j = (Nat.land 1 (Nat.shiftRight seen j) != 0) := rfl
      rw [e1]
      generalize Nat.land 1 (Nat.shiftRight seen j) = z
      cases z with
      | zero => rfl
      | succ z => rfl
    have h : look (Bool.rec (motive := fun _ => List (Nat × α)) (subF r seen) ((j, u) :: subF r (Nat.lor seen (Nat.pow 2 j))) (Nat.beq (Nat.land 1 (Nat.shiftRight seen j)) 0)) k = some v := h
    rw [hb0] at h
    cases hb : Nat.testBit seen j with
    | false =>
      rw [hb] at h
      have h : look ((j, u) :: subF r (Nat.lor seen (Nat.pow 2 j))) k = some v := h
      rw [look_cons] at h ⊢
      split at h
      · rename_i e; cases h; subst e; simp [hb]
      · rename_i e
        obtain ⟨h1, h2⟩ := subF_look h
        have h2' : Nat.testBit (seen ||| 2 ^ j) k = false := h2
        rw [Nat.testBit_or, Bool.or_eq_false_iff] at h2'
        rw [if_neg e]
        exact ⟨h1, h2'.1⟩
    | true =>
      rw [hb] at h
      have h : look (subF r seen) k = some v := h
      obtain ⟨h1, h2⟩ := subF_look h
      rw [look_cons]
      have : j ≠ k := fun e => by subst e; rw [h2] at hb; cases hb
      rw [if_neg this]
      exact ⟨h1, h2⟩
theorem evItF_ok (htt : TTOk X.P tt) (hc : CalOk X.P call) (hx : ExtOk X.P ext) (hm : X.P.follows .mixedOrders = true) (h1 : ∀ k', WP X (.code .ret :: k') s') (h0 : WP X [] s') :
    ∀ (n : Nat) {k : List Item} {L : List (Nat × SV)} {M : List (Nat × MO)} {nx m : Nat}, evItF X.P tt ext X.fn.ntmps call n k L M nx m = some s' → WP X k ⟨L, M, [], nx⟩ := by
  intro n
  induction n with
  | zero => intro k L M nx m h; cases h
  | succ n ih =>
    intro k L M nx m h
    cases k with
    | nil => cases h; exact h0
    | cons it k' =>
      replace h : (itI X.P tt ext X.fn.ntmps it).run call (evItF X.P tt ext X.fn.ntmps call n) k' L M nx m = some s' := h
      unfold itI at h
      split at h
      · exact WP.inBlock (ih h)
      · simp only [cLo] at h
        split at h
        · refine WP.inLoop fun E F w a hs => ih h E F w a (hs.weaken rfl (fun _ _ h => (subF_look h).1) (fun _ _ h => (subF_look h).1) (fun _ _ h => h))
        · exact WP.inLoop (ih h)
      · unfold coI at h
        split at h
        · exact WP.skip (ih h)
        · exact WP.label (ih h)
        · exact WP.seq (ih h)
        · simp only [cCd] at h
          rename_i d x y
          cases ht : asB (lookF L d) with
          | none => rw [ht] at h; cases h
          | some t =>
            rw [ht] at h
            rw [lookF_eq] at ht
            cases t with
            | true => exact WP.condT rfl (asB_ok ht) (ih h)
            | false => exact WP.condF rfl (asB_ok ht) (ih h)
        · exact WP.condCT (ih h)
        · exact WP.condCF (ih h)
        · exact WP.block (ih h)
        · simp only [cEx] at h
          split at h
          · rename_i k2 he; exact WP.exit he (ih h)
          · cases h
        · exact WP.loop (ih h)
        · cases h; exact h1 _
        · rename_i ops
          refine WP.region ?_
          have := runG_ok (todo := rk X k') (ops := ops) htt hc hx (fun L M nx hK => WPr.nil (ih hK)) ops.toList 0 rfl h
          rw [Array.length_toList, ← List.range_eq_range'] at this
          exact this
        · rename_i ops
          cases hst : stAll (clsOf tt) ops ops.toList [] [] with
          | true =>
            rw [hst] at h
            exact cDs_ok htt hc hx hm hst h fun L M nx hK => ih hK
          | false =>
            rw [hst] at h
            obtain ⟨s1, h1', h2⟩ := goS_ok h
            exact evDrawn_ok htt hc hx hm h1' (WP.noV (ih h2))
        · cases h
      · cases h
theorem keepF_ok {nx m : Nat} {p : Nat → Bool} (hp : ∀ k, p k = (Nat.blt k nx || !(Nat.beq (Nat.land 1 (Nat.shiftRight m k)) 0))) : ∀ M : List (Nat × MO), keepF nx m M = M.filter fun q => p q.1
  | [] => rfl
  | q :: r => by
    rw [List.filter_cons, ← keepF_ok hp r, hp]
    show (Bool.rec (motive := fun _ => List (Nat × MO)) (Bool.rec (motive := fun _ => List (Nat × MO)) (q :: keepF nx m r) (keepF nx m r) (Nat.beq (Nat.land 1 (Nat.shiftRight m q.1)) 0)) (q :: keepF nx m r) (Nat.blt q.1 nx)) = _
    cases Nat.blt q.1 nx <;> cases Nat.beq (Nat.land 1 (Nat.shiftRight m q.1)) 0 <;> rfl
theorem gc2_look {n0 nx : Nat} {v : SV} {M : List (Nat × MO)} {k : Nat} {m : MO} (h : look (gc2 n0 nx v M) k = some m) : look M k = some m := by
  unfold gc2 at h
  cases hb : longer M (Nat.add n0 30) with
  | true =>
    rw [hb] at h
    simp only [cond_true, gcF] at h
    rw [keepF_ok (fun _ => rfl), look_filter (p := fun k => Nat.blt k nx || !(Nat.beq (Nat.land 1 (Nat.shiftRight _ k)) 0))] at h
    generalize (Nat.blt k nx || !(Nat.beq (Nat.land 1 (Nat.shiftRight (markF (subF M 0) 1000000 (lsKeys (svCs v) ++ keysB nx (subF M 0)) 0) k)) 0)) = b at h
    cases b with
    | true => exact (subF_look h).1
    | false => cases h
  | false => rw [hb] at h; exact h
theorem noFr_eq : ∀ M : List (Nat × MO), noFr M = M.all fun q => !q.2.isFresh
  | [] => rfl
  | q :: r => by
    show (bif q.2.isFresh then false else noFr r) = _
    rw [noFr_eq r, List.all_cons]
    cases q.2.isFresh <;> rfl
end
theorem evCallF_ok {P : Program} {tt : List (Nat × TD)} {ft : FuncId → Option (Func × Code)} {ext : Xt} {T : Cal} (hT : CalOk P T) (htt : TTOk P tt) (hft : FtOk P ft) (hx : ExtOk P ext) (hm : P.follows .mixedOrders = true) (fuel : Nat) :
    ∀ n, CalOk P (evCallF P tt ft ext T fuel n) := by
  intro n
  induction n with
  | zero => intro f args M V nx v M' V' nx' h; cases h
  | succ n ih =>
    intro f args M V nx v M' V' nx' h
    unfold evCallF at h
    split at h
    · rename_i r hr
      cases h
      exact hT _ _ _ _ _ _ _ _ _ hr
    split at h
    · rename_i fn body hf
      obtain ⟨hpf, hpb, hpn⟩ := hft _ _ _ hf
      cases hb : (Nat.ble args.length fn.ntmps && noFr M) with
      | false => rw [hb] at h; cases h
      | true =>
        rw [hb] at h
        simp only [cond_true] at h
        rw [Bool.and_eq_true, noFr_eq] at hb
        split at h
        · rename_i s1 hs1
          split at h
          · rename_i v1 hv1
            cases hle : Nat.ble nx s1.nx with
            | false => rw [hle] at h; cases h
            | true =>
              rw [hle] at h
              simp only [cond_true, Option.some.injEq, Prod.mk.injEq] at h
              obtain ⟨rfl, rfl, rfl, rfl⟩ := h
              refine ⟨⟨fn, hpf, hpn, by rw [hpb]; rfl⟩, fun E F w hwf hp => ?_⟩
              intro cs
              let X : Ctx := { (ctOf args M V nx v1 (gc2 (lenF M) nx v1 s1.M) s1.V s1.nx).ctx P f fn E F w with
                post := fun v w' => ∃ E' F', v = denV E' v1 ∧ (ctOf args M V nx v1 (gc2 (lenF M) nx v1 s1.M) s1.V s1.nx).Post E F w E' F' w' ∧ St.Wf ⟨[(0, v1)], gc2 (lenF M) nx v1 s1.M, s1.V, s1.nx⟩ ∧ nx ≤ s1.nx }
              let b : Frame := { (default : Frame) with fn := f, kind := .normal }
              let a : Act := { tmps := (args.map (denV E)).toArray ++ Array.replicate (fn.ntmps - (args.map (denV E)).toArray.size) undef, defers := [] }
              have henter : Frame.enter P f (args.map (denV E)).toArray .normal = b.at a [.code body] := by
                simp [Frame.enter, Frame.at, hpf, hpb, b, a]
              have hle' := Nat.le_of_ble_eq_true hb.1
              have hs : Sat X ⟨numL 0 args, M, V, nx⟩ E F w a := {
                wf := hwf
                nk := Nat.le_refl _
                defers := rfl
                size := by show (_ ++ _ : Array Value).size = fn.ntmps; simp; omega
                hL := fun d v hl => by
                  obtain ⟨i, rfl, hi⟩ := look_numL _ _ _ _ hl
                  show (_ ++ _ : Array Value)[0 + i]? = _
                  have hlt : i < args.length := (List.getElem?_eq_some_iff.1 hi).1
                  rw [Nat.zero_add, Array.getElem?_append_left (by simpa using hlt)]
                  simp [hi]
                hV := hp.V
                hM := hp.M
                dis := hp.dis
                mF := fun k m hm b' hb' => ⟨(hp.mF k m hm b' hb').1, fun hz => hz.2 ⟨k, m, hm, hb'⟩, (hp.mF k m hm b' hb').2⟩
                fresh := fun k m hm hfr => by
                  have := List.all_eq_true.1 hb.2 _ (look_mem hm)
                  simp [hfr] at this
                hF := hp.hF
                hF0 := fun _ h => h
                hF1 := fun _ h => .inl h
                hn0 := Nat.le_refl _
                hZ := fun b' hz => hz.1
                ext := Ext.refl _ _
                link := Env.Eqb.refl _ _
                one := hp.one }
              have hpost : ∀ E' F' w' a', Sat X s1 E' F' w' a' → X.post (denV E' v1) w' := fun E' F' w' a' hs' => by
                have hvk : v1.kb s1.nx := resV_kb (X := X) hs' hv1
                refine ⟨E', F', rfl, ?_, ⟨fun d u hd => ?_, fun k m hk => hs'.wf.hM k m (gc2_look hk), hs'.wf.hV⟩, Nat.le_of_ble_eq_true hle⟩
                · exact {
                    env := hs'.link
                    one := hs'.one
                    V := hs'.hV
                    M := fun k m hk => hs'.hM k m (gc2_look hk)
                    dis := fun k k' m m' hk hk' => hs'.dis k k' m m' (gc2_look hk) (gc2_look hk')
                    mF := fun k m hk b hb => by
                      have := hs'.mF k m (gc2_look hk) b hb
                      refine ⟨this.1, this.2.2, ?_⟩
                      by_cases hz : b < w.heap.size
                      · left
                        exact Classical.byContradiction fun hnz => this.2.1 ⟨hz, hnz⟩
                      · exact .inr (Nat.not_lt.1 hz)
                    fresh := fun k m hk hf b hb => hs'.fresh k m (gc2_look hk) hf b hb
                    F0 := hs'.hF0
                    F1 := fun b hb => (hs'.hF1 b hb).imp id And.left
                    Fs := hs'.hF
                    ext := hs'.ext }
                · rw [look_cons] at hd
                  split at hd
                  · cases hd; exact hvk
                  · cases hd
              have hw := evItF_ok (X := X) htt ih hx hm (s' := s1) (fun k' E' F' w' a' hs' => runs_ret hpf (resV_ok (X := X) htt hs' hv1) hs'.defers (hpost E' F' w' a' hs'))
                (fun E' F' w' a' hs' => runs_end hpf (resV_ok (X := X) htt hs' hv1) hs'.defers (hpost E' F' w' a' hs')) fuel hs1
              obtain ⟨v, w', fr, hR, hst, hfn, hl⟩ := hw E F w a hs.noV b cs rfl rfl
              rw [← henter] at hst
              obtain ⟨E', F', hv, hpost⟩ := hR
              exact ⟨.returned v, w', fr, ⟨E', F', by rw [hv], hpost⟩, hst, hfn, hl⟩
          · cases h
        · cases h
    · cases h
end Go.Kx
end
section
namespace Go.Kx
structure Sm where
  f : Nat
  args : List SV
  M : List (Nat × MO)
  nx : Nat
  v : SV
  M1 : List (Nat × MO)
  n1 : Nat
def argsEq : List SV → List SV → Bool
  | [], [] => true
  | x :: xs, y :: ys => svEq x y && argsEq xs ys
  | _, _ => false
theorem argsEq_ok : ∀ {xs ys : List SV}, argsEq xs ys = true → xs = ys
  | [], [], _ => rfl
  | x :: xs, y :: ys, h => by
    simp only [argsEq, Bool.and_eq_true] at h
    rw [svEq_ok h.1, argsEq_ok h.2]
  | [], _ :: _, h => by cases h
  | _ :: _, [], h => by cases h
noncomputable def memIn (M : List (Nat × MO)) : List (Nat × MO) → Bool
  | [] => true
  | (k, m) :: r => moEqO (lookF M k) m && memIn M r
theorem memIn_ok {M : List (Nat × MO)} : ∀ {N : List (Nat × MO)}, memIn M N = true → ∀ k m, look N k = some m → look M k = some m
  | [], _, k, m, h => by cases h
  | (j, u) :: r, h, k, m, hk => by
    simp only [memIn, Bool.and_eq_true] at h
    rw [look_cons] at hk
    split at hk
    · rename_i e; cases hk; subst e
      rw [← lookF_eq]; exact moEqO_ok h.1
    · exact memIn_ok h.2 k m hk
def noC : Cal := fun _ _ _ _ _ => none
theorem noC_ok {P : Program} : CalOk P noC := fun _ _ _ _ _ _ _ _ _ h => nomatch h
noncomputable def smC (e : Sm) (rest : Cal) : Cal := fun f args M V nx => bif Nat.beq f e.f && Nat.beq nx e.nx && argsEq args e.args && memIn M e.M then some (e.v, e.M1, [], e.n1) else rest f args M V nx
noncomputable def smB (call : Cal) (e : Sm) : Bool := match call e.f e.args e.M [] e.nx with
  | some (v, M1, _, n1) => svEq v e.v && memIn M1 e.M1 && Nat.beq n1 e.n1
  | none => false
theorem smC_ok {P : Program} {call rest : Cal} {e : Sm} (hc : CalOk P call) (hb : smB call e = true) (hr : CalOk P rest) : CalOk P (smC e rest) := by
  intro f args M V nx v M' V' nx' h
  unfold smC at h
  cases hq : (Nat.beq f e.f && Nat.beq nx e.nx && argsEq args e.args && memIn M e.M) with
  | false => rw [hq] at h; exact hr _ _ _ _ _ _ _ _ _ h
  | true =>
    rw [hq] at h
    simp only [cond_true, Option.some.injEq, Prod.mk.injEq] at h
    obtain ⟨rfl, rfl, rfl, rfl⟩ := h
    simp only [Bool.and_eq_true] at hq
    obtain ⟨⟨⟨q1, q2⟩, q3⟩, q4⟩ := hq
    have q1 := Nat.eq_of_beq_eq_true q1
    have q2 := Nat.eq_of_beq_eq_true q2
    have q3 := argsEq_ok q3
    have q4 := memIn_ok q4
    subst q1 q2 q3
    unfold smB at hb
    split at hb
    · rename_i v1 M1 V1 n1 he
      simp only [Bool.and_eq_true] at hb
      obtain ⟨⟨b1, b2⟩, b3⟩ := hb
      have b1 := svEq_ok b1
      have b2 := memIn_ok b2
      have b3 := Nat.eq_of_beq_eq_true b3
      subst b1 b3
      obtain ⟨hcb, hcs⟩ := hc _ _ _ _ _ _ _ _ _ he
      refine ⟨hcb, fun E F w hwf hp => ?_⟩
      refine (hcs E F w ⟨hwf.hL, fun k m hk => hwf.hM k m (q4 k m hk), fun k f hk => (nomatch hk)⟩
        ⟨hp.one, hp.hF, fun k f hk => (nomatch hk), fun k m hk => hp.M k m (q4 k m hk), fun k k' m m' hk hk' => hp.dis k k' m m' (q4 k m hk) (q4 k' m' hk'), fun k m hk => hp.mF k m (q4 k m hk)⟩).mono ?_
      rintro ex w' ⟨E', F', rfl, hq, hwf', hle⟩
      have hfp : ∀ b, (ctOf e.args e.M [] e.nx e.v M1 V1 e.n1).fp0 E b → (ctOf e.args M V e.nx e.v e.M1 [] e.n1).fp0 E b := fun b ⟨k, m, hk, hb⟩ => ⟨k, m, q4 k m hk, hb⟩
      refine ⟨E', F', rfl, ?_, ⟨hwf'.hL, fun k m hk => hwf'.hM k m (b2 k m hk), fun k f hk => (nomatch hk)⟩, hle⟩
      exact {
        env := hq.env
        one := hq.one
        V := fun k f hk => (nomatch hk)
        M := fun k m hk => hq.M k m (b2 k m hk)
        dis := fun k k' m m' hk hk' => hq.dis k k' m m' (b2 k m hk) (b2 k' m' hk')
        mF := fun k m hk b hb => by
          obtain ⟨h1, h2, h3⟩ := hq.mF k m (b2 k m hk) b hb
          exact ⟨h1, h2, h3.imp (hfp b) id⟩
        fresh := fun k m hk => hq.fresh k m (b2 k m hk)
        F0 := hq.F0
        F1 := hq.F1
        Fs := hq.Fs
        ext := hq.ext.mono fun b hz => ⟨hz.1, fun hn => hz.2 (hfp b hn)⟩ }
    · cases hb
end Go.Kx
end
