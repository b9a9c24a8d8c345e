/- Aids for the walks, part 3: a symbolic state of the machine, and that each step of the machine keeps it. -/
import Derived.WalkKit
import Derived.ProofKit
import Derived.OpenShut
import Derived.JoinedCond
import Derived.Deep.DeepHandedRow
import Derived.Test.YtenajajnbmfijaaGreatDoorGlobalSearchCore2
set_option linter.all false
section
/- Views of the call's own slices, copies, entries without a body. -/
namespace Go.Kx
theorem RowL.take {α : Type} {R : TRep α} {F w} {xs : List α} {ns : List Value} (h : RowL R F w xs ns) {m : Nat} (hm : m ≤ xs.length) : RowL R F w (xs.take m) (ns.take (m * R.sz)) := by
  have hle : m * R.sz ≤ xs.length * R.sz := Nat.mul_le_mul_right _ hm
  refine ⟨by rw [List.length_take, List.length_take, h.1, Nat.min_eq_left hle, Nat.min_eq_left hm], fun i x hx => ?_⟩
  rw [List.getElem?_take] at hx
  split at hx
  · rename_i him
    obtain ⟨vs, hr, hv⟩ := h.2 i x hx
    refine ⟨vs, hr, fun j v hj => ?_⟩
    have hjl := (List.getElem?_eq_some_iff.1 hj).1
    rw [R.len hr] at hjl
    have : (i + 1) * R.sz ≤ m * R.sz := Nat.mul_le_mul_right _ him
    rw [Nat.add_mul] at this
    rw [List.getElem?_take, if_pos (by omega)]
    exact hv j v hj
  · cases hx
theorem RowL.drop {α : Type} {R : TRep α} {F w} {xs : List α} {ns : List Value} (h : RowL R F w xs ns) (m : Nat) : RowL R F w (xs.drop m) (ns.drop (m * R.sz)) := by
  refine ⟨by rw [List.length_drop, List.length_drop, h.1, Nat.sub_mul], fun i x hx => ?_⟩
  rw [List.getElem?_drop] at hx
  obtain ⟨vs, hr, hv⟩ := h.2 (m + i) x hx
  refine ⟨vs, hr, fun j v hj => ?_⟩
  have := hv j v hj
  rw [List.getElem?_drop, show m * R.sz + (i * R.sz + j) = (m + i) * R.sz + j by rw [Nat.add_mul]; omega]
  exact this
def hiN (h : Option Int) (len : Nat) : Nat := match h with | some h => h.toNat | none => len
theorem vwf_slice (l h : Option Int) (sz : Nat) (b : Option Addr) (len cap : Nat) :
    vwf l h sz (.slice b len cap) = .slice (if cap = (l.getD 0).toNat then b else b.map (·.add ((l.getD 0).toNat * sz))) (hiN h len - (l.getD 0).toNat) (cap - (l.getD 0).toNat) := by cases h <;> rfl
theorem bnd_hi {lo hi : Option Int} {len : Nat} {p : Nat × Nat} (h : bnd lo hi len = some p) : p.1 = (lo.getD 0).toNat ∧ p.2 = hiN hi len := by
  obtain ⟨_, _, _, q4⟩ := bnd_ok h
  rw [q4]
  cases hi <;> simp [hiN]
theorem OwnR.sub {α : Type} {R : TRep α} {F w} {xs : List α} {v : Value} {l h : Option Int} {p : Nat × Nat} (ho : OwnR R F w xs v) (hb : bnd l h xs.length = some p) :
    OwnR R F w ((xs.take p.2).drop p.1) (vwf l h R.sz v) := by
  obtain ⟨q1, q2, q3, q4⟩ := bnd_ok hb
  obtain ⟨hp1, hp2⟩ := bnd_hi hb
  have hle : p.1 ≤ p.2 := by rw [q4]; simp; omega
  have hle2 : p.2 ≤ xs.length := by rw [q4]; simp; omega
  have hlen : ((xs.take p.2).drop p.1).length = p.2 - p.1 := by simp; omega
  rcases ho with ⟨rfl, rfl⟩ | ⟨b, off, cap, arr, el, fz, rfl, hc, hs, ht, hh, hr⟩
  · simp at hle2
    refine .inl ⟨by simp, ?_⟩
    have h0 : p.1 = 0 := by omega
    have h1 : p.2 = 0 := by omega
    simp only [List.length_nil] at hp2
    rw [vwf_slice, ← hp1, ← hp2, h0, h1]
    rfl
  · rw [vwf_slice, ← hp1, ← hp2]
    by_cases he : cap = p.1
    · have h0 : (xs.take p.2).drop p.1 = [] := List.eq_nil_of_length_eq_zero (by rw [hlen]; omega)
      rw [if_pos he]
      refine .inr ⟨b, off, cap - p.1, arr, el, fz, by rw [hlen], by rw [hlen]; omega, ?_, ht, hh, by rw [h0]; exact Row.empty⟩
      have : cap - p.1 = 0 := by omega
      rw [this, Nat.zero_mul]
      exact Nat.le_trans (Nat.le_add_right _ _) hs
    · rw [if_neg he]
      refine .inr ⟨b, off + p.1 * R.sz, cap - p.1, arr, el, fz, by rw [hlen]; simp [addr_add], by rw [hlen]; omega, ?_, ht, hh, hr.sub p.1 p.2⟩
      have : p.1 * R.sz + (cap - p.1) * R.sz = cap * R.sz := by rw [← Nat.add_mul]; congr 1; omega
      omega
theorem blockOf_vwf {l h : Option Int} {sz b : Nat} {v : Value} (hb : blockOf (vwf l h sz v) = some b) : blockOf v = some b := by
  unfold vwf at hb
  split at hb
  · rename_i a len cap
    have hadd : ∀ (a : Addr) n, (a.add n).block = a.block := fun a n => by unfold Addr.add; split <;> rfl
    cases a with
    | none => split at hb <;> cases hb
    | some a =>
      split at hb
      · exact hb
      · simp only [Option.map_some, blockOf, Option.some.injEq, hadd] at hb ⊢; exact hb
  · exact hb
section
variable {X : Ctx} {s : St} {ops : Array Oper} {todo : Act → World → Prop} {tt : List (Nat × TD)} {E : Env} {F : FSet} {w : World} {a : Act}
/-- A slice expression over a slice of the call's own: a view of it. -/
theorem WPr.vw {α : Type} {R : TRep α} (htt : TTOk X.P tt) {i : Nat} {rest : List Nat} {o : Oper} {t : TypeId} {td : TD} {x : Operand} {lo hi : Option Operand} {l h : Option (IntKind × Int)} {d k : Nat} {fr : Bool} {xs zs : List α}
    (hz : lsl xs (l.map (·.2)) (h.map (·.2)) = some zs) (ho : ops[i]? = some o) (hg : guardV ops s.L o = some true) (hop : o.op = .slice t x lo hi none) (hd : o.dst = some d)
    (ht : look tt t = some td) (hx : evalO s.L x = some (.c (.sl k))) (hM : look s.M k = some (.own R xs fr)) (hlo : evOI s.L lo = some l) (hhi : evOI s.L hi = some h)
    (hc : (Nat.blt d X.fn.ntmps && Nat.beq td.kd 6 && Nat.beq td.es R.sz) = true)
    (kk : WPr X ops rest todo ⟨(d, .c (.sl s.nx)) :: s.L, s.M, (s.nx, .vw k (l.map (·.2)) (h.map (·.2)) R.sz) :: s.V, s.nx + 1⟩) : WPr X ops (i :: rest) todo s := by
  refine WPr.op ho hg (fun E F w a hs => ?_) kk
  simp only [Bool.and_eq_true] at hc
  obtain ⟨⟨c1, c2⟩, c3⟩ := hc
  have c3 := Nat.eq_of_beq_eq_true c3
  obtain ⟨e1, _⟩ := hs.eval hx
  obtain ⟨el, hu, hsz⟩ := (htt.get ht).sliceOf c2
  have hsl : OwnR R F w xs (E.ρ k) := hs.hM k _ hM
  unfold Kx.lsl at hz
  rw [Option.map_eq_some_iff] at hz
  obtain ⟨p, hp, rfl⟩ := hz
  obtain ⟨q1, q2, q3, q4⟩ := bnd_ok hp
  obtain ⟨hp1, hp2⟩ := bnd_hi hp
  have hcap : ∃ b c, E.ρ k = .slice b xs.length c ∧ xs.length ≤ c := by
    rcases hsl with ⟨rfl, hv⟩ | ⟨b', off, cap, arr, el, fz, hv, hc, _⟩
    · exact ⟨none, 0, hv, Nat.le_refl _⟩
    · exact ⟨_, _, hv, hc⟩
  obtain ⟨b, c, hv, hcap⟩ := hcap
  have hrun : (execOp a.eval o).run X.P w = .ok (.value (vwf (l.map (·.2)) (h.map (·.2)) R.sz (E.ρ k))) w := by
    simp only [execOp, hop, e1, denV, den, hv, evOI_ok hs hlo, evOI_ok hs hhi, Option.map_none]
    refine exec_v ?_
    rw [run_slice_sl hu (hsz w) hcap hp, c3, vwf_slice, ← hp1, ← hp2]
  refine wp_value hrun ?_
  have hE : E.Eqb s.nx (E.setρ s.nx (vwf (l.map (·.2)) (h.map (·.2)) R.sz (E.ρ k))) := E.eqb_setρ _ _ _ (Nat.le_refl _)
  have hρ : (E.setρ s.nx (vwf (l.map (·.2)) (h.map (·.2)) R.sz (E.ρ k))).ρ s.nx = vwf (l.map (·.2)) (h.map (·.2)) R.sz (E.ρ k) := by simp [Env.setρ]
  have hk0 := (hs.wf.hM k _ hM).1
  have s1 := hs.env hE (fun j => by
    simp only [Env.setρ]; split
    · rw [hv]; rfl
    · exact hs.one j)
  have s2 := s1.addV (f := .vw k (l.map (·.2)) (h.map (·.2)) R.sz) (by
    show _ = vwf _ _ _ _
    rw [hρ, (hE k hk0).1]) (Nat.lt_succ_of_lt hk0)
  have s3 := s2.setL (d := d) (v := .c (.sl s.nx)) (Nat.lt_succ_self _) (blt_lt c1)
  simp only [denV, den] at s3
  rw [hρ] at s3
  rw [hd]
  exact ⟨_, F, s3⟩
theorem view_own {α : Type} {R : TRep α} {xs zs : List α} {l h : Option Int} {k K : Nat} {fr : Bool} (hz : lsl xs l h = some zs) (hV : look s.V K = some (.vw k l h R.sz)) (hM : look s.M k = some (.own R xs fr)) (hs : Sat X s E F w a) :
    OwnR R F w zs (E.ρ K) := by
  unfold Kx.lsl at hz
  rw [Option.map_eq_some_iff] at hz
  obtain ⟨p, hp, rfl⟩ := hz
  have h1 : E.ρ K = vwf l h R.sz (E.ρ k) := hs.hV K _ hV
  rw [h1]
  exact OwnR.sub (hs.hM k _ hM) hp
theorem srcV {α : Type} {R : TRep α} {xs zs : List α} {l h : Option Int} {k K : Nat} {fr : Bool} (hz : lsl xs l h = some zs) (hV : look s.V K = some (.vw k l h R.sz)) (hM : look s.M k = some (.own R xs fr)) : SrcOk X s R zs (.sl K) :=
  fun _ _ _ _ hs => (Rd.of_own (view_own hz hV hM hs)).src
theorem shV {α : Type} {R : TRep α} {xs zs : List α} {l h : Option Int} {k K : Nat} {fr : Bool} (hz : lsl xs l h = some zs) (hV : look s.V K = some (.vw k l h R.sz)) (hM : look s.M k = some (.own R xs fr)) :
    ∀ E F w a, Sat X s E F w a → ∃ b c, den E (.sl K) = .slice b zs.length c := fun _ _ _ _ hs => OwnR_len (view_own hz hV hM hs)
/-- From now on the view is all that is left of the slice. -/
theorem Sat.settle {α : Type} {R : TRep α} {xs zs : List α} {l h : Option Int} {k K : Nat} {fr : Bool} (hz : lsl xs l h = some zs) (hV : look s.V K = some (.vw k l h R.sz)) (hM : look s.M k = some (.own R xs fr)) (hK : look s.M K = none)
    (hs : Sat X s E F w a) : Sat X ⟨s.L, (K, .own R zs fr) :: (k, .gone) :: s.M, s.V, s.nx⟩ E F w a := by
  have h1 : E.ρ K = vwf l h R.sz (E.ρ k) := hs.hV K _ hV
  have hfp : ∀ b, (MO.own R zs fr).fp E K b → (MO.own R xs fr).fp E k b := fun b hb => by
    have hb : blockOf (E.ρ K) = some b := hb
    rw [h1] at hb
    exact blockOf_vwf hb
  exact hs.moveM (m' := .own R zs fr) hM hK (hs.wf.hV K _ hV).1 (view_own hz hV hM hs) trivial hfp (fun hf b hb => hs.fresh k _ hM hf b (hfp b hb))
theorem WPr.stl {idx : List Nat} {α : Type} {R : TRep α} {xs zs : List α} {l h : Option Int} {k : Nat} {fr : Bool} (K : Nat) (hz : lsl xs l h = some zs) (hV : look s.V K = some (.vw k l h R.sz)) (hM : look s.M k = some (.own R xs fr)) (hK : look s.M K = none)
    (kk : WPr X ops idx todo ⟨s.L, (K, .own R zs fr) :: (k, .gone) :: s.M, s.V, s.nx⟩) : WPr X ops idx todo s := fun E F w a hs => kk E F w a (hs.settle hz hV hM hK)
theorem WP.stl {k' : List Item} {α : Type} {R : TRep α} {xs zs : List α} {l h : Option Int} {k : Nat} {fr : Bool} (K : Nat) (hz : lsl xs l h = some zs) (hV : look s.V K = some (.vw k l h R.sz)) (hM : look s.M k = some (.own R xs fr)) (hK : look s.M K = none)
    (kk : WP X k' ⟨s.L, (K, .own R zs fr) :: (k, .gone) :: s.M, s.V, s.nx⟩) : WP X k' s := fun E F w a hs => kk E F w a (hs.settle hz hV hM hK)
/-- A slice of the call's own, seen as a view of itself. -/
theorem lsl_all {α : Type} (xs : List α) : lsl xs none none = some xs := by
  unfold Kx.lsl bnd
  simp
/-- copy: what stands in the slice behind it, and how many. -/
def cpL {α : Type} (xs : List α) (l h : Option Int) (ys : List α) : Option (List α × Int) := (bnd l h xs.length).map fun p =>
  (xs.take p.1 ++ ys.take (min ys.length (p.2 - p.1)) ++ xs.drop (p.1 + min ys.length (p.2 - p.1)), ((min ys.length (p.2 - p.1) : Nat) : Int))
theorem copy_ok {α : Type} {P : Program} {t t2 ty : TypeId} {td : TD} (ok : TD.Ok P t td) (hk : Nat.beq td.kd 6 = true) {R : TRep α} (hR : td.es = R.sz) {F : FSet} {w : World} {xs ys : List α} {v sv : Value} {l h : Option Int} {r : List α × Int}
    (ho : OwnR R F w xs v) (hs : Src P R F w ys sv) (hz : cpL xs l h ys = some r) (hF : ∀ b, blockOf v = some b → ¬ F b) :
    ∃ w', (Builtin.copy_ #[t, t2] ty #[vwf l h R.sz v, sv]).run P w = .ok (.int .i64 r.2) w' ∧ OwnR R F w' r.1 v ∧ w'.os = w.os ∧ w'.tape = w.tape ∧ w'.output = w.output ∧ w.heap.size ≤ w'.heap.size ∧
      (∀ b, blockOf v ≠ some b → w'.heap[b]? = w.heap[b]?) := by
  obtain ⟨i, hu, hi, hsz, _⟩ := ok.slc hk
  have hrunsz : (sizeOf td.el).run P w = .ok R.sz w := by simp [sizeOf, typeInfo, hi, hsz, hR]
  unfold cpL at hz
  rw [Option.map_eq_some_iff] at hz
  obtain ⟨p, hp, rfl⟩ := hz
  obtain ⟨q1, q2, q3, q4⟩ := bnd_ok hp
  obtain ⟨hp1, hp2⟩ := bnd_hi hp
  have hle : p.1 ≤ p.2 := by rw [q4]; simp; omega
  have hle2 : p.2 ≤ xs.length := by rw [q4]; simp; omega
  obtain ⟨ns, hrow, hlen, hfc, hone⟩ := hs
  let n := min ys.length (p.2 - p.1)
  have hn1 : n ≤ ys.length := Nat.min_le_left _ _
  have hn2 : n ≤ p.2 - p.1 := Nat.min_le_right _ _
  have hfcn := hfc n w hn1 rfl
  have hmin : Nat.min ys.length (p.2 - p.1) = n := rfl
  rcases ho with ⟨rfl, rfl⟩ | ⟨b, off, cap, arr, el, fz, rfl, hc, hs, ht, hh, hr⟩
  · simp at hle2
    have hn0 : n = 0 := by omega
    have hv : vwf l h R.sz (.slice none 0 0) = .slice none (p.2 - p.1) (0 - p.1) := by
      simp only [List.length_nil] at hp2
      rw [vwf_slice, ← hp1, ← hp2]
      simp
    refine ⟨w, ?_, .inl ⟨by simp [show min ys.length (p.2 - p.1) = 0 from hn0], rfl⟩, rfl, rfl, rfl, Nat.le_refl _, fun _ _ => rfl⟩
    rw [hv]
    simp [Builtin.copy_, run_underlying' hu, hlen, hrunsz, hmin, hfcn, goInt]
  · have hcl : vwf l h R.sz (.slice (some ⟨b, off, none⟩) xs.length cap) = .slice (some (if cap = p.1 then ⟨b, off, none⟩ else ⟨b, off + p.1 * R.sz, none⟩)) (p.2 - p.1) (cap - p.1) := by
      rw [vwf_slice, ← hp1, ← hp2]
      split <;> simp [addr_add]
    let o' := if cap = p.1 then off else off + p.1 * R.sz
    have hadd : (if cap = p.1 then (⟨b, off, none⟩ : Addr) else ⟨b, off + p.1 * R.sz, none⟩) = ⟨b, o', none⟩ := by simp only [o']; split <;> rfl
    have hvl : (ns.take (n * R.sz)).length = n * R.sz := by
      rw [List.length_take, hrow.1]; exact Nat.min_eq_left (Nat.mul_le_mul_right _ hn1)
    have hcapmul : (p.1 + n) * R.sz ≤ cap * R.sz := Nat.mul_le_mul_right _ (by omega)
    rw [Nat.add_mul] at hcapmul
    have hz0 : cap = p.1 → n = 0 := fun e => by omega
    have hoff : o' + n * R.sz ≤ arr.size := by
      simp only [o']
      split
      · rename_i e; rw [hz0 e]; omega
      · omega
    have hst := run_storeCells_thaw (P := P) b o' el fz (ns.take (n * R.sz)) 0 arr w hh ht (by rw [hvl]; omega) (fun u hu => hone u (List.mem_of_mem_take hu))
    let arr' := (arr.toList.take (o' + 0) ++ ns.take (n * R.sz) ++ arr.toList.drop (o' + 0 + (ns.take (n * R.sz)).length)).toArray
    have hsize : arr'.size = arr.size := by
      simp only [arr', List.size_toArray, List.length_append, List.length_take, List.length_drop, Array.length_toList, hrow.1]
      have : min (n * R.sz) (ys.length * R.sz) = n * R.sz := Nat.min_eq_left (Nat.mul_le_mul_right _ hn1)
      omega
    have hg : Grow F w F (w.setRow b arr') := ⟨fun _ h => h, fun b' hb' => setRow_other w b b' _ (fun e => hF b rfl (e ▸ hb'))⟩
    obtain ⟨ms, hms, hmc, _⟩ := hr.cellsOf
    have hnew : RowL R F (w.setRow b arr') (xs.take p.1 ++ ys.take n ++ xs.drop (p.1 + n)) (ms.take (p.1 * R.sz) ++ ns.take (n * R.sz) ++ ms.drop ((p.1 + n) * R.sz)) :=
      ((((hms.take (by omega)).append (hrow.take hn1)).append (hms.drop _)).mono hg)
    have hmsl : (ms.take (p.1 * R.sz)).length = p.1 * R.sz := by
      rw [List.length_take, hms.1]; exact Nat.min_eq_left (Nat.mul_le_mul_right _ (by omega))
    have hcell : ∀ (j : Nat) u, (ms.take (p.1 * R.sz) ++ ns.take (n * R.sz) ++ ms.drop ((p.1 + n) * R.sz))[j]? = some u → arr'[off + j]? = some u := by
      intro j u hj
      have hal : arr.toList.length = arr.size := Array.length_toList
      simp only [arr', List.getElem?_toArray, Nat.add_zero, hvl]
      by_cases hn0 : n = 0
      · have e1 : ns.take (n * R.sz) = [] := by rw [hn0]; simp
        rw [e1] at hj ⊢
        rw [hn0]
        simp only [List.append_nil, hn0, Nat.add_zero, List.take_append_drop, Nat.zero_mul] at hj ⊢
        have := hmc j u hj
        simpa using this
      · have hne : cap ≠ p.1 := fun e => hn0 (hz0 e)
        have ho' : o' = off + p.1 * R.sz := if_neg hne
        rw [ho']
        rw [List.append_assoc] at hj ⊢
        have htl : (arr.toList.take (off + p.1 * R.sz)).length = off + p.1 * R.sz := by rw [List.length_take, hal]; omega
        by_cases hj1 : j < p.1 * R.sz
        · rw [List.getElem?_append_left (by rw [hmsl]; exact hj1), List.getElem?_take, if_pos hj1] at hj
          rw [List.getElem?_append_left (by rw [htl]; omega), List.getElem?_take, if_pos (by omega)]
          have := hmc j u hj
          simpa using this
        · rw [List.getElem?_append_right (by rw [hmsl]; omega), hmsl] at hj
          rw [List.getElem?_append_right (by rw [htl]; omega), htl]
          have e2 : off + j - (off + p.1 * R.sz) = j - p.1 * R.sz := by omega
          rw [e2]
          by_cases hj2 : j - p.1 * R.sz < n * R.sz
          · rw [List.getElem?_append_left (by rw [hvl]; exact hj2)] at hj ⊢
            exact hj
          · rw [List.getElem?_append_right (by rw [hvl]; omega), hvl] at hj ⊢
            rw [List.getElem?_drop] at hj ⊢
            have e3 : (p.1 + n) * R.sz + (j - p.1 * R.sz - n * R.sz) = j := by rw [Nat.add_mul]; omega
            rw [e3] at hj
            have e4 : off + p.1 * R.sz + n * R.sz + (j - p.1 * R.sz - n * R.sz) = off + j := by omega
            rw [e4]
            have := hmc j u hj
            simpa using this
    refine ⟨w.setRow b arr', ?_, .inr ⟨b, off, cap, arr', el, fz, ?_, ?_, by rw [hsize]; exact hs, by rw [hsize]; exact ht, setRow_heap w b arr _ el fz hh, hnew.row hcell⟩, rfl, rfl, rfl, by simp, fun b' hb' => setRow_other w b b' _ (fun e => hb' (by rw [e]; rfl))⟩
    · rw [hcl, hadd]
      simp [Builtin.copy_, run_underlying' hu, hlen, hrunsz, hmin, hfcn, goInt]
      rw [hst]
      rfl
    · congr 1
      simp; omega
    · simp; omega
/-- copy into a slice of the call's own, or into a view of one. -/
theorem WPr.cp {α : Type} {R : TRep α} (htt : TTOk X.P tt) {i : Nat} {rest : List Nat} {o : Oper} {t t2 : TypeId} {td : TD} {x y : Operand} {d k K : Nat} {fr : Bool} {src : SC} {xs ys : List α} {l h : Option Int} {r : List α × Int}
    (hz : cpL xs l h ys = some r) (hsrc : SrcOk X s R ys src) (ho : ops[i]? = some o) (hg : guardV ops s.L o = some true) (hop : o.op = .call { callee := .builtin .copy, args := #[x, y], argTypes := #[t, t2] }) (hd : o.dst = some d)
    (hx : evalO s.L x = some (.c (.sl K))) (hV : look s.V K = some (.vw k l h R.sz) ∨ (K = k ∧ l = none ∧ h = none)) (hm : look s.M k = some (.own R xs fr)) (hy : evalO s.L y = some (.c src)) (ht : look tt t = some td)
    (hc : (Nat.blt d X.fn.ntmps && Nat.beq td.kd 6 && Nat.beq td.es R.sz) = true)
    (kk : WPr X ops rest todo ⟨(d, .c (.i .i64 r.2)) :: s.L, (k, .own R r.1 fr) :: s.M, s.V, s.nx⟩) : WPr X ops (i :: rest) todo s := by
  refine WPr.op ho hg (fun E F w a hs => ?_) kk
  simp only [Bool.and_eq_true] at hc
  obtain ⟨⟨c1, c2⟩, c3⟩ := hc
  obtain ⟨e1, _⟩ := hs.eval hx
  obtain ⟨e2, _⟩ := hs.eval hy
  have hmf := hs.mF k _ hm
  have hown : OwnR R F w xs (E.ρ k) := hs.hM k _ hm
  have hvw : E.ρ K = vwf l h R.sz (E.ρ k) := by
    rcases hV with h | ⟨rfl, rfl, rfl⟩
    · exact hs.hV K _ h
    · obtain ⟨b, c, hv⟩ := OwnR_len hown
      rw [hv]
      rw [vwf_slice]
      simp only [hiN, Option.getD_none, Int.toNat_zero, Nat.sub_zero, Nat.zero_mul]
      cases b with
      | none => simp
      | some b =>
        have : b.add 0 = b := by unfold Addr.add; simp
        simp [this]
  obtain ⟨w', hrun, how, g1, g2, g3, g4, g5⟩ := copy_ok (t2 := t2) (ty := o.type) (htt.get ht) c2 (Nat.eq_of_beq_eq_true c3) hown (hsrc E F w a hs) hz (fun b hb => (hmf b hb).1)
  refine wp_value (v := .int .i64 r.2) (w' := w') (exec_call_builtin hop ?_) ?_
  · simp only [List.map_toArray, List.map_cons, List.map_nil, e1, e2, denV]
    have : den E (.sl K) = vwf l h R.sz (E.ρ k) := hvw
    rw [this]
    exact exec_v hrun
  · have s1 := hs.setM (m' := .own R r.1 fr) hm g1 g2 g3 g4 (fun b _ hne => g5 b (fun e => hne e)) (fun b hb => hb) how trivial (fun h => h)
    have s2 := s1.setL (d := d) (v := .c (.i .i64 r.2)) trivial (blt_lt c1)
    rw [hd]
    exact ⟨E, F, s2⟩
/-- A call of an entry without a body. -/
theorem WPr.ext {i : Nat} {rest : List Nat} {o : Oper} {f : FuncId} {args : Array Operand} {ts : Array TypeId} {d : Nat} {svs : List SV} {v : SV}
    (hrun : ∀ (E : Env) (w : World), (callFunc f (svs.map (denV E)).toArray).run X.P w = .ok (.value (denV E v)) w) (hv : ∀ n, v.kb n) (ho : ops[i]? = some o) (hg : guardV ops s.L o = some true)
    (hop : o.op = .call { callee := .value (.func f), args := args, argTypes := ts }) (hd : o.dst = some d) (hn : Nat.blt d X.fn.ntmps = true) (hargs : evalL s.L args.toList = some svs)
    (kk : WPr X ops rest todo ⟨(d, v) :: s.L, s.M, s.V, s.nx⟩) : WPr X ops (i :: rest) todo s := by
  refine WPr.val (fun E F w a hs => ⟨?_, hv _⟩) ho hg hd hn kk
  have hev := (evalL_ok hs hargs).1
  have hargv : args.map a.eval = (svs.map (denV E)).toArray := by
    apply Array.ext'
    rw [Array.toList_map, hev]
  unfold execOp
  simp only [hop, resolve, Deferred.ofValue, Act.eval, invoke, Sem.run_bind, Sem.run_pure, Result.andThen_ok]
  have := hrun E w
  rw [← hargv] at this
  simpa using this
def byteOf (c : Int) : UInt8 := c.toNat.toUInt8
/-- The first place of a byte. -/
def firstB (m : ByteArray) (c : Int) : Int := firstIdx m (byteOf c)
def countB (m : ByteArray) (c : Int) : Int := m.foldl (fun n x => if x == byteOf c then n + 1 else n) (((0 : Nat) : Int))
theorem ext_indexByte {P : Program} {f : FuncId} {fn : Func} (hf : P.funcs[f]? = some fn) (hname : (fn.name == "runtime.NumGoroutine") = false) (hb : fn.body.isNone = true) (hn : Extern.findNext fn = none)
    (he : Extern.find fn = some Extern.BytealgIndexByte.indexByte) (m : ByteArray) (c : Int) (E : Env) (w : World) :
    (callFunc f (([.c (.s m), .c (.i .u8 c)] : List SV).map (denV E)).toArray).run P w = .ok (.value (denV E (.c (.i .i64 (firstB m c))))) w := by
  rw [run_callFunc_extern hf hname hb hn he]
  show ((Extern.BytealgIndexByte.indexByte #[.string m, .int .u8 c]).run P w).andThen _ = _
  rw [run_indexByte_string]; rfl
theorem ext_countByte {P : Program} {f : FuncId} {fn : Func} (hf : P.funcs[f]? = some fn) (hname : (fn.name == "runtime.NumGoroutine") = false) (hb : fn.body.isNone = true) (hn : Extern.findNext fn = none)
    (he : Extern.find fn = some Extern.BytealgCount.count) (m : ByteArray) (c : Int) (E : Env) (w : World) :
    (callFunc f (([.c (.s m), .c (.i .u8 c)] : List SV).map (denV E)).toArray).run P w = .ok (.value (denV E (.c (.i .i64 (countB m c))))) w := by
  rw [run_callFunc_extern hf hname hb hn he]
  show ((Extern.BytealgCount.count #[.string m, .int .u8 c]).run P w).andThen _ = _
  have : (Extern.BytealgCount.count #[.string m, .int .u8 c]).run P w = .ok (.int .i64 (countB m c)) w := by
    change Sem.run P (do
      let b ← Extern.Bytes.bytesOf (.string m)
      let c' ← Extern.Bytes.asByte (.int .u8 c)
      pure (goInt (b.foldl (fun n x => if x == c' then n + 1 else n) (0 : Nat)))) w = _
    simp only [Extern.Bytes.bytesOf, Extern.Bytes.asByte, Sem.run_bind, Sem.run_pure, Result.andThen, goInt]
    rfl
  rw [this]; rfl
end
end Go.Kx
end
section
/- A nil slice, as an empty one of the call's own. -/
namespace Go.Kx
section
variable {X : Ctx} {s : St} {ops : Array Oper} {todo : Act → World → Prop} {E : Env} {F : FSet} {w : World} {a : Act}
theorem Sat.setL0 (hs : Sat X s E F w a) {d : Nat} {v v0 : SV} (h0 : look s.L d = some v0) (hv : denV E v = denV E v0) (hk : v.kb s.nx) : Sat X ⟨(d, v) :: s.L, s.M, s.V, s.nx⟩ E F w a := { hs with
  wf := ⟨fun d' v' h => by
      rw [look_cons] at h
      split at h
      · cases h; exact hk
      · exact hs.wf.hL _ _ h, hs.wf.hM, hs.wf.hV⟩
  hL := fun d' v' h => by
    rw [look_cons] at h
    split at h
    · rename_i e; cases h; subst e; rw [hv]; exact hs.hL _ _ h0
    · exact hs.hL _ _ h }
theorem Sat.nown {α : Type} (R : TRep α) {d : Nat} (hs : Sat X s E F w a) (h : look s.L d = some (.c .nil)) : ∃ E', Sat X ⟨(d, .c (.sl s.nx)) :: s.L, (s.nx, .own R [] true) :: s.M, s.V, s.nx + 1⟩ E' F w a := by
  obtain ⟨E', hv, s2⟩ := hs.newOwn (R := R) (xs := []) (v := .slice none 0 0) (fr := true) (.inl ⟨rfl, rfl⟩) (fun b hb => by cases hb) (fun _ b hb => by cases hb)
  exact ⟨E', s2.setL0 (v := .c (.sl s.nx)) h (by show E'.ρ s.nx = _; rw [hv]; rfl) (Nat.lt_succ_self _)⟩
theorem WPr.nown {idx : List Nat} {α : Type} (R : TRep α) (d : Nat) (h : look s.L d = some (.c .nil)) (kk : WPr X ops idx todo ⟨(d, .c (.sl s.nx)) :: s.L, (s.nx, .own R [] true) :: s.M, s.V, s.nx + 1⟩) : WPr X ops idx todo s :=
  fun E F w a hs => let ⟨E', hs'⟩ := hs.nown R h; kk E' F w a hs'
end
end Go.Kx
end
section
/- From the reading of a law's arguments to typed values; from a call's contract to what the row asks behind it. -/
namespace Go.Kx
open Go.ChangeShapes Go.WideShapes
/-- How much data weighs, as the row counts it. -/
structure Bulk where
  f : {H : Type} → DataW H → Nat
  all : {H : Type} → List (DataW H) → Nat
  str : ∀ {H : Type} (b : List UInt8), f (.lit (.string b) : DataW H) = b.length + 1
  slice : ∀ {H : Type} (e s : List (DataW H)), f (.slice e s) = all e + all s + 1
  agg : ∀ {H : Type} (l : List (DataW H)), f (.agg l) = all l + 1
  nil : ∀ {H : Type}, all ([] : List (DataW H)) = 0
  cons : ∀ {H : Type} (d : DataW H) l, all (d :: l) = f d + all l
  one : ∀ {H : Type} (d : DataW H), 1 ≤ f d
def bd : Nat := 1048576
theorem Bulk.mem (B : Bulk) {H : Type} {d : DataW H} : ∀ {l : List (DataW H)}, d ∈ l → B.f d ≤ B.all l
  | x :: l, h => by
    rw [B.cons]
    rcases List.mem_cons.1 h with rfl | h
    · omega
    · have := B.mem h; omega
theorem Bulk.len (B : Bulk) {H : Type} : ∀ (l : List (DataW H)), l.length ≤ B.all l
  | [] => by simp
  | x :: l => by rw [B.cons, List.length_cons]; have := B.len l; have := B.one x; omega
abbrev Old (w : World) : FSet := fun b => b < w.heap.size
/-- Whatever is read at this type is such a value. -/
def Rdb (P : Program) (B : Bulk) (t : TypeId) {α : Type} (R : TRep α) (ok : α → Prop) : Prop := R.sz = P.cellsOf t ∧
  ∀ {H : Type} (enc : TypeId × Value → H) (w : World) (fuel : Nat) (cs : List Value) (x : DataW H × List MemPlace), DataW.trod enc P w 0 (fun _ => true) true fuel t cs = some x → B.f x.1 ≤ bd →
    ∃ a, R.rep (Old w) w a cs ∧ ok a
section
variable {P : Program} {B : Bulk} {t : TypeId}
theorem Rdb.int {k : IntKind} (hu : P.underlying t = some (.int k)) (hc : P.cellsOf t = 1) : Rdb P B t (rI k) (fun n => (Lit.int k n).wf = true) :=
  ⟨hc.symm, fun enc w fuel cs x h _ => by obtain ⟨n, rfl, _, hw⟩ := DataW.trod_int hu h; exact ⟨n, rfl, hw⟩⟩
theorem Rdb.bool (hu : P.underlying t = some .bool) (hc : P.cellsOf t = 1) : Rdb P B t rB (fun _ => True) :=
  ⟨hc.symm, fun enc w fuel cs x h _ => by obtain ⟨n, rfl, _⟩ := DataW.trod_bool hu h; exact ⟨n, rfl, trivial⟩⟩
theorem Rdb.str (hu : P.underlying t = some .string) (hc : P.cellsOf t = 1) : Rdb P B t rS (fun s => s.size ≤ bd) :=
  ⟨hc.symm, fun enc w fuel cs x h hb => by
    obtain ⟨n, rfl, rfl, _⟩ := DataW.trod_string hu h
    refine ⟨n, rfl, ?_⟩
    rw [B.str] at hb
    have e : n.data.toList.length = n.size := by rw [Array.length_toList]; rfl
    omega⟩
theorem exists_list {α : Type} {Q : Nat → α → Prop} : ∀ {n : Nat}, (∀ i, i < n → ∃ x, Q i x) → ∃ xs : List α, xs.length = n ∧ ∀ i x, xs[i]? = some x → Q i x
  | 0, _ => ⟨[], rfl, by simp⟩
  | n + 1, h => by
    obtain ⟨xs, hl, hx⟩ := exists_list (n := n) fun i hi => h i (by omega)
    obtain ⟨y, hy⟩ := h n (by omega)
    refine ⟨xs ++ [y], by simp [hl], fun i x hi => ?_⟩
    rw [List.getElem?_append] at hi
    split at hi
    · exact hx i x hi
    · rename_i hge
      have hlt := (List.getElem?_eq_some_iff.1 hi).1
      simp only [List.length_singleton] at hlt
      have e : i = n := by omega
      subst e
      rw [hl, Nat.sub_self] at hi
      simp only [List.getElem?_cons_zero, Option.some.injEq] at hi
      subst hi; exact hy
theorem Rdb.slice {α : Type} {R : TRep α} {ok : α → Prop} {e : TypeId} (hu : P.underlying t = some (.slice e)) (hc : P.cellsOf t = 1) (he : Rdb P B e R ok) :
    Rdb P B t (rSl R) (fun xs => xs.length ≤ bd ∧ ∀ x ∈ xs, ok x) := ⟨hc.symm, fun enc w fuel cs x h hb => by
  rcases DataW.trod_slice hu h with ⟨rfl, _⟩ | ⟨a, len, cap, elems, rest, n, rfl, rfl, rfl, _, hlc, _, hel, hx, _⟩
  · exact ⟨[], ⟨_, rfl, .inl ⟨rfl, _, _, rfl⟩⟩, by simp [bd], by simp⟩
  · simp only at hb
    rw [B.slice] at hb
    have hlen := B.len (elems.map (·.1))
    rw [List.length_map, hel] at hlen
    have hpos : 0 < P.cellsOf e := by rw [← he.1]; exact R.pos
    have key : ∀ i, i < len → ∃ x, ∃ cs y, w.cells? 0 (a.add (i * P.cellsOf e)) (P.cellsOf e) = some cs ∧ elems[i]? = some y ∧ R.rep (Old w) w x cs ∧ ok x := fun i hi => by
      have h1 := hx i hi
      have hlt : i < elems.length := by omega
      rw [List.getElem?_eq_getElem hlt, Option.bind_eq_some_iff] at h1
      obtain ⟨cs, h2, h3⟩ := h1
      have hm : elems[i].1 ∈ elems.map (·.1) := List.mem_map.2 ⟨_, List.getElem_mem hlt, rfl⟩
      obtain ⟨x, h4, h5⟩ := he.2 enc w n cs _ h3 (by have := B.mem hm; omega)
      exact ⟨x, cs, _, h2, List.getElem?_eq_getElem hlt, h4, h5⟩
    obtain ⟨xs, hl, hq⟩ := exists_list key
    have hok : ∀ x ∈ xs, ok x := fun x hm => by
      obtain ⟨i, hi⟩ := List.mem_iff_getElem?.1 hm
      obtain ⟨_, _, _, _, _, h⟩ := hq i x hi
      exact h
    refine ⟨xs, ⟨_, rfl, ?_⟩, by omega, hok⟩
    rcases Nat.eq_zero_or_pos len with h0 | h0
    · subst h0
      have : xs = [] := List.eq_nil_of_length_eq_zero hl
      subst this
      exact .inl ⟨rfl, _, _, rfl⟩
    · -- the block
      have hcell : ∀ i j cs, i < len → w.cells? 0 (a.add (i * P.cellsOf e)) (P.cellsOf e) = some cs → j < P.cellsOf e → w.cell? ((a.add (i * P.cellsOf e)).add j) = cs[j]? := fun i j cs _ hc hj => by
        unfold World.cells? at hc
        rw [if_pos (Nat.zero_le _)] at hc
        have := mapM_some_get hc j j (by simp [hj])
        exact this
      have hcl : ∀ i cs, w.cells? 0 (a.add (i * P.cellsOf e)) (P.cellsOf e) = some cs → cs.length = P.cellsOf e := fun i cs hc => by
        unfold World.cells? at hc
        rw [if_pos (Nat.zero_le _)] at hc
        simpa using mapM_some_length hc
      obtain ⟨x0, hx0⟩ : ∃ x0, xs[0]? = some x0 := ⟨_, List.getElem?_eq_getElem (by omega)⟩
      obtain ⟨cs0, y0, hc0, _, _, _⟩ := hq 0 x0 hx0
      have h00 := hcell 0 0 cs0 h0 hc0 hpos
      have hadd0 : (a.add (0 * P.cellsOf e)).add 0 = a := by unfold Addr.add; simp
      rw [hadd0, List.getElem?_eq_getElem (by rw [hcl 0 cs0 hc0]; exact hpos)] at h00
      unfold World.cell? at h00
      split at h00
      · rename_i arr ty fz hh
        cases hsp : a.spot with
        | some s => rw [hsp] at h00; simp at h00
        | none =>
          have ha : a = ⟨a.block, a.off, none⟩ := by cases a; simp at hsp; simp [hsp]
          have hlt : a.block < w.heap.size := (Array.getElem?_eq_some_iff.1 hh).1
          refine .inr ⟨a.block, a.off, cap, arr, ty, fz, by rw [hl, ← ha], by omega, hlt, hh, fun i x hi => ?_⟩
          obtain ⟨cs, y, hcs, _, hrep, _⟩ := hq i x hi
          have hil : i < len := by have := (List.getElem?_eq_some_iff.1 hi).1; omega
          refine ⟨cs, hrep, fun j v hj => ?_⟩
          have hjl : j < P.cellsOf e := by have := (List.getElem?_eq_some_iff.1 hj).1; rw [hcl i cs hcs] at this; exact this
          have := hcell i j cs hil hcs hjl
          rw [ha, addr_add, addr_add, cell_at hh, hj] at this
          rw [he.1]
          exact this
      · cases h00⟩
/-- The fields of a struct from one on. -/
def RdF (P : Program) (B : Bulk) (fs : List Field) (off : Nat) {β : Type} (R : TRep β) (ok : β → Prop) : Prop :=
  ∀ {H : Type} (enc : TypeId × Value → H) (w : World) (n : Nat) (cs : List Value) (xs : List (DataW H × List MemPlace)), xs.length = fs.length →
    (∀ (i : Nat) (f : Field), fs[i]? = some f → DataW.trod enc P w 0 (fun _ => true) true n f.type ((cs.drop f.offset).take (P.cellsOf f.type)) = xs[i]?) → B.all (xs.map (·.1)) ≤ bd →
    ∃ y, R.rep (Old w) w y ((cs.drop off).take R.sz) ∧ ok y
theorem RdF.one {f : Field} {α : Type} {R : TRep α} {ok : α → Prop} (h : Rdb P B f.type R ok) : RdF P B [f] f.offset R ok := fun enc w n cs xs hl hx hb => by
  obtain ⟨x, rfl⟩ := List.length_eq_one_iff.1 hl
  have h0 := hx 0 f rfl
  simp only [List.getElem?_cons_zero] at h0
  simp only [List.map_cons, List.map_nil] at hb
  rw [B.cons, B.nil] at hb
  obtain ⟨a, h1, h2⟩ := h.2 enc w n _ x h0 (by omega)
  rw [h.1]
  exact ⟨a, h1, h2⟩
theorem RdF.cons {f : Field} {fs : List Field} {off : Nat} {α β : Type} {R1 : TRep α} {R2 : TRep β} {ok1 : α → Prop} {ok2 : β → Prop} (h1 : Rdb P B f.type R1 ok1) (h2 : RdF P B fs off R2 ok2) (ho : off = f.offset + R1.sz) :
    RdF P B (f :: fs) f.offset (rP R1 R2) (fun y => ok1 y.1 ∧ ok2 y.2) := fun enc w n cs xs hl hx hb => by
  cases xs with
  | nil => cases hl
  | cons x xs =>
    have h0 := hx 0 f rfl
    simp only [List.getElem?_cons_zero] at h0
    simp only [List.map_cons] at hb
    rw [B.cons] at hb
    obtain ⟨a, g1, g2⟩ := h1.2 enc w n _ x h0 (by omega)
    obtain ⟨b, g3, g4⟩ := h2 enc w n cs xs (by simpa using hl) (fun i f' hf => by have := hx (i + 1) f' (by simpa using hf); simpa using this) (by omega)
    rw [← h1.1] at g1
    refine ⟨(a, b), ⟨_, _, ?_, g1, g3⟩, g2, g4⟩
    rw [ho, ← List.drop_drop]
    exact List.take_add
theorem Rdb.struct {α β : Type} {f : α → β} {g : β → α} {R : TRep β} {ok : β → Prop} {fs : List Field} (hu : P.underlying t = some (.struct fs.toArray)) (hc : P.cellsOf t = R.sz) (hfg : ∀ y, f (g y) = y) (h : RdF P B fs 0 R ok) :
    Rdb P B t (rM f R) (fun x => ok (f x)) := ⟨hc.symm, fun enc w fuel cs x hx hb => by
  obtain ⟨xs, n, rfl, rfl, hl, hn, hf⟩ := DataW.trod_struct hu hx
  simp only at hb
  rw [B.agg] at hb
  obtain ⟨y, h1, h2⟩ := h enc w n cs xs (by simpa using hn) (fun i f' hi => hf i f' (by simpa using hi)) (by omega)
  rw [List.drop_zero, ← hc, ← hl, List.take_length] at h1
  refine ⟨g y, ?_, ?_⟩
  · show R.rep _ _ (f (g y)) cs
    rw [hfg]; exact h1
  · show ok (f (g y)); rw [hfg]; exact h2⟩
/-- An array, as its elements one by one. -/
def RdA (P : Program) (B : Bulk) (e : TypeId) (m off : Nat) {β : Type} (R : TRep β) (ok : β → Prop) : Prop :=
  ∀ {H : Type} (enc : TypeId × Value → H) (w : World) (n : Nat) (cs : List Value) (xs : List (DataW H × List MemPlace)), xs.length = m →
    (∀ (i : Nat), i < m → DataW.trod enc P w 0 (fun _ => true) true n e ((cs.drop ((off + i) * P.cellsOf e)).take (P.cellsOf e)) = xs[i]?) → B.all (xs.map (·.1)) ≤ bd →
    ∃ y, R.rep (Old w) w y ((cs.drop (off * P.cellsOf e)).take R.sz) ∧ ok y
theorem RdA.one {e off : Nat} {α : Type} {R : TRep α} {ok : α → Prop} (h : Rdb P B e R ok) : RdA P B e 1 off R ok := fun enc w n cs xs hl hx hb => by
  obtain ⟨x, rfl⟩ := List.length_eq_one_iff.1 hl
  have h0 := hx 0 (by omega)
  simp only [List.getElem?_cons_zero, Nat.add_zero] at h0
  simp only [List.map_cons, List.map_nil] at hb
  rw [B.cons, B.nil] at hb
  obtain ⟨a, h1, h2⟩ := h.2 enc w n _ x h0 (by omega)
  rw [h.1]
  exact ⟨a, h1, h2⟩
theorem RdA.cons {e off m : Nat} {α β : Type} {R1 : TRep α} {R2 : TRep β} {ok1 : α → Prop} {ok2 : β → Prop} (h1 : Rdb P B e R1 ok1) (h2 : RdA P B e m (off + 1) R2 ok2) : RdA P B e (m + 1) off (rP R1 R2) (fun y => ok1 y.1 ∧ ok2 y.2) :=
  fun enc w n cs xs hl hx hb => by
  cases xs with
  | nil => cases hl
  | cons x xs =>
    have h0 := hx 0 (by omega)
    simp only [List.getElem?_cons_zero, Nat.add_zero] at h0
    simp only [List.map_cons] at hb
    rw [B.cons] at hb
    obtain ⟨a, g1, g2⟩ := h1.2 enc w n _ x h0 (by omega)
    obtain ⟨b, g3, g4⟩ := h2 enc w n cs xs (by simpa using hl) (fun i hi => by have := hx (i + 1) (by omega); rw [show off + (i + 1) = off + 1 + i by omega] at this; simpa using this) (by omega)
    rw [← h1.1] at g1
    refine ⟨(a, b), ⟨_, _, ?_, g1, g3⟩, g2, g4⟩
    rw [Nat.add_mul, Nat.one_mul, ← h1.1, ← List.drop_drop]
    exact List.take_add
theorem Rdb.array {β : Type} {R : TRep β} {ok : β → Prop} {m e : Nat} (hu : P.underlying t = some (.array m e)) (hc : P.cellsOf t = R.sz) (h : RdA P B e m 0 R ok) : Rdb P B t R ok := ⟨hc.symm, fun enc w fuel cs x hx hb => by
  obtain ⟨xs, n, rfl, rfl, hl, hn, hf⟩ := DataW.trod_array hu hx
  simp only at hb
  rw [B.agg] at hb
  obtain ⟨y, h1, h2⟩ := h enc w n cs xs hn (fun i hi => by have := hf i hi; rw [Nat.zero_add]; exact this) (by omega)
  rw [Nat.zero_mul, List.drop_zero, ← hc, ← hl, List.take_length] at h1
  exact ⟨y, h1, h2⟩⟩
end
section
variable {P : Program} {H : Type} {enc : TypeId × Value → H}
theorem arg_agg {w : World} {b t : Nat} {v : Value} (ha : aggOf P t = true) (h : Value.okWide P w .any b t v) : ∃ cs, v = .agg cs := by
  unfold aggOf at ha
  unfold Value.okWide at h
  split at ha
  · rename_i hu; rw [hu] at h; obtain ⟨cs, h, _⟩ := h; exact ⟨cs, h⟩
  · rename_i hu; rw [hu] at h; obtain ⟨cs, h, _⟩ := h; exact ⟨cs, h⟩
  · cases ha
theorem arg_leaf {w : World} {b t : Nat} {v : Value} (ha : (match P.underlying t with | some (.int _) | some .bool | some .string | some (.slice _) => true | _ => false) = true) (h : Value.okWide P w .any b t v) : v.cells = #[v] := by
  unfold Value.okWide at h
  split at ha
  · rename_i hu; rw [hu] at h; simp only [Cell.okWide, Cell.ok, hu] at h; cases v <;> first | rfl | (simp at h)
  · rename_i hu; rw [hu] at h; simp only [Cell.okWide, Cell.ok, hu] at h; cases v <;> first | rfl | (simp at h)
  · rename_i hu; rw [hu] at h; simp only [Cell.okWide, Cell.ok, hu] at h; cases v <;> first | rfl | (simp at h)
  · rename_i hu; rw [hu] at h; simp only [Cell.okWide, Cell.ok, hu] at h; cases v <;> first | rfl | (simp at h)
  · cases ha
theorem trodAll_stays (hl : laidOutB P = true) {W W' : World} {sp : Nat → Bool} : ∀ {ts : List TypeId} {vs : List Value} {ds : List (DataW H)} {ps : List MemPlace}, ts.all (fun t => P.readableRec t && decide (t < P.types.size)) = true →
    DataW.TrodAll enc P W 0 (fun _ => true) true ts vs ds ps → (∀ p ∈ ps, W.sameAt W' p) → (∀ p ∈ ps, sp p.block = true) → DataW.TrodAll enc P W' 0 sp true ts vs ds ps
  | [], vs, ds, ps, _, h, _, _ => by
    cases vs <;> cases ds <;> simp only [DataW.TrodAll] at h ⊢ <;> first | exact h | exact h.elim
  | t :: ts, vs, ds, ps, ht, h, hs, hp => by
    obtain ⟨v, vs', d, ds', p, q, rfl, rfl, rfl, h1, h2⟩ := trodAll_cons h
    simp only [List.all_cons, Bool.and_eq_true, decide_eq_true_eq] at ht
    exact trodAll_cons_mk (WideElems.Trod_stays hl ht.1.1 ht.1.2 h1 (fun x hx => hs x (List.mem_append.2 (.inl hx))) fun x hx => hp x (List.mem_append.2 (.inl hx)))
      (trodAll_stays hl ht.2 h2 (fun x hx => hs x (List.mem_append.2 (.inr hx))) fun x hx => hp x (List.mem_append.2 (.inr hx)))
/-- What the row asks behind a law's call: true, and all old memory as it was. -/
theorem law_post {f : Func} {s : ChangeSpec} {apart fresh handsOn again : Bool} {W W' : World} {args : Array Value} {ds : List (DataW H)} {before : List MemPlace} {tb : TypeId} (hl : laidOutB P = true)
    (hts : f.params.toList.all (fun t => P.readableRec t && decide (t < P.types.size)) = true) (hvs : s.vars = []) (hr : f.resultTypes = #[tb]) (htb : P.underlying tb = some .bool)
    (hW : DataW.Whole enc P f.params.toList s.vars apart W args.toList ds [] before) (hfn : s.fn H (ds ++ []) = { results := [.lit (.bool true)], args := ds }) (he : Ext (Old W) W W') :
    s.post enc P f apart fresh handsOn again W args (.bool true) W' := by
  have hlt := hW.lt
  have hsame : ∀ p ∈ before, W.sameAt W' p := fun p hp => by
    cases p with
    | cell b off =>
      have := he.block b (hlt _ hp)
      show W'.cell? ⟨b, off, none⟩ = W.cell? ⟨b, off, none⟩
      unfold World.cell?; simp only [this]
    | map b => exact he.block b (hlt _ hp)
  have hold : ∀ p ∈ before, (fun b => decide (b < W.heap.size)) p.block = true := fun p hp => by simpa using hlt p hp
  obtain ⟨p, q, hA, hV, rfl, hz, hn⟩ := id hW
  rw [hvs] at hV
  have hq : q = [] := hV
  subst hq
  rw [List.append_nil] at hsame hold hz hn
  have hres : ∀ (b : Nat) (sp : Nat → Bool) (hd : Bool), DataW.TrodAll enc P W' b sp hd f.resultTypes.toList ((Value.bool true).resultList f.resultTypes.size) [.lit (.bool true)] [] := fun b sp hd => by
    rw [hr]; exact trodAll_cons_mk (RowKit.shut_bool htb true) trodAll_mk0
  have hargs : ∀ sp : Nat → Bool, (∀ x ∈ p, sp x.block = true) → DataW.TrodAll enc P W' 0 sp true f.params.toList args.toList ds p := fun sp hsp => trodAll_stays hl hts hA hsame hsp
  refine ⟨ds, [], p ++ [], [], p, [], hW, ?_, ?_, ?_, ?_, fun _ => ⟨?_, [.lit (.bool true)] ++ ds, [], ([] ++ p) ++ [], ⟨[] ++ p, [], trodAll_append (hargs _ (fun _ _ => rfl)) (hres _ _ _), by rw [hvs]; rfl, rfl, ?_, ?_⟩, ?_⟩⟩
  · rw [hfn]; exact hres _ _ _
  · rw [hfn]; exact hargs _ hold
  · rw [hfn, hvs]; rfl
  · refine ⟨he.os, he.output, fun i hi => ?_⟩
    rw [he.block i hi]
    cases hh : W.heap[i]? with
    | none => trivial
    | some o =>
      cases o with
      | cells c ty fr => exact ⟨rfl, rfl, rfl, fun _ _ => rfl⟩
      | map es clock => exact .inr ⟨rfl, rfl⟩
      | _ => rfl
  · exact RowKit.ok_one hr rfl (RowKit.okWide_bool_mk htb true)
  · intro b off hp
    simp only [List.nil_append, List.append_nil] at hp
    have := hz b off hp
    have hb := he.block b (of_decide_eq_true (hold _ hp))
    unfold World.frozen? at this ⊢
    rw [hb]; exact this
  · intro ha
    simpa using hn ha
  · intro x hx _
    simpa using hx
/-- The contract of a law, where it gives true. -/
theorem law_calls {P : Program} {f : FuncId} {c : Ct} (h : Fn P f c) (hM0 : c.M0 = []) (hres : c.res = .c (.b true)) {E : Env} {w : World} (hone : ∀ k, (E.ρ k).oneCell' = true) (hV : ∀ k x, look c.V0 k = some x → x.ok E (Old w) w (E.ρ k)) :
    Calls P f (c.args.map (denV E)).toArray w fun e w' => e = .returned (.bool true) ∧ Ext (Old w) w w' := by
  have hn : ∀ k m, look c.M0 k ≠ some m := fun k m h => by rw [hM0] at h; cases h
  have hp : c.Pre E (Old w) w := ⟨hone, fun _ h => h, hV, fun k m h => absurd h (hn k m), fun k k' m m' h => absurd h (hn k m), fun k m h => absurd h (hn k m)⟩
  refine (h.calls E (Old w) w hp).mono fun e w' ⟨E', F', he, hq⟩ => ?_
  refine ⟨by rw [he, hres]; rfl, hq.ext.mono fun b hb => ⟨hb, ?_⟩⟩
  rintro ⟨k, m, hk, _⟩
  rw [hM0] at hk; cases hk
/-- Arguments, opened one by one. -/
structure Opened (F : FSet) (w : World) (n : Nat) (fs : List (Nat × VF)) (as : List (List SC × List Value)) (E : Env) : Prop where
  one : ∀ k, (E.ρ k).oneCell' = true
  facts : ∀ p ∈ fs, p.1 < n ∧ p.2.plain = true ∧ p.2.ok E F w (E.ρ p.1)
  args : ∀ q ∈ as, q.1.map (den E) = q.2 ∧ ∀ c ∈ q.1, SC.kb n c
theorem Opened.start (F : FSet) (w : World) : Opened F w 0 [] [] E00 := ⟨fun _ => rfl, by simp, by simp⟩
theorem plain_env {E E' : Env} {F : FSet} {w : World} {v : Value} : ∀ {f : VF}, f.plain = true → f.ok E F w v → f.ok E' F w v
  | .sl _ _, _, h => h
  | .fn _, _, h => h
  | .pl _, h, _ | .el _ _, h, _ | .vw _ _ _ _, h, _ => by cases h
theorem Opened.step {F : FSet} {w : World} {n : Nat} {fs : List (Nat × VF)} {as : List (List SC × List Value)} {E : Env} (h : Opened F w n fs as E) {α : Type} {R : TRep α} (O : Opn R) {x : α} {vs : List Value} (hr : R.rep F w x vs) :
    ∃ E', Opened F w (n + O.nk) (fs ++ O.facts n x) (as ++ [(O.cells n x, vs)]) E' := by
  obtain ⟨E', h1, _, _, h2, h3, h4, h5⟩ := O.ok hr n E h.one
  refine ⟨E', h2, fun p hp => ?_, fun q hq => ?_⟩
  · rcases List.mem_append.1 hp with hp | hp
    · obtain ⟨g1, g2, g3⟩ := h.facts p hp
      exact ⟨by omega, g2, by rw [(h1 p.1 g1).1]; exact plain_env g2 g3⟩
    · obtain ⟨_, g1, g2, g3⟩ := h4 p hp
      exact ⟨g1, g2, g3⟩
  · rcases List.mem_append.1 hq with hq | hq
    · obtain ⟨g1, g2⟩ := h.args q hq
      exact ⟨by rw [den_map_eqb h1 g2]; exact g1, fun c hc => (g2 c hc).mono (Nat.le_add_right _ _)⟩
    · rw [List.mem_singleton.1 hq]
      exact ⟨h3.symm, h5⟩
theorem Opened.V {F : FSet} {w : World} {n : Nat} {fs V0 : List (Nat × VF)} {as : List (List SC × List Value)} {E : Env} (h : Opened F w n fs as E) (hV : V0 = fs) : ∀ k x, look V0 k = some x → x.ok E F w (E.ρ k) :=
  fun k x hk => (h.facts (k, x) (hV ▸ look_mem hk)).2.2
theorem cells_agg {cs : Array Value} : (Value.agg cs).cells.toList = cs.toList := rfl
/-- Plain data, as cells. -/
def laidFlat : Nat → DataW Unit → List Value
  | 0, _ => []
  | _ + 1, .lit l => [l.value]
  | n + 1, .agg l => l.flatMap (laidFlat n)
  | _ + 1, _ => []
end
end Go.Kx
end
