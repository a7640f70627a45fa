-- What the checks of the program and of the reference tell (written by gensp.py).
import Derived.Test.YtnfcbhoaebcndaaPTx4
import Derived.Test.YtnfcbhoaebcndaaPTx5
import Derived.Test.YtnfcbhoaebcndaaPTx6
import Derived.Test.YtnfcbhoaebcndaaPTx15
import Derived.Test.YtnfcbhoaebcndaaPTx21
import Derived.Test.YtnfcbhoaebcndaaPTx22
import Derived.Test.YtnfcbhoaebcndaaPTx19
import Derived.Test.YtnfcbhoaebcndaaPTx23
namespace Go.Proofs.Ytnfcbhoaebcndaa.Pure
open Go.RowKit Go.Proofs.Ytnfcbhoaebcndaa.PT Go.Proofs.YtnfcbhoaebcndaaW.PrintWords Go.Proofs.YtnfcbhoaebcndaaW.PrintLast Go.Proofs.YtnfcbhoaebcndaaW.PrintMore
set_option linter.unusedVariables false
set_option linter.unusedSimpArgs false

theorem w64s {x : Int} (h0 : -9223372036854775808 ≤ x) (h1 : x < 9223372036854775808) : wrap64 x = x := by rw [← i64_w, IntKind.wrap_i64]; omega
theorem evs {α : Type} {g f : Nat → Option α} {r : α} (h : ∀ k, g (k + 1) = f k) (k : Ev f r) : Ev g r := Ev.step h k
theorem ev_det {α : Type} {g : Nat → Option α} {r q : α} (h : Ev g r) (h' : Ev g q) : r = q := by
  obtain ⟨K, hK⟩ := h
  obtain ⟨L, hL⟩ := h'
  have h1 := hK (K + L) (by omega)
  have h2 := hL (K + L) (by omega)
  rw [h1] at h2
  exact Option.some.inj h2
theorem rd_app57 (A : List S57) (b : S57) (B : List S57) : rd_T57 (A ++ b :: B) (A.length : Int) = b := by simp [rd_T57]
theorem rd_app (A : List Int) (b : Int) (B : List Int) : rd (A ++ b :: B) (A.length : Int) = b := by simp [rd]

def okAt (n : Int) : Bool := decide (0 ≤ n ∧ n ≤ 6311433599)
def okV (v : S45) : Bool := decide ((v.f0 = 0 ∧ v.f1 = 0) ∨ (v.f0 = 1 ∧ -1000000000000 ≤ v.f1 ∧ v.f1 ≤ 1000000000000) ∨ (v.f0 = 2 ∧ (v.f1 = 0 ∨ v.f1 = 1)) ∨ (v.f0 = 3 ∧ 1 ≤ v.f1 ∧ v.f1 ≤ 16))
def incS : List S57 → Bool
  | a :: b :: l => decide (a.f0 < b.f0) && incS (b :: l)
  | _ => true
def rngS (l : List S57) : Bool := l.all fun x => okAt x.f0
def valS (l : List S57) : Bool := l.all fun x => okV x.f1
def chk (l : List S57) : Int := if rngS l = true then (if incS l = true then (if valS l = true then 0 else 11) else 5) else 6
def spn (a b : Int) : Int := if okAt a = true ∧ okAt b = true ∧ a < b then (if b - a > 8640000 then 7 else 0) else 1
def fst_ (l : List S57) (a b : Int) : Int := if chk l = 0 then spn a b else chk l
def abt (l : List S57) (v : S45) (a b : Int) : Int := if chk l = 0 then (if okV v = true then spn a b else 1) else chk l
theorem inst_of (n : Int) : stats_instant.f n = some (okAt n) := by
  unfold stats_instant.f okAt
  split
  · exact congrArg some (decide_eq_decide.2 ⟨fun h => ⟨by assumption, h⟩, fun h => h.2⟩)
  · rename_i h
    exact congrArg some (decide_eq_false (fun h' => h h'.1)).symm
theorem rinst_of (n : Int) : plenumref44_instant.f n = some (okAt n) := by
  unfold plenumref44_instant.f okAt
  split
  · exact congrArg some (decide_eq_decide.2 ⟨fun h => ⟨by omega, h⟩, fun h => h.2⟩)
  · rename_i h
    exact congrArg some (decide_eq_false (fun h' => h h'.1)).symm
theorem valid_of (v : S45) : value_Valid.f v.f0 v.f1 = some (okV v) := by
  unfold value_Valid.f okV
  have e : ∀ (b : Bool) (p : Prop) [Decidable p], (b = true ↔ p) → some b = some (decide p) := fun b p _ h => congrArg some (by rw [Bool.eq_iff_iff, h, decide_eq_true_iff])
  split
  · exact e _ _ (by simp [*])
  · split
    · split
      · exact e _ _ (by simp [*])
      · exact e _ _ (by simp <;> omega)
    · split
      · split
        · exact e _ _ (by simp [*])
        · exact e _ _ (by simp [*])
      · split
        · split
          · exact e _ _ (by simp [*])
          · exact e _ _ (by simp <;> omega)
        · exact e _ _ (by simp <;> omega)
theorem rvalid_of (v : S45) : plenumref12_Valid.f v.f0 v.f1 = some (okV v) := by
  unfold plenumref12_Valid.f okV
  have e : ∀ (b : Bool) (p : Prop) [Decidable p], (b = true ↔ p) → some b = some (decide p) := fun b p _ h => congrArg some (by rw [Bool.eq_iff_iff, h, decide_eq_true_iff])
  split
  · exact e _ _ (by simp [*])
  · split
    · split
      · exact e _ _ (by simp [*] <;> omega)
      · exact e _ _ (by simp <;> omega)
    · split
      · split
        · exact e _ _ (by simp [*])
        · exact e _ _ (by simp [*])
      · split
        · split
          · exact e _ _ (by simp [*] <;> omega)
          · exact e _ _ (by simp <;> omega)
        · exact e _ _ (by simp <;> omega)

theorem pval (l : List S57) (hl : l.length ≤ 100) : ∀ (B A : List S57), A ++ B = l → Ev (fun k => stats_Check.l2 k l (l.length : Int) (A.length : Int)) (if valS B = true then 0 else 11)
  | [], A, h => by
    have hA : A = l := by simpa using h
    subst hA
    refine evs (f := fun k => some 0) (fun k => ?_) (Ev.now _)
    simp only [stats_Check.l2]
    rw [if_neg (by omega)]
  | b :: B, A, h => by
    have hlen : l.length = A.length + 1 + B.length := by rw [← h]; simp; omega
    have hb : rd_T57 l (A.length : Int) = b := by rw [← h]; exact rd_app57 A b B
    have ih := pval l hl B (A ++ [b]) (by rw [← h]; simp)
    have hs : ∀ k, stats_Check.l2 (k + 1) l (l.length : Int) (A.length : Int) = if okV b.f1 = true then stats_Check.l2 k l (l.length : Int) ((A ++ [b]).length : Int) else some 11 := fun k => by
      simp only [stats_Check.l2]
      rw [if_pos (by omega), if_pos (by omega), if_pos (by omega), hb, valid_of, w64s (by omega) (by omega)]
      simp
    refine evs hs ?_
    by_cases hv : okV b.f1 = true
    · simp only [hv, if_true]
      have e : valS (b :: B) = valS B := by simp [valS, hv]
      rw [e]
      exact ih
    · simp only [hv]
      have e : valS (b :: B) = false := by simp [valS, hv]
      rw [e]
      exact Ev.now _
theorem pinc (l : List S57) (hl : l.length ≤ 100) : ∀ (B A : List S57) (b : S57), A ++ b :: B = l → Ev (fun k => stats_Check.l1 k l ((A.length : Int) + 1)) (if incS (b :: B) = true then (if valS l = true then 0 else 11) else 5)
  | [], A, b, h => by
    have hlen : l.length = A.length + 1 := by rw [← h]; simp
    have ih := pval l hl l [] rfl
    refine evs (fun k => ?_) ih
    simp only [stats_Check.l1]
    rw [if_neg (by omega)]
    rfl
  | c :: B, A, b, h => by
    have hlen : l.length = A.length + 2 + B.length := by rw [← h]; simp; omega
    have hb : rd_T57 l (A.length : Int) = b := by rw [← h]; exact rd_app57 A b (c :: B)
    have hc : rd_T57 l ((A.length : Int) + 1) = c := by
      have := rd_app57 (A ++ [b]) c B
      rw [show (A ++ [b]) ++ c :: B = l by rw [← h]; simp] at this
      simpa using this
    have ih := pinc l hl B (A ++ [b]) c (by rw [← h]; simp)
    have hs : ∀ k, stats_Check.l1 (k + 1) l ((A.length : Int) + 1) = if b.f0 < c.f0 then stats_Check.l1 k l (((A ++ [b]).length : Int) + 1) else some 5 := fun k => by
      simp only [stats_Check.l1]
      rw [if_pos (by omega), w64s (x := (A.length : Int) + 1 - 1) (by omega) (by omega), show (A.length : Int) + 1 - 1 = A.length by omega, if_pos (by omega), if_pos (by omega), if_pos (by omega), hb, hc, w64s (by omega) (by omega)]
      by_cases hbc : b.f0 < c.f0
      · rw [if_neg (by omega), if_pos hbc]
        simp
      · rw [if_pos (by omega), if_neg hbc]
    refine evs hs ?_
    by_cases hbc : b.f0 < c.f0
    · simp only [hbc, if_true]
      have e : incS (b :: c :: B) = incS (c :: B) := by simp [incS, hbc]
      rw [e]
      exact ih
    · simp only [hbc, if_false]
      have e : incS (b :: c :: B) = false := by simp [incS, hbc]
      rw [e]
      exact Ev.now _
theorem pinc0 (l : List S57) (hl : l.length ≤ 100) : Ev (fun k => stats_Check.l1 k l 1) (if incS l = true then (if valS l = true then 0 else 11) else 5) := by
  cases l with
  | nil =>
    have ih := pval [] hl [] [] rfl
    refine evs (fun k => ?_) ih
    simp only [stats_Check.l1]
    rw [if_neg (by simp)]
    rfl
  | cons b B => exact pinc (b :: B) hl B [] b rfl
theorem prng (l : List S57) (hl : l.length ≤ 100) : ∀ (B A : List S57), A ++ B = l → Ev (fun k => stats_Check.l0 k l l (l.length : Int) (A.length : Int)) (if rngS B = true then (if incS l = true then (if valS l = true then 0 else 11) else 5) else 6)
  | [], A, h => by
    have hA : A = l := by simpa using h
    subst hA
    refine evs (fun k => ?_) (pinc0 A hl)
    simp only [stats_Check.l0]
    rw [if_neg (by omega)]
  | b :: B, A, h => by
    have hlen : l.length = A.length + 1 + B.length := by rw [← h]; simp; omega
    have hb : rd_T57 l (A.length : Int) = b := by rw [← h]; exact rd_app57 A b B
    have ih := prng l hl B (A ++ [b]) (by rw [← h]; simp)
    have hs : ∀ k, stats_Check.l0 (k + 1) l l (l.length : Int) (A.length : Int) = if okAt b.f0 = true then stats_Check.l0 k l l (l.length : Int) ((A ++ [b]).length : Int) else some 6 := fun k => by
      simp only [stats_Check.l0]
      rw [if_pos (by omega), if_pos (by omega), if_pos (by omega), hb, inst_of, w64s (by omega) (by omega)]
      simp
    refine evs hs ?_
    by_cases hv : okAt b.f0 = true
    · simp only [hv, if_true]
      have e : rngS (b :: B) = rngS B := by simp [rngS, hv]
      rw [e]
      exact ih
    · simp only [hv]
      have e : rngS (b :: B) = false := by simp [rngS, hv]
      rw [e]
      exact Ev.now _
theorem pchk (l : List S57) (hl : l.length ≤ 100) : Ev (fun k => stats_Check.f k l) (chk l) := by
  refine Ev.congr (fun k => ?_) (prng l hl l [] rfl)
  unfold stats_Check.f
  rw [if_neg (by omega)]
  rfl
theorem pspn (a b : Int) : Ev (fun k => stats_span.f k a b) (spn a b) := by
  have hj : ∀ x : Bool, Ev (fun k => stats_span.j0 k a b x) (if x = true then 1 else if wrap64 (b - a) > 8640000 then 7 else 0) := fun x => by
    refine evs (f := fun k => some (if x = true then 1 else if wrap64 (b - a) > 8640000 then 7 else 0)) (fun k => ?_) (Ev.now _)
    simp only [stats_span.j0]
    split
    · rfl
    · split <;> rfl
  by_cases h1 : okAt a = true
  · by_cases h2 : okAt b = true
    · refine Ev.congr (f := fun k => stats_span.j0 k a b (decide (a ≥ b))) (fun k => ?_) ?_
      · unfold stats_span.f
        rw [inst_of, inst_of, h1, h2]
        rfl
      · have := hj (decide (a ≥ b))
        have b1 : 0 ≤ a ∧ a ≤ 6311433599 := by simpa [okAt] using h1
        have b2 : 0 ≤ b ∧ b ≤ 6311433599 := by simpa [okAt] using h2
        rw [w64s (by omega) (by omega)] at this
        have e : spn a b = if decide (a ≥ b) = true then 1 else if b - a > 8640000 then 7 else 0 := by
          unfold spn
          by_cases h3 : a < b
          · rw [if_pos ⟨h1, h2, h3⟩, show decide (a ≥ b) = false from decide_eq_false (by omega)]; simp
          · rw [if_neg (by intro h; exact h3 h.2.2), show decide (a ≥ b) = true from decide_eq_true (by omega)]; simp
        rw [e]
        exact this
    · refine Ev.congr (f := fun k => stats_span.j0 k a b true) (fun k => ?_) ?_
      · unfold stats_span.f
        rw [inst_of, inst_of, h1]
        have h2' : okAt b = false := by simpa using h2
        rw [h2']
        rfl
      · have := hj true
        rw [if_pos rfl] at this
        have e : spn a b = 1 := by unfold spn; rw [if_neg (by intro h; exact h2 h.2.1)]
        rw [e]
        exact this
  · refine Ev.congr (f := fun k => stats_span.j0 k a b true) (fun k => ?_) ?_
    · unfold stats_span.f
      rw [inst_of]
      have h1' : okAt a = false := by simpa using h1
      rw [h1']
      rfl
    · have := hj true
      rw [if_pos rfl] at this
      have e : spn a b = 1 := by unfold spn; rw [if_neg (by intro h; exact h1 h.1)]
      rw [e]
      exact this
theorem pfst (l : List S57) (hl : l.length ≤ 100) (a b : Int) : Ev (fun k => stats_checked.f k l a b) (fst_ l a b) := by
  have hc := pchk l hl
  unfold fst_
  refine Ev.congr (fun k => rfl) (Ev.bind hc ?_)
  by_cases h : chk l = 0
  · simp only [h, if_true]
    exact Ev.bind (pspn a b) (Ev.now _)
  · simp only [h, if_false]
    exact Ev.now _

theorem rval (l : List S57) (hl : l.length ≤ 100) : ∀ (B A : List S57), A ++ B = l → Ev (fun k => plenumref44_Check.l2 k l (A.length : Int)) (if valS B = true then 0 else 11)
  | [], A, h => by
    have hA : A = l := by simpa using h
    subst hA
    refine evs (f := fun k => some 0) (fun k => ?_) (Ev.now _)
    simp only [plenumref44_Check.l2]
    rw [if_neg (by omega)]
  | b :: B, A, h => by
    have hlen : l.length = A.length + 1 + B.length := by rw [← h]; simp; omega
    have hb : rd_T57 l (A.length : Int) = b := by rw [← h]; exact rd_app57 A b B
    have ih := rval l hl B (A ++ [b]) (by rw [← h]; simp)
    have hs : ∀ k, plenumref44_Check.l2 (k + 1) l (A.length : Int) = if okV b.f1 = true then plenumref44_Check.l2 k l ((A ++ [b]).length : Int) else some 11 := fun k => by
      simp only [plenumref44_Check.l2]
      rw [if_pos (by omega), if_pos (by omega), hb, rvalid_of, w64s (by omega) (by omega)]
      simp
    refine evs hs ?_
    by_cases hv : okV b.f1 = true
    · simp only [hv, if_true]
      have e : valS (b :: B) = valS B := by simp [valS, hv]
      rw [e]
      exact ih
    · simp only [hv]
      have e : valS (b :: B) = false := by simp [valS, hv]
      rw [e]
      exact Ev.now _
theorem rinc (l : List S57) (hl : l.length ≤ 100) : ∀ (B A : List S57) (b : S57), A ++ b :: B = l → Ev (fun k => plenumref44_Check.l1 k l ((A.length : Int) + 1)) (if incS (b :: B) = true then (if valS l = true then 0 else 11) else 5)
  | [], A, b, h => by
    have hlen : l.length = A.length + 1 := by rw [← h]; simp
    have ih := rval l hl l [] rfl
    refine evs (fun k => ?_) ih
    simp only [plenumref44_Check.l1]
    rw [if_neg (by omega)]
    rfl
  | c :: B, A, b, h => by
    have hlen : l.length = A.length + 2 + B.length := by rw [← h]; simp; omega
    have hb : rd_T57 l (A.length : Int) = b := by rw [← h]; exact rd_app57 A b (c :: B)
    have hc : rd_T57 l ((A.length : Int) + 1) = c := by
      have := rd_app57 (A ++ [b]) c B
      rw [show (A ++ [b]) ++ c :: B = l by rw [← h]; simp] at this
      simpa using this
    have ih := rinc l hl B (A ++ [b]) c (by rw [← h]; simp)
    have hs : ∀ k, plenumref44_Check.l1 (k + 1) l ((A.length : Int) + 1) = if b.f0 < c.f0 then plenumref44_Check.l1 k l (((A ++ [b]).length : Int) + 1) else some 5 := fun k => by
      simp only [plenumref44_Check.l1]
      rw [if_pos (by omega), w64s (x := (A.length : Int) + 1 - 1) (by omega) (by omega), show (A.length : Int) + 1 - 1 = A.length by omega, if_pos (by omega), if_pos (by omega), if_pos (by omega), hb, hc, w64s (by omega) (by omega)]
      by_cases hbc : b.f0 < c.f0
      · rw [if_neg (by omega), if_pos hbc]
        simp
      · rw [if_pos (by omega), if_neg hbc]
    refine evs hs ?_
    by_cases hbc : b.f0 < c.f0
    · simp only [hbc, if_true]
      have e : incS (b :: c :: B) = incS (c :: B) := by simp [incS, hbc]
      rw [e]
      exact ih
    · simp only [hbc, if_false]
      have e : incS (b :: c :: B) = false := by simp [incS, hbc]
      rw [e]
      exact Ev.now _
theorem rinc0 (l : List S57) (hl : l.length ≤ 100) : Ev (fun k => plenumref44_Check.l1 k l 1) (if incS l = true then (if valS l = true then 0 else 11) else 5) := by
  cases l with
  | nil =>
    have ih := rval [] hl [] [] rfl
    refine evs (fun k => ?_) ih
    simp only [plenumref44_Check.l1]
    rw [if_neg (by simp)]
    rfl
  | cons b B => exact rinc (b :: B) hl B [] b rfl
theorem rrng (l : List S57) (hl : l.length ≤ 100) : ∀ (B A : List S57), A ++ B = l → Ev (fun k => plenumref44_Check.l0 k l (A.length : Int)) (if rngS B = true then (if incS l = true then (if valS l = true then 0 else 11) else 5) else 6)
  | [], A, h => by
    have hA : A = l := by simpa using h
    subst hA
    refine evs (fun k => ?_) (rinc0 A hl)
    simp only [plenumref44_Check.l0]
    rw [if_neg (by omega)]
  | b :: B, A, h => by
    have hlen : l.length = A.length + 1 + B.length := by rw [← h]; simp; omega
    have hb : rd_T57 l (A.length : Int) = b := by rw [← h]; exact rd_app57 A b B
    have ih := rrng l hl B (A ++ [b]) (by rw [← h]; simp)
    have hs : ∀ k, plenumref44_Check.l0 (k + 1) l (A.length : Int) = if okAt b.f0 = true then plenumref44_Check.l0 k l ((A ++ [b]).length : Int) else some 6 := fun k => by
      simp only [plenumref44_Check.l0]
      rw [if_pos (by omega), if_pos (by omega), hb, rinst_of, w64s (by omega) (by omega)]
      simp
    refine evs hs ?_
    by_cases hv : okAt b.f0 = true
    · simp only [hv, if_true]
      have e : rngS (b :: B) = rngS B := by simp [rngS, hv]
      rw [e]
      exact ih
    · simp only [hv]
      have e : rngS (b :: B) = false := by simp [rngS, hv]
      rw [e]
      exact Ev.now _
theorem rchk (l : List S57) (hl : l.length ≤ 100) : Ev (fun k => plenumref44_Check.f k l) (chk l) := by
  refine Ev.congr (fun k => ?_) (rrng l hl l [] rfl)
  unfold plenumref44_Check.f
  rw [if_neg (by omega)]
  rfl
theorem rspn (a b : Int) : Ev (fun k => plenumref44_Span.f k a b) (spn a b) := by
  have hj : ∀ x : Bool, Ev (fun k => plenumref44_Span.j0 k a b x) (if x = true then 1 else if wrap64 (b - a) > 8640000 then 7 else 0) := fun x => by
    refine evs (f := fun k => some (if x = true then 1 else if wrap64 (b - a) > 8640000 then 7 else 0)) (fun k => ?_) (Ev.now _)
    simp only [plenumref44_Span.j0]
    split
    · rfl
    · split <;> rfl
  by_cases h1 : okAt a = true
  · by_cases h2 : okAt b = true
    · refine Ev.congr (f := fun k => plenumref44_Span.j0 k a b (decide (a ≥ b))) (fun k => ?_) ?_
      · unfold plenumref44_Span.f
        rw [rinst_of, rinst_of, h1, h2]
        rfl
      · have := hj (decide (a ≥ b))
        have b1 : 0 ≤ a ∧ a ≤ 6311433599 := by simpa [okAt] using h1
        have b2 : 0 ≤ b ∧ b ≤ 6311433599 := by simpa [okAt] using h2
        rw [w64s (by omega) (by omega)] at this
        have e : spn a b = if decide (a ≥ b) = true then 1 else if b - a > 8640000 then 7 else 0 := by
          unfold spn
          by_cases h3 : a < b
          · rw [if_pos ⟨h1, h2, h3⟩, show decide (a ≥ b) = false from decide_eq_false (by omega)]; simp
          · rw [if_neg (by intro h; exact h3 h.2.2), show decide (a ≥ b) = true from decide_eq_true (by omega)]; simp
        rw [e]
        exact this
    · refine Ev.congr (f := fun k => plenumref44_Span.j0 k a b true) (fun k => ?_) ?_
      · unfold plenumref44_Span.f
        rw [rinst_of, rinst_of, h1]
        have h2' : okAt b = false := by simpa using h2
        rw [h2']
        rfl
      · have := hj true
        rw [if_pos rfl] at this
        have e : spn a b = 1 := by unfold spn; rw [if_neg (by intro h; exact h2 h.2.1)]
        rw [e]
        exact this
  · refine Ev.congr (f := fun k => plenumref44_Span.j0 k a b true) (fun k => ?_) ?_
    · unfold plenumref44_Span.f
      rw [rinst_of]
      have h1' : okAt a = false := by simpa using h1
      rw [h1']
      rfl
    · have := hj true
      rw [if_pos rfl] at this
      have e : spn a b = 1 := by unfold spn; rw [if_neg (by intro h; exact h1 h.1)]
      rw [e]
      exact this
theorem rfst (l : List S57) (hl : l.length ≤ 100) (a b : Int) : Ev (fun k => plenumlaw44_first.f k l a b) (fst_ l a b) := by
  have hc := rchk l hl
  unfold fst_
  refine Ev.congr (fun k => rfl) (Ev.bind hc ?_)
  by_cases h : chk l = 0
  · simp only [h, if_true]
    exact Ev.bind (rspn a b) (Ev.now _)
  · simp only [h, if_false]
    exact Ev.now _

theorem abt_ev (l : List S57) (hl : l.length ≤ 100) (v : S45) (a b : Int) : Ev (fun k => stats_about.f k l v.f0 v.f1 a b) (abt l v a b) := by
  have hc := pchk l hl
  unfold abt
  refine Ev.congr (fun k => rfl) (Ev.bind hc ?_)
  by_cases h : chk l = 0
  · simp only [h, if_true]
    rw [valid_of]
    simp only [Option.bind_some]
    by_cases h2 : okV v = true
    · simp only [h2, if_true]
      exact Ev.bind (pspn a b) (Ev.now _)
    · simp only [h2]
      exact Ev.now _
  · simp only [h, if_false]
    exact Ev.now _
end Go.Proofs.Ytnfcbhoaebcndaa.Pure
