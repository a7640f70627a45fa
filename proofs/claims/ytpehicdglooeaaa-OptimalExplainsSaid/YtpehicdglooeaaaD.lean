-- optimal: deviations and the loss that is learned, in plain words.
import Derived.Test.YtpehicdglooeaaaO
import Derived.Test.YtpehicdglooeaaaHL
import Derived.Test.YtpehicdglooeaaaPTx18
import Derived.Test.YtpehicdglooeaaaPTx19
import Derived.Test.YtpehicdglooeaaaPTx27
import Derived.Test.YtpehicdglooeaaaPTx28
import Derived.Test.YtpehicdglooeaaaPTx25
namespace Go.Proofs.Ytpehicdglooeaaa.M
open Go.RowKit Go.Proofs.Ytpehicdglooeaaa.PT Go.Proofs.YtpehicdglooeaaaW.PrintWords Go.Proofs.YtpehicdglooeaaaW.PrintLast Go.Proofs.YtpehicdglooeaaaW.PrintMore
set_option linter.unusedVariables false
set_option linter.unusedSimpArgs false

/-! ### the run -/
def rE (ins outs : List Int) : Int := if outs.length < 1 ∨ 1440 < outs.length ∨ ins.length ≠ outs.length + 1 then 1 else if allT ins = true ∧ allT outs = true then 0 else 6
theorem run_ev {ins outs : List Int} (h1 : ins.length ≤ 100) (h2 : outs.length ≤ 100) : Ev (fun k => optimal_run.f k ins outs) (rE ins outs) := by
  unfold optimal_run.f rE
  have jt : Ev (fun k => optimal_run.j0 k ins outs true) 1 := by
    refine evu ?_
    simp only [optimal_run.j0, if_true]
    exact Ev.now _
  by_cases c1 : outs.length < 1
  · rw [if_pos (.inl c1)]
    exact evp (by omega) jt
  · refine evn (by omega) (evn (by omega) ?_)
    rw [w64 (x := (outs.length : Int) + 1) (by omega) (by omega)]
    by_cases c3 : ins.length = outs.length + 1
    · rw [if_neg (by omega), show ((ins.length : Int) != (outs.length : Int) + 1) = false from bne_eq_false_iff_eq.2 (by omega)]
      refine evu ?_
      simp only [optimal_run.j0]
      refine evn (by simp) (Ev.bind (otemps h1) ?_)
      by_cases c4 : allT ins = true
      · refine evp c4 (Ev.bind (otemps h2) ?_)
        by_cases c5 : allT outs = true
        · have e : (if allT ins = true ∧ allT outs = true then (0 : Int) else 6) = 0 := if_pos ⟨c4, c5⟩
          rw [e]; exact evp c5 (Ev.now _)
        · have e : (if allT ins = true ∧ allT outs = true then (0 : Int) else 6) = 6 := if_neg (fun h => c5 h.2)
          rw [e]; exact evn c5 (Ev.now _)
      · have e : (if allT ins = true ∧ allT outs = true then (0 : Int) else 6) = 6 := if_neg (fun h => c4 h.1)
        rw [e]; exact evn c4 (Ev.now _)
    · rw [if_pos (.inr (.inr c3)), show ((ins.length : Int) != (outs.length : Int) + 1) = true from bne_iff_ne.2 (by omega)]
      exact jt
theorem rrun_loop (ins outs : List Int) (hl : ins.length ≤ 100) (hlo : ins.length = outs.length + 1) : ∀ (n i : Nat), ins.length - i = n → i ≤ ins.length → Ev (fun k => plenumref36_Run.l0 k ins outs (i : Int)) (if allT (ins.drop i) = true ∧ allT (outs.drop i) = true then 0 else 6)
  | 0, i, hn, hi => by
    rw [List.drop_eq_nil_of_le (by omega), List.drop_eq_nil_of_le (by omega), if_pos ⟨rfl, rfl⟩]
    refine evu ?_
    simp only [plenumref36_Run.l0]
    exact evn (by omega) (Ev.now _)
  | n + 1, i, hn, hi => by
    have ih := rrun_loop ins outs hl hlo n (i + 1) (by omega) (by omega)
    have h1 : i < ins.length := by omega
    refine evu ?_
    simp only [plenumref36_Run.l0]
    rw [rd_at ins i h1, rtemp, w64 (x := (i : Int) + 1) (by omega) (by omega), List.drop_eq_getElem_cons h1]
    refine evp (by omega) (evp (by omega) ?_)
    simp only [Option.bind_some]
    generalize ins[i] = x at *
    by_cases c : Tok x
    · rw [decide_eq_true c]
      refine evp rfl ?_
      have e1 : allT (x :: ins.drop (i + 1)) = allT (ins.drop (i + 1)) := by simp [allT, c]
      by_cases h2 : i < outs.length
      · refine evp (by omega) ?_
        rw [rd_at outs i h2, rtemp, List.drop_eq_getElem_cons h2]
        simp only [Option.bind_some]
        generalize outs[i] = y at *
        by_cases d : Tok y
        · have e2 : allT (y :: outs.drop (i + 1)) = allT (outs.drop (i + 1)) := by simp [allT, d]
          rw [decide_eq_true d, e1, e2]
          exact evp rfl ih
        · rw [decide_eq_false d, if_neg (fun h => by simp [allT, d] at h)]
          exact evn (by simp) (Ev.now _)
      · refine evn (by omega) ?_
        rw [e1]
        have e3 : outs.drop i = outs.drop (i + 1) := by rw [List.drop_eq_nil_of_le (by omega), List.drop_eq_nil_of_le (by omega)]
        rw [e3]
        exact ih
    · rw [decide_eq_false c, if_neg (fun h => by simp [allT, c] at h)]
      exact evn (by simp) (Ev.now _)
theorem rrun_ev {ins outs : List Int} (h1 : ins.length ≤ 100) (h2 : outs.length ≤ 100) : Ev (fun k => plenumref36_Run.f k ins outs) (rE ins outs) := by
  unfold plenumref36_Run.f rE
  have jt : Ev (fun k => plenumref36_Run.j0 k ins outs true) 1 := by
    refine evu ?_
    simp only [plenumref36_Run.j0, if_true]
    exact Ev.now _
  by_cases c1 : outs.length < 1
  · rw [if_pos (.inl c1)]
    exact evp (by omega) jt
  · refine evn (by omega) (evn (by omega) ?_)
    rw [w64 (x := (outs.length : Int) + 1) (by omega) (by omega)]
    by_cases c3 : ins.length = outs.length + 1
    · rw [if_neg (by omega), show ((ins.length : Int) != (outs.length : Int) + 1) = false from bne_eq_false_iff_eq.2 (by omega)]
      refine evu ?_
      simp only [plenumref36_Run.j0]
      have := rrun_loop ins outs h1 c3 ins.length 0 rfl (by omega)
      exact evn (by simp) this
    · rw [if_pos (.inr (.inr c3)), show ((ins.length : Int) != (outs.length : Int) + 1) = true from bne_iff_ne.2 (by omega)]
      exact jt
structure Run (ins outs : List Int) : Prop where
  l : ins.length = outs.length + 1
  p : 1 ≤ outs.length
  i : ∀ x ∈ ins, Tok x
  o : ∀ x ∈ outs, Tok x
theorem rE_zero {ins outs : List Int} (h : rE ins outs = 0) : Run ins outs := by
  unfold rE at h
  by_cases c1 : outs.length < 1 ∨ 1440 < outs.length ∨ ins.length ≠ outs.length + 1
  · rw [if_pos c1] at h; omega
  · rw [if_neg c1] at h
    by_cases c2 : allT ins = true ∧ allT outs = true
    · exact ⟨by omega, by omega, by simpa [allT] using c2.1, by simpa [allT] using c2.2⟩
    · rw [if_neg c2] at h; omega

/-! ### deviations -/
def dist (a b : Int) : Int := if a ≤ b then b - a else a - b
def dv (L : Int) : List Int → List Int → Int
  | x :: y :: ins, o :: outs => dist (nx L 0 o 0 60 x) y + dv L (y :: ins) outs
  | _, _ => 0
theorem dist_nonneg (a b : Int) : 0 ≤ dist a b := by unfold dist; split <;> omega
theorem dv_nonneg (L : Int) : ∀ (outs ins : List Int), 0 ≤ dv L ins outs
  | [], [] => Int.le_refl _
  | [], [_] => Int.le_refl _
  | [], _ :: _ :: _ => Int.le_refl _
  | _ :: _, [] => Int.le_refl _
  | _ :: _, [_] => Int.le_refl _
  | o :: outs, x :: y :: ins => by
    unfold dv
    have := dist_nonneg (nx L 0 o 0 60 x) y
    have := dv_nonneg L outs (y :: ins)
    omega
theorem zl {L : Int} (h0 : 0 ≤ L) (h1 : L ≤ 1000) : Zok L 0 := ⟨h0, h1, by omega, by omega⟩
theorem h0ok : Hok 0 := ⟨by omega, by omega⟩
theorem d60 : Dok 60 := ⟨by omega, by omega⟩
theorem mx_dist {a b : Int} (ha : Tok a) (hb : Tok b) : mx (wrap64 (a - b)) (wrap64 (-(wrap64 (a - b)))) = dist a b := by
  obtain ⟨a0, a1⟩ := ha
  obtain ⟨b0, b1⟩ := hb
  rw [w64 (x := a - b) (by omega) (by omega), w64 (x := -(a - b)) (by omega) (by omega)]
  unfold mx dist
  split <;> split <;> omega
theorem dist_comm (a b : Int) : dist a b = dist b a := by unfold dist; split <;> split <;> omega
theorem dev_loop {L : Int} (h0 : 0 ≤ L) (h1 : L ≤ 1000) {ins outs : List Int} (hl : outs.length ≤ 100) (R : Run ins outs) : ∀ (B A : List Int) (x : Int) (C D : List Int) (s : Int), A ++ B = outs → C ++ x :: D = ins → C.length = A.length → 0 ≤ s → s ≤ 2000000 * A.length →
    Ev (fun k => optimal_deviation.l0 k L ins s outs (outs.length : Int) (A.length : Int)) (s + dv L (x :: D) B)
  | [], A, x, C, D, s, hA, hC, hCA, s0, s1 => by
    have hA : A = outs := by simpa using hA
    subst hA
    have e : dv L (x :: D) [] = 0 := by cases D <;> rfl
    rw [e, Int.add_zero]
    refine evu ?_
    simp only [optimal_deviation.l0]
    exact evn (by omega) (Ev.now _)
  | o :: B, A, x, C, D, s, hA, hC, hCA, s0, s1 => by
    have hlen : outs.length = A.length + 1 + B.length := by rw [← hA]; simp; omega
    have hlen2 : ins.length = C.length + 1 + D.length := by rw [← hC]; simp; omega
    have hRl := R.l
    cases D with
    | nil => simp at hlen2; omega
    | cons y D =>
      have hx : rd ins (A.length : Int) = x := by rw [← hC, ← hCA]; exact rd_app C x (y :: D)
      have hy : rd ins ((A.length : Int) + 1) = y := by
        have := rd_app (C ++ [x]) y D
        rw [List.append_assoc] at this
        simp only [List.singleton_append] at this
        rw [hC] at this
        rw [← hCA]
        simpa using this
      have ho : rd outs (A.length : Int) = o := by rw [← hA]; exact rd_app A o B
      have tx : Tok x := R.i x (by rw [← hC]; simp)
      have ty : Tok y := R.i y (by rw [← hC]; simp)
      have to_ : Tok o := R.o o (by rw [← hA]; simp)
      have hd0 := dist_nonneg (nx L 0 o 0 60 x) y
      have hd1 : dist (nx L 0 o 0 60 x) y ≤ 2000000 := by
        have := nx_Tok L 0 o 0 60 x
        obtain ⟨p, q⟩ := this
        obtain ⟨p', q'⟩ := ty
        unfold dist; split <;> omega
      have ih := dev_loop h0 h1 hl R B (A ++ [o]) y (C ++ [x]) D (s + dist (nx L 0 o 0 60 x) y) (by rw [← hA]; simp) (by rw [← hC]; simp) (by simp [hCA]) (by omega) (by simp; omega)
      have e2 : ((A ++ [o]).length : Int) = (A.length : Int) + 1 := by simp
      rw [e2] at ih
      have ed : s + dv L (x :: y :: D) (o :: B) = s + dist (nx L 0 o 0 60 x) y + dv L (y :: D) B := by
        show s + (dist (nx L 0 o 0 60 x) y + dv L (y :: D) B) = _
        omega
      rw [ed]
      refine evu ?_
      simp only [optimal_deviation.l0]
      rw [w64 (x := (A.length : Int) + 1) (by omega) (by omega), hx, hy, ho]
      refine evp (by omega) (evp (by omega) (evp (by omega) (evp (by omega) ?_)))
      refine Ev.bind (ev_from 4 (fun k hk => Step_ok ⟨zl h0 h1, tx, to_, h0ok, d60⟩ k hk)) ?_
      refine evp (by omega) (evp (by omega) ?_)
      dsimp only
      rw [mx_dist (nx_Tok L 0 o 0 60 x) ty, w64 (x := s + dist (nx L 0 o 0 60 x) y) (by omega) (by omega)]
      exact ih
theorem dev_ev {L : Int} (h0 : 0 ≤ L) (h1 : L ≤ 1000) {ins outs : List Int} (hl : outs.length ≤ 100) (R : Run ins outs) : Ev (fun k => optimal_deviation.f k L ins outs) (dv L ins outs) := by
  have hRl := R.l
  cases ins with
  | nil => simp at hRl
  | cons x D =>
    have := dev_loop h0 h1 hl R outs [] x [] D 0 rfl rfl rfl (by omega) (by simp)
    rw [Int.zero_add] at this
    exact Ev.congr (fun k => rfl) this
theorem rdev_loop {L : Int} (h0 : 0 ≤ L) (h1 : L ≤ 1000) {ins outs : List Int} (hl : outs.length ≤ 100) (R : Run ins outs) : ∀ (B A : List Int) (x : Int) (C D : List Int) (s : Int), A ++ B = outs → C ++ x :: D = ins → C.length = A.length → 0 ≤ s → s ≤ 2000000 * A.length →
    Ev (fun k => plenumref36_Deviation.l0 k L ins outs s (A.length : Int)) (s + dv L (x :: D) B)
  | [], A, x, C, D, s, hA, hC, hCA, s0, s1 => by
    have hA : A = outs := by simpa using hA
    subst hA
    have e : dv L (x :: D) [] = 0 := by cases D <;> rfl
    rw [e, Int.add_zero]
    refine evu ?_
    simp only [plenumref36_Deviation.l0]
    exact evn (by omega) (Ev.now _)
  | o :: B, A, x, C, D, s, hA, hC, hCA, s0, s1 => by
    have hlen : outs.length = A.length + 1 + B.length := by rw [← hA]; simp; omega
    have hlen2 : ins.length = C.length + 1 + D.length := by rw [← hC]; simp; omega
    have hRl := R.l
    cases D with
    | nil => simp at hlen2; omega
    | cons y D =>
      have hx : rd ins (A.length : Int) = x := by rw [← hC, ← hCA]; exact rd_app C x (y :: D)
      have hy : rd ins ((A.length : Int) + 1) = y := by
        have := rd_app (C ++ [x]) y D
        rw [List.append_assoc] at this
        simp only [List.singleton_append] at this
        rw [hC] at this
        rw [← hCA]
        simpa using this
      have ho : rd outs (A.length : Int) = o := by rw [← hA]; exact rd_app A o B
      have tx : Tok x := R.i x (by rw [← hC]; simp)
      have ty : Tok y := R.i y (by rw [← hC]; simp)
      have to_ : Tok o := R.o o (by rw [← hA]; simp)
      have hd0 := dist_nonneg (nx L 0 o 0 60 x) y
      have hd1 : dist (nx L 0 o 0 60 x) y ≤ 2000000 := by
        have := nx_Tok L 0 o 0 60 x
        obtain ⟨p, q⟩ := this
        obtain ⟨p', q'⟩ := ty
        unfold dist; split <;> omega
      have ih := rdev_loop h0 h1 hl R B (A ++ [o]) y (C ++ [x]) D (s + dist (nx L 0 o 0 60 x) y) (by rw [← hA]; simp) (by rw [← hC]; simp) (by simp [hCA]) (by omega) (by simp; omega)
      have e2 : ((A ++ [o]).length : Int) = (A.length : Int) + 1 := by simp
      rw [e2] at ih
      have ed : s + dv L (x :: y :: D) (o :: B) = s + dist (nx L 0 o 0 60 x) y + dv L (y :: D) B := by
        show s + (dist (nx L 0 o 0 60 x) y + dv L (y :: D) B) = _
        omega
      rw [ed]
      refine evu ?_
      simp only [plenumref36_Deviation.l0]
      rw [w64 (x := (A.length : Int) + 1) (by omega) (by omega), hx, hy, ho, next_f (zl h0 h1) to_ h0ok d60 tx]
      refine evp (by omega) (evp (by omega) (evp (by omega) (evp (by omega) (evp (by omega) ?_))))
      simp only [Option.bind_some]
      rw [mx_dist ty (nx_Tok L 0 o 0 60 x), dist_comm y, w64 (x := s + dist (nx L 0 o 0 60 x) y) (by omega) (by omega)]
      exact ih
theorem rdev_ev {L : Int} (h0 : 0 ≤ L) (h1 : L ≤ 1000) {ins outs : List Int} (hl : outs.length ≤ 100) (R : Run ins outs) : Ev (fun k => plenumref36_Deviation.f k L ins outs) (dv L ins outs) := by
  have hRl := R.l
  cases ins with
  | nil => simp at hRl
  | cons x D =>
    have := rdev_loop h0 h1 hl R outs [] x [] D 0 rfl rfl rfl (by omega) (by simp)
    rw [Int.zero_add] at this
    exact Ev.congr (fun k => rfl) this
theorem Dev_ev (L : Int) {ins outs : List Int} (h1 : ins.length ≤ 100) (h2 : outs.length ≤ 100) : Ev (fun k => optimal_Deviation.f k L ins outs) (if 0 ≤ L ∧ L ≤ 1000 then (if rE ins outs = 0 then (dv L ins outs, 0) else (0, rE ins outs)) else (0, 6)) := by
  unfold optimal_Deviation.f
  have jt : Ev (fun k => optimal_Deviation.j0 k L ins outs true) (0, 6) := by
    refine evu ?_
    simp only [optimal_Deviation.j0, if_true]
    exact Ev.now _
  by_cases c1 : L < 0
  · rw [if_neg (by omega)]
    exact evp c1 jt
  · refine evn c1 ?_
    by_cases c2 : L > 1000
    · rw [if_neg (by omega), decide_eq_true c2]
      exact jt
    · rw [if_pos (by omega), decide_eq_false c2]
      refine evu ?_
      simp only [optimal_Deviation.j0]
      refine evn (by simp) (Ev.bind (run_ev h1 h2) ?_)
      by_cases c3 : rE ins outs = 0
      · rw [if_pos c3]
        exact evp c3 (Ev.bind (dev_ev (by omega) (by omega) h2 (rE_zero c3)) (Ev.now _))
      · rw [if_neg c3]
        exact evn c3 (Ev.now _)

/-! ### the loss that is learned -/
def lrn (f : Int → Int) : Nat → Int → Int → Int → Int
  | 0, b, _, _ => b
  | n + 1, b, l, L => if f L < l then lrn f n L (f L) (L + 1) else lrn f n b l (L + 1)
theorem lrn_spec (f : Int → Int) : ∀ (n : Nat) (b l L : Int), l = f b → 0 ≤ b → b < L → (∀ m, 0 ≤ m → m < L → l ≤ f m) → (∀ m, 0 ≤ m → m < b → l < f m) →
    0 ≤ lrn f n b l L ∧ lrn f n b l L < L + n ∧ (∀ m, 0 ≤ m → m < L + n → f (lrn f n b l L) ≤ f m) ∧ (∀ m, 0 ≤ m → m < lrn f n b l L → f (lrn f n b l L) < f m)
  | 0, b, l, L, hl, h0, h1, h2, h3 => by
    subst hl
    exact ⟨h0, by simp [lrn]; omega, fun m m0 m1 => h2 m m0 (by omega), h3⟩
  | n + 1, b, l, L, hl, h0, h1, h2, h3 => by
    unfold lrn
    by_cases c : f L < l
    · rw [if_pos c]
      obtain ⟨a1, a2, a3, a4⟩ := lrn_spec f n L (f L) (L + 1) rfl (by omega) (by omega) (fun m m0 m1 => by
        by_cases e : m = L
        · rw [e]; exact Int.le_refl _
        · have := h2 m m0 (by omega); omega) (fun m m0 m1 => by have := h2 m m0 m1; omega)
      exact ⟨a1, by omega, fun m m0 m1 => a3 m m0 (by omega), a4⟩
    · rw [if_neg c]
      obtain ⟨a1, a2, a3, a4⟩ := lrn_spec f n b l (L + 1) hl h0 (by omega) (fun m m0 m1 => by
        by_cases e : m = L
        · rw [e]; omega
        · exact h2 m m0 (by omega)) h3
      exact ⟨a1, by omega, fun m m0 m1 => a3 m m0 (by omega), a4⟩
def lrn0 (ins outs : List Int) : Int := lrn (fun L => dv L ins outs) 1000 0 (dv 0 ins outs) 1
theorem lrn0_spec (ins outs : List Int) : 0 ≤ lrn0 ins outs ∧ lrn0 ins outs ≤ 1000 ∧ (∀ m, 0 ≤ m → m ≤ 1000 → dv (lrn0 ins outs) ins outs ≤ dv m ins outs) ∧ (∀ m, 0 ≤ m → m < lrn0 ins outs → dv (lrn0 ins outs) ins outs < dv m ins outs) := by
  obtain ⟨a1, a2, a3, a4⟩ := lrn_spec (fun L => dv L ins outs) 1000 0 (dv 0 ins outs) 1 rfl (by omega) (by omega) (fun m m0 m1 => by
    have : m = 0 := by omega
    subst this
    exact Int.le_refl _) (fun m m0 m1 => by omega)
  exact ⟨a1, by unfold lrn0; omega, fun m m0 m1 => a3 m m0 (by omega), a4⟩
theorem learn_loop {ins outs : List Int} (hl : outs.length ≤ 100) (R : Run ins outs) : ∀ (n : Nat) (b l L : Int), 1 ≤ L → L + n = 1001 → Ev (fun k => optimal_Learn.l0 k ins outs b l L) (lrn (fun L => dv L ins outs) n b l L, 0)
  | 0, b, l, L, h1, h2 => by
    refine evu ?_
    simp only [optimal_Learn.l0]
    exact evn (by omega) (Ev.now _)
  | n + 1, b, l, L, h1, h2 => by
    refine evu ?_
    simp only [optimal_Learn.l0]
    rw [w64 (x := L + 1) (by omega) (by omega)]
    refine evp (by omega) (Ev.bind (dev_ev (by omega) (by omega) hl R) ?_)
    unfold lrn
    by_cases c : dv L ins outs < l
    · rw [if_pos c]
      exact evp c (learn_loop hl R n L _ (L + 1) (by omega) (by omega))
    · rw [if_neg c]
      exact evn c (learn_loop hl R n b l (L + 1) (by omega) (by omega))
theorem Learn_ev {ins outs : List Int} (h1 : ins.length ≤ 100) (h2 : outs.length ≤ 100) : Ev (fun k => optimal_Learn.f k ins outs) (if rE ins outs = 0 then (lrn0 ins outs, 0) else (0, rE ins outs)) := by
  unfold optimal_Learn.f
  refine Ev.bind (run_ev h1 h2) ?_
  by_cases c3 : rE ins outs = 0
  · rw [if_pos c3]
    exact evp c3 (Ev.bind (dev_ev (by omega) (by omega) h2 (rE_zero c3)) (learn_loop h2 (rE_zero c3) 1000 0 _ 1 (by omega) (by omega)))
  · rw [if_neg c3]
    exact evn c3 (Ev.now _)
theorem rlearn_loop {ins outs : List Int} (hl : outs.length ≤ 100) (R : Run ins outs) : ∀ (n : Nat) (b l L : Int), 1 ≤ L → L + n = 1001 → Ev (fun k => plenumref36_Learn.l0 k ins outs b l L) (lrn (fun L => dv L ins outs) n b l L)
  | 0, b, l, L, h1, h2 => by
    refine evu ?_
    simp only [plenumref36_Learn.l0]
    exact evn (by omega) (Ev.now _)
  | n + 1, b, l, L, h1, h2 => by
    refine evu ?_
    simp only [plenumref36_Learn.l0]
    rw [w64 (x := L + 1) (by omega) (by omega)]
    refine evp (by omega) (Ev.bind (rdev_ev (by omega) (by omega) hl R) ?_)
    unfold lrn
    by_cases c : dv L ins outs < l
    · rw [if_pos c]
      exact evp c (rlearn_loop hl R n L _ (L + 1) (by omega) (by omega))
    · rw [if_neg c]
      exact evn c (rlearn_loop hl R n b l (L + 1) (by omega) (by omega))
theorem rlearn_ev {ins outs : List Int} (h2 : outs.length ≤ 100) (R : Run ins outs) : Ev (fun k => plenumref36_Learn.f k ins outs) (lrn0 ins outs) := by
  unfold plenumref36_Learn.f
  exact Ev.bind (rdev_ev (by omega) (by omega) h2 R) (rlearn_loop h2 R 1000 0 _ 1 (by omega) (by omega))
/-- A run that the model itself has made deviates from nothing. -/
theorem dv_rl (L : Int) : ∀ (outs : List Int) (t : Int), dv L (t :: rl L 0 60 t outs (List.replicate outs.length 0)) outs = 0
  | [], t => rfl
  | o :: outs, t => by
    have e : rl L 0 60 t (o :: outs) (List.replicate (o :: outs).length 0) = nx L 0 o 0 60 t :: rl L 0 60 (nx L 0 o 0 60 t) outs (List.replicate outs.length 0) := rfl
    rw [e]
    show dist (nx L 0 o 0 60 t) (nx L 0 o 0 60 t) + dv L (nx L 0 o 0 60 t :: _) outs = 0
    rw [dv_rl L outs]
    unfold dist
    rw [if_pos (Int.le_refl _)]; omega
theorem rl_Tok (L d : Int) : ∀ (outs hs : List Int) (t : Int), ∀ x ∈ rl L 0 d t outs hs, Tok x
  | [], _, t, x, hx => by simp [rl] at hx
  | o :: outs, [], t, x, hx => by simp [rl] at hx
  | o :: outs, h :: hs, t, x, hx => by
    unfold rl at hx
    cases List.mem_cons.1 hx with
    | inl e => rw [e]; exact nx_Tok _ _ _ _ _ _
    | inr e => exact rl_Tok L d outs hs _ x e
end Go.Proofs.Ytpehicdglooeaaa.M
