-- What the program's arithmetic computes at small numbers: quotients, products over a number, lines.
import Derived.Test.YtbfcplnaafnlhaaDoorRef
import Derived.Test.YtbfcplnaafnlhaaDoorPTx8
import Derived.Test.YtbfcplnaafnlhaaDoorPTx7
import Derived.Test.YtbfcplnaafnlhaaDoorPTx6
namespace Go.Proofs.YtbfcplnaafnlhaaDoor.Pure
open Go.RowKit Go.Proofs.YtbfcplnaafnlhaaDoor.PT Go.Proofs.YtbfcplnaafnlhaaDoorW.PrintWords Go.Proofs.YtbfcplnaafnlhaaDoorW.PrintLast Go.Proofs.YtbfcplnaafnlhaaDoorW.PrintMore
set_option linter.unusedVariables false
set_option linter.unusedSimpArgs false
theorem div64s {k : Nat} {N w : Int} (h0 : 0 ≤ N) (h1 : N < 18446744073709551616) (hw : 0 < w) : bits_Div64.f k 0 N w = some (N / w, N % w) := by
  have q0 : 0 ≤ N / w := Int.ediv_nonneg h0 (by omega)
  have q1 : N / w ≤ N := Int.ediv_le_self _ h0
  unfold bits_Div64.f
  rw [if_neg (by omega), if_neg (by omega), if_pos rfl, Int.tdiv_eq_ediv_of_nonneg h0, Int.tmod_eq_emod_of_nonneg h0, wu_id q0 (by omega)]
theorem quo_ev (neg : Bool) {N w : Int} (h0 : 0 ≤ N) (h1 : N < 18446744073709551616) (hw0 : 0 < w) (hw : w ≤ 4000000000000) (hN : N ≤ 1000000000000 * w) :
    Ev (fun k => fixed_quotient.f k 0 N w neg) (R (if neg = true then -N else N) w) := by
  have e := Int.mul_ediv_add_emod N w
  have r0 := Int.emod_nonneg N (show w ≠ 0 by omega)
  have r1 := Int.emod_lt_of_pos N hw0
  have q0 : 0 ≤ N / w := Int.ediv_nonneg h0 (by omega)
  have q1 : N / w ≤ 1000000000000 := Int.ediv_le_of_le_mul hw0 hN
  have hmax : N / w = 1000000000000 → N % w = 0 := fun h => by rw [h] at e; omega
  have hR : R (if neg = true then -N else N) w = if neg = true then -(if N % w ≥ w - N % w then N / w + 1 else N / w) else (if N % w ≥ w - N % w then N / w + 1 else N / w) := by
    cases neg
    · simp only [Bool.false_eq_true, if_false]; exact R_pos hw0 h0
    · simp only [if_true]; exact R_neg hw0 h0
  rw [hR]
  have hpre : ∀ k, fixed_quotient.f k 0 N w neg = if N / w < 1000000000000 then fixed_quotient.j0 k neg 1000000000000 (N / w) (decide (N % w ≥ w - N % w)) else fixed_quotient.j0 k neg 1000000000000 (N / w) false := by
    intro k
    unfold fixed_quotient.f
    rw [if_pos hw0, div64s h0 h1 hw0]
    simp only [Option.bind_some]
    rw [wu_id (x := w - N % w) (by omega) (by omega)]
  refine Ev.congr hpre ?_
  generalize N / w = q at *
  generalize N % w = r at *
  by_cases hqm : q < 1000000000000
  · have hm : mn 1000000000000 (q + 1) = q + 1 := by unfold mn; split <;> omega
    have hm' : mn 1000000000000 q = q := by unfold mn; split <;> omega
    refine evs (f := fun k => some _) (fun k => ?_) (Ev.now _)
    rw [if_pos hqm]
    simp only [fixed_quotient.j0]
    rw [wu_id (x := q + 1) (by omega) (by omega), hm, hm', w64s (x := q + 1) (by omega) (by omega), w64s (x := q) (by omega) (by omega), w64s (x := -(q + 1)) (by omega) (by omega), w64s (x := -q) (by omega) (by omega)]
    by_cases hr : r ≥ w - r
    · rw [if_pos (decide_eq_true hr), if_pos hr]; cases neg <;> rfl
    · rw [if_neg (by simpa using hr), if_neg hr]; cases neg <;> rfl
  · have hq' : q = 1000000000000 := by omega
    have hr := hmax hq'
    subst hq'
    refine evs (f := fun k => some _) (fun k => ?_) (Ev.now _)
    have hnr : ¬ (r ≥ w - r) := by omega
    rw [if_neg hqm, if_neg hnr]
    simp only [fixed_quotient.j0]
    rw [show mn 1000000000000 1000000000000 = 1000000000000 by decide, w64s (x := 1000000000000) (by omega) (by omega), w64s (x := -1000000000000) (by omega) (by omega)]
    cases neg <;> simp
def big (x : Int) : Prop := -4294967295 ≤ x ∧ x ≤ 4294967295
theorem R_zero (c : Int) (hc : 0 < c) : R 0 c = 0 := by have := R_mul (y := 0) hc; rwa [Int.zero_mul] at this
theorem muldiv_ev {a b c : Int} (ha : big a) (b0 : 0 ≤ b) (b1 : b ≤ 4294967295) (c0 : 0 < c) (c1 : c ≤ 1000000000000) (h0 : -(1000000000000 * c) ≤ a * b) (h1 : a * b ≤ 1000000000000 * c) :
    Ev (fun k => fixed_MulDiv.f k a b c) (R (a * b) c) := by
  obtain ⟨a0, a1⟩ := ha
  obtain ⟨P, hP⟩ : ∃ P, P = (if a < 0 then -a else a) * b := ⟨_, rfl⟩
  have hPs : a * b = if a < 0 then -P else P := by
    split
    · rw [hP, if_pos (by assumption), Int.neg_mul, Int.neg_neg]
    · rw [hP, if_neg (by assumption)]
  have hP0 : 0 ≤ P ∧ P ≤ 18446744065119617025 := by
    rw [hP]
    exact mul_lt32 (by split <;> omega) (by split <;> omega) b0 (by omega)
  have hpre : ∀ k, fixed_MulDiv.f k a b c = if P = 0 then some 0 else fixed_MulDiv.j0 k (decide (a < 0)) false c false false 0 P := by
    intro k
    unfold fixed_MulDiv.f
    rw [cl_id (by omega) (by omega), cl_id (x := b) (by omega) (by omega), cl_id (x := c) (by omega) (by omega)]
    simp only [Option.bind_some]
    rw [size_id (by omega) (by omega), size_pos (x := b) (by omega) (by omega), size_pos (x := c) (by omega) (by omega)]
    simp only [Option.bind_some]
    rw [mul64s (by split <;> omega) (by split <;> omega) b0 (by omega), ← hP]
    simp only [Option.bind_some]
    rw [if_neg (show ¬ c = 0 by omega)]
    by_cases hz : P = 0
    · rw [if_pos hz, hz]; rfl
    · rw [if_neg hz, if_neg (by simpa using hz)]
  refine Ev.congr hpre ?_
  rw [hPs]
  by_cases hz : P = 0
  · refine Ev.congr (fun k => if_pos hz) ?_
    have : (if a < 0 then -P else P) = 0 := by split <;> omega
    rw [this, R_zero c c0]
    exact Ev.now _
  · refine Ev.congr (fun k => if_neg hz) ?_
    refine evs (f := fun k => (fixed_quotient.f k 0 P c (decide (a < 0))).bind fun t => some t) (fun k => ?_) ?_
    · simp only [fixed_MulDiv.j0]
      rw [if_neg (by decide), if_neg (by omega)]
      simp
    · have hq := quo_ev (decide (a < 0)) hP0.1 (show P < 18446744073709551616 by omega) c0 (by omega) (by rw [hPs] at h0 h1; split at h0 <;> split at h1 <;> omega)
      refine Ev.bind hq ?_
      simp only [decide_eq_true_eq]
      exact Ev.now _
theorem rmuldiv_ev {a b c : Int} (ha : big a) (b0 : 0 ≤ b) (b1 : b ≤ 4294967295) (c0 : 0 < c) (c1 : c ≤ 1000000000000) (h0 : -(1000000000000 * c) ≤ a * b) (h1 : a * b ≤ 1000000000000 * c) :
    Ev (fun k => plenumref01_MulDiv.f k a b c) (R (a * b) c) := by
  obtain ⟨a0, a1⟩ := ha
  obtain ⟨P, hP⟩ : ∃ P, P = (a.natAbs : Int) * b := ⟨_, rfl⟩
  have hPs : a * b = if a < 0 then -P else P := by
    split
    · rw [hP, show (a.natAbs : Int) = -a by omega, Int.neg_mul, Int.neg_neg]
    · rw [hP, show (a.natAbs : Int) = a by omega]
  have hP0 : 0 ≤ P ∧ P ≤ 18446744065119617025 := by
    rw [hP]
    exact mul_lt32 (by omega) (by omega) b0 (by omega)
  have hpre : ∀ k, plenumref01_MulDiv.f k a b c = plenumref01_MulDiv.j0 k a b c (decide (a < 0)) (decide (a = 0 ∨ b = 0)) := by
    intro k
    unfold plenumref01_MulDiv.f
    rw [rclamp_of (by omega) (by omega), rclamp_of (n := b) (by omega) (by omega), rclamp_of (n := c) (by omega) (by omega)]
    simp only [Option.bind_some]
    rw [decide_eq_false (show ¬ b < 0 by omega)]
    by_cases ha0 : a = 0
    · rw [if_pos ha0, decide_eq_true (show a = 0 ∨ b = 0 from .inl ha0)]; simp
    · rw [if_neg ha0]
      by_cases hb0 : b = 0
      · rw [decide_eq_true (show a = 0 ∨ b = 0 from .inr hb0)]; simp [hb0]
      · rw [decide_eq_false (show ¬ (a = 0 ∨ b = 0) by omega), show (b == 0) = false by simpa using hb0]; simp
  refine Ev.congr hpre ?_
  by_cases hz : a = 0 ∨ b = 0
  · rw [decide_eq_true hz]
    have hab : a * b = 0 := by rcases hz with h | h <;> simp [h]
    rw [hab, R_zero c c0]
    exact evs (f := fun k => some _) (fun k => rfl) (Ev.now _)
  · rw [decide_eq_false hz]
    refine evs (f := fun k => (plenumref01_rounded.f k (decide (a < 0)) (P / 18446744073709551616) (P % 18446744073709551616) c).bind fun t => some t) (fun k => ?_) ?_
    · simp only [plenumref01_MulDiv.j0]
      rw [if_neg (by decide), if_neg (by omega), rsize_of (by omega) (by omega), rsize_of (n := b) (by omega) (by omega), rsize_of (n := c) (by omega) (by omega)]
      simp only [Option.bind_some]
      rw [show (b.natAbs : Int) = b by omega, show (c.natAbs : Int) = c by omega, rprod64 (by omega) (by omega) b0 (by omega), ← hP]
      simp only [Option.bind_some]
      rw [decide_eq_false (show ¬ c < 0 by omega)]
      simp
    · have hq := rounded_ev (decide (a < 0)) hP0.1 c0 (show c ≤ 4000000000000 by omega) (by rw [hPs] at h0 h1; split at h0 <;> split at h1 <;> omega)
      refine Ev.bind hq ?_
      rw [hPs]
      simp only [decide_eq_true_eq]
      exact Ev.now _
theorem fline_ev {a b : S37} {x : Int} (a0 : sml a.f0) (a1 : sml a.f1) (b0 : sml b.f0) (b1 : sml b.f1) (hx0 : a.f0 ≤ x) (hx1 : x ≤ b.f0) (h : a.f0 < b.f0) :
    Ev (fun k => fixed_Line.f k x a.f0 a.f1 b.f0 b.f1) (ip a b x) := by
  have hx : sml x := by unfold sml at *; omega
  unfold fixed_Line.f
  simp only [if_pos (show sml x ∧ sml a.f0 ∧ sml a.f1 ∧ sml b.f0 ∧ sml b.f1 ∧ a.f0 < b.f0 from ⟨hx, a0, a1, b0, b1, h⟩)]
  by_cases c1 : x ≤ a.f0
  · simp only [if_pos c1]
    have : x = a.f0 := by omega
    rw [this, ip_left h]
    exact Ev.now _
  simp only [if_neg c1]
  by_cases c2 : x ≥ b.f0
  · simp only [if_pos c2]
    have : x = b.f0 := by omega
    rw [this, ip_right h]
    exact Ev.now _
  simp only [if_neg c2]
  unfold sml at *
  obtain ⟨P, hP⟩ : ∃ P, P = (x - a.f0) * (if b.f1 - a.f1 < 0 then -(b.f1 - a.f1) else b.f1 - a.f1) := ⟨_, rfl⟩
  obtain ⟨Q, hQ⟩ : ∃ Q, Q = (if a.f1 < 0 then -a.f1 else a.f1) * (b.f0 - a.f0) := ⟨_, rfl⟩
  have P0 : 0 ≤ P := by rw [hP]; exact Int.mul_nonneg (by omega) (by split <;> omega)
  have Q0 : 0 ≤ Q := by rw [hQ]; exact Int.mul_nonneg (by split <;> omega) (by omega)
  have P1 : P ≤ (b.f0 - a.f0) * 2000000 := by
    rw [hP]
    exact Int.mul_le_mul (by omega) (by split <;> omega) (by split <;> omega) (by omega)
  have Q1 : Q ≤ 1000000 * (b.f0 - a.f0) := by rw [hQ]; exact Int.mul_le_mul_of_nonneg_right (by split <;> omega) (by omega)
  have hPs : (x - a.f0) * (b.f1 - a.f1) = if b.f1 - a.f1 < 0 then -P else P := by
    rw [hP]
    split
    · rw [Int.mul_neg, Int.neg_neg]
    · rfl
  have hQs : a.f1 * (b.f0 - a.f0) = if a.f1 < 0 then -Q else Q := by
    rw [hQ]
    split
    · rw [Int.neg_mul, Int.neg_neg]
    · rfl
  unfold ip
  rw [hPs, hQs]
  have hS : lnS x a.f0 a.f1 b.f0 b.f1 = if decide (b.f1 - a.f1 < 0) = decide (a.f1 < 0) then decide (a.f1 < 0) else if P ≤ Q then decide (a.f1 < 0) else decide (b.f1 - a.f1 < 0) := by rw [hP, hQ]; rfl
  have hN : lnN x a.f0 a.f1 b.f0 b.f1 = if decide (b.f1 - a.f1 < 0) = decide (a.f1 < 0) then P + Q else if P ≤ Q then Q - P else P - Q := by rw [hP, hQ]; rfl
  have hN0 : 0 ≤ lnN x a.f0 a.f1 b.f0 b.f1 ∧ lnN x a.f0 a.f1 b.f0 b.f1 ≤ 3000000 * (b.f0 - a.f0) := by
    rw [hN]
    split
    · omega
    · split <;> omega
  have e : (if lnS x a.f0 a.f1 b.f0 b.f1 = true then -lnN x a.f0 a.f1 b.f0 b.f1 else lnN x a.f0 a.f1 b.f0 b.f1) = (if a.f1 < 0 then -Q else Q) + (if b.f1 - a.f1 < 0 then -P else P) := by
    rw [hS, hN]
    by_cases u : a.f1 < 0 <;> by_cases v : b.f1 - a.f1 < 0 <;> by_cases z : P ≤ Q <;> simp [u, v, z] <;> omega
  rw [← e]
  exact quo_ev _ hN0.1 (by omega) (by omega) (by omega) (by omega)
/-- The reference's line, its left end too. -/
theorem rline_ev {a b : S37} {x : Int} (ha : okI a) (hb : okI b) (h0 : a.f0 ≤ x) (h1 : x < b.f0) : Ev (fun k => plenumref01_Line.f k x a.f0 a.f1 b.f0 b.f1) (ip a b x) := by
  by_cases h : a.f0 < x
  · exact line_ev ha hb h h1
  have hx : x = a.f0 := by omega
  subst hx
  rw [ip_left h1]
  obtain ⟨a0, a1, a2, a3⟩ := ha
  obtain ⟨b0, b1, b2, b3⟩ := hb
  refine Ev.congr (fun k => ?_) (Ev.now _)
  unfold plenumref01_Line.f
  rw [rclamp_of (by omega) (by omega), rclamp_of (by omega) (by omega), rclamp_of (by omega) (by omega), rclamp_of (by omega) (by omega)]
  simp only [Option.bind_some]
  rw [if_neg (by omega), if_pos (Int.le_refl _)]
end Go.Proofs.YtbfcplnaafnlhaaDoor.Pure
