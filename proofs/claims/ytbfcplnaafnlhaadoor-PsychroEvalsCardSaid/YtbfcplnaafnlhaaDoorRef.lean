-- What the reference tells of the value: the line through two points, reckoned with 128 bits; products and quotients.
import Derived.Test.YtbfcplnaafnlhaaDoorLine
import Derived.Test.YtbfcplnaafnlhaaDoorR
import Derived.Test.YtbfcplnaafnlhaaDoorPTx27
import Derived.Test.YtbfcplnaafnlhaaDoorPTx18
import Derived.Test.YtbfcplnaafnlhaaDoorPTx19
import Derived.Test.YtbfcplnaafnlhaaDoorPTx25
import Derived.Test.YtbfcplnaafnlhaaDoorPTx26
import Derived.Test.YtbfcplnaafnlhaaDoorPTx20
namespace Go.Proofs.YtbfcplnaafnlhaaDoor.Pure
open Go.RowKit Go.Proofs.YtbfcplnaafnlhaaDoor.PT Go.Proofs.YtbfcplnaafnlhaaDoorW.PrintWords Go.Proofs.YtbfcplnaafnlhaaDoorW.PrintLast Go.Proofs.YtbfcplnaafnlhaaDoorW.PrintMore
set_option linter.unusedVariables false
set_option linter.unusedSimpArgs false
theorem evs {α : Type} {g f : Nat → Option α} {r : α} (h : ∀ k, g (k + 1) = f k) (k : Ev f r) : Ev g r := Ev.step h k
def okI (x : S37) : Prop := -1000000000000 ≤ x.f0 ∧ x.f0 ≤ 1000000000000 ∧ -1000000000000 ≤ x.f1 ∧ x.f1 ≤ 1000000000000
theorem mul_lt32 {x y : Int} (h0 : 0 ≤ x) (h1 : x < 4294967296) (g0 : 0 ≤ y) (g1 : y < 4294967296) : 0 ≤ x * y ∧ x * y ≤ 18446744065119617025 := by
  have h2 : x * y ≤ 4294967295 * y := Int.mul_le_mul_of_nonneg_right (by omega) g0
  exact ⟨Int.mul_nonneg h0 g0, by omega⟩
/-! ### rounding by size and sign -/
theorem R_pos {N w : Int} (hw : 0 < w) (hN : 0 ≤ N) : R N w = if N % w ≥ w - N % w then N / w + 1 else N / w := by
  have q0 : 0 ≤ N / w := Int.ediv_nonneg hN (by omega)
  unfold R
  by_cases h : N % w ≥ w - N % w
  · rw [if_pos h, if_pos (by omega)]
  · rw [if_neg h, if_neg (by omega)]
theorem R_neg {N w : Int} (hw : 0 < w) (hN : 0 ≤ N) : R (-N) w = -(if N % w ≥ w - N % w then N / w + 1 else N / w) := by
  have q0 : 0 ≤ N / w := Int.ediv_nonneg hN (by omega)
  have e := Int.mul_ediv_add_emod N w
  have r0 := Int.emod_nonneg N (show w ≠ 0 by omega)
  have r1 := Int.emod_lt_of_pos N hw
  unfold R
  by_cases hz : N % w = 0
  · obtain ⟨z1, z2⟩ := (Int.ediv_emod_unique (a := -N) (b := w) (r := 0) (q := -(N / w)) hw).2 ⟨by rw [Int.mul_neg]; omega, by omega, by omega⟩
    rw [z1, z2, hz, if_neg (by omega), if_neg (by omega)]
  · obtain ⟨z1, z2⟩ := (Int.ediv_emod_unique (a := -N) (b := w) (r := w - N % w) (q := -(N / w) - 1) hw).2 ⟨by rw [Int.mul_sub, Int.mul_neg]; omega, by omega, by omega⟩
    rw [z1, z2]
    by_cases h : N % w ≥ w - N % w
    · rw [if_pos h, if_neg (by omega)]; omega
    · rw [if_neg h, if_pos (by omega)]; omega

/-! ### the division, bit by bit -/
theorem quot_loop {c hi lo : Int} (hc0 : 0 < c) (hc : c ≤ 4611686018427387904) (hl0 : 0 ≤ lo) (hl1 : lo < 18446744073709551616) :
    ∀ (j : Nat), j ≤ 64 → ∀ (rest q : Int), 0 ≤ rest → rest < c → 0 ≤ q → (q + 1) * 2 ^ j ≤ 18446744073709551616 →
      Ev (fun k => plenumref01_quotient.l0 k c rest q ((j : Int) - 1) hi lo) (q * 2 ^ j + (rest * 2 ^ j + lo % 2 ^ j) / c, (rest * 2 ^ j + lo % 2 ^ j) % c)
  | 0, _, rest, q, h0, h1, hq, hb => by
    have e1 : rest * 2 ^ 0 + lo % 2 ^ 0 = rest := by simp [Int.emod_one]
    rw [e1, Int.ediv_eq_zero_of_lt h0 h1, Int.emod_eq_of_lt h0 h1]
    refine evs (f := fun k => some _) (fun k => ?_) (Ev.now _)
    simp only [plenumref01_quotient.l0]
    rw [if_neg (by omega)]
    simp
  | j + 1, hj, rest, q, h0, h1, hq, hb => by
    have hP : (0 : Int) < 2 ^ j := Int.pow_pos (by decide)
    have hPs : (2 : Int) ^ (j + 1) = 2 * 2 ^ j := by rw [Int.pow_succ]; omega
    have hbit0 : 0 ≤ lo / 2 ^ j % 2 := Int.emod_nonneg _ (by decide)
    have hbit1 : lo / 2 ^ j % 2 < 2 := Int.emod_lt_of_pos _ (by decide)
    have hlm : lo % 2 ^ (j + 1) = lo / 2 ^ j % 2 * 2 ^ j + lo % 2 ^ j := by
      have e1 := Int.mul_ediv_add_emod lo (2 ^ j)
      have e2 := Int.mul_ediv_add_emod (lo / 2 ^ j) 2
      have r0 := Int.emod_nonneg lo (show (2 : Int) ^ j ≠ 0 by omega)
      have r1 := Int.emod_lt_of_pos lo hP
      have hu := (Int.ediv_emod_unique (a := lo) (b := 2 ^ (j + 1)) (r := lo / 2 ^ j % 2 * 2 ^ j + lo % 2 ^ j) (q := lo / 2 ^ j / 2) (by omega)).2
      refine (hu ⟨?_, ?_, ?_⟩).2
      · rw [hPs]
        generalize lo / 2 ^ j = L at *
        generalize (2 : Int) ^ j = P at *
        generalize lo % P = m at *
        generalize L / 2 = h at *
        generalize L % 2 = b at *
        have : P * L = P * (2 * h + b) := by rw [e2]
        grind
      · have := Int.mul_nonneg hbit0 (show 0 ≤ (2 : Int) ^ j by omega)
        omega
      · have : lo / 2 ^ j % 2 * 2 ^ j ≤ 1 * 2 ^ j := Int.mul_le_mul_of_nonneg_right (by omega) (by omega)
        omega
    have hmP0 : 0 ≤ lo % 2 ^ j := Int.emod_nonneg _ (by omega)
    have hq1 : (q + 1) * 2 ^ (j + 1) = (2 * q + 2) * 2 ^ j := by rw [hPs]; grind
    rw [hq1] at hb
    have hqs : 2 * q + 2 ≤ 18446744073709551616 := by
      have : (2 * q + 2) * 1 ≤ (2 * q + 2) * 2 ^ j := Int.mul_le_mul_of_nonneg_left (by omega) (by omega)
      omega
    have hi1 : ((j + 1 : Nat) : Int) - 1 = (j : Int) := by omega
    have hshr : shr .u64 lo (IntKind.u64.wrap (j : Int)) = lo / 2 ^ j := by
      rw [wu_id (by omega) (by omega)]
      show lo / 2 ^ min (j : Int).toNat 64 = _
      rw [Int.toNat_natCast, show min j 64 = j by omega]
    have hld0 : 0 ≤ lo / 2 ^ j := Int.ediv_nonneg hl0 (by omega)
    have hld1 : lo / 2 ^ j < 18446744073709551616 := Int.lt_of_le_of_lt (Int.ediv_le_self _ hl0) hl1
    have hand : Go.bits .and .u64 (lo / 2 ^ j) 1 = lo / 2 ^ j % 2 := by
      have := bits_mask .u64 64 (by decide) wu_pow 1 (by decide) (lo / 2 ^ j) hld0 hld1
      simpa using this
    have hor : Go.bits .or .u64 (IntKind.u64.wrap (rest * 2)) (lo / 2 ^ j % 2) = rest * 2 + lo / 2 ^ j % 2 := by
      rw [wu_id (x := rest * 2) (by omega) (by omega)]
      exact bits_join .u64 64 (by decide) wu_pow 1 _ _ (by omega) (by show rest * 2 % 2 = 0; omega) (by show rest * 2 < 18446744073709551616; omega) hbit0 hbit1 (by show lo / 2 ^ j % 2 < 18446744073709551616; omega)
    have hnew : rest * 2 ^ (j + 1) + lo % 2 ^ (j + 1) = (rest * 2 + lo / 2 ^ j % 2) * 2 ^ j + lo % 2 ^ j := by
      rw [hlm, hPs]
      generalize lo / 2 ^ j % 2 = b at *
      generalize (2 : Int) ^ j = P at *
      grind
    rw [hnew, hi1]
    obtain ⟨b, hb'⟩ : ∃ b, b = lo / 2 ^ j % 2 := ⟨_, rfl⟩
    rw [← hb'] at hbit0 hbit1 hand hor ⊢
    have hw1 : wrap64 ((j : Int) - 1) = (j : Int) - 1 := w64s (by omega) (by omega)
    by_cases hge : rest * 2 + b ≥ c
    · have ih := quot_loop (hi := hi) hc0 hc hl0 hl1 j (by omega) (rest * 2 + b - c) (2 * q + 1) (by omega) (by omega) (by omega) (by rw [show 2 * q + 1 + 1 = 2 * q + 2 by omega]; exact hb)
      have e : ((2 * q + 1) * 2 ^ j + ((rest * 2 + b - c) * 2 ^ j + lo % 2 ^ j) / c, ((rest * 2 + b - c) * 2 ^ j + lo % 2 ^ j) % c) = (q * 2 ^ (j + 1) + ((rest * 2 + b) * 2 ^ j + lo % 2 ^ j) / c, ((rest * 2 + b) * 2 ^ j + lo % 2 ^ j) % c) := by
        have e1 : (rest * 2 + b) * 2 ^ j + lo % 2 ^ j = ((rest * 2 + b - c) * 2 ^ j + lo % 2 ^ j) + 2 ^ j * c := by
          generalize (2 : Int) ^ j = P at *
          generalize lo % P = m at *
          grind
        rw [e1, Int.add_mul_ediv_right _ _ (by omega), Int.add_mul_emod_self_right, hPs]
        refine Prod.ext ?_ rfl
        show _ = _
        simp only []
        generalize ((rest * 2 + b - c) * 2 ^ j + lo % 2 ^ j) / c = z
        generalize (2 : Int) ^ j = P
        grind
      rw [e] at ih
      refine evs (fun k => ?_) ih
      simp only [plenumref01_quotient.l0]
      rw [if_pos (by omega), hshr, hand, hor, if_pos (by rw [wu_id (by omega) (by omega)]; omega), if_neg (by omega), if_pos hge, hw1, wu_id (x := rest * 2 + b - c) (by omega) (by omega), wu_id (x := q * 2) (by omega) (by omega), wu_id (x := q * 2 + 1) (by omega) (by omega), Int.mul_comm q 2]
    · have ih := quot_loop (hi := hi) hc0 hc hl0 hl1 j (by omega) (rest * 2 + b) (2 * q) (by omega) (by omega) (by omega) (by
        have : (2 * q + 1) * 2 ^ j ≤ (2 * q + 2) * 2 ^ j := Int.mul_le_mul_of_nonneg_right (by omega) (by omega)
        omega)
      have e : 2 * q * 2 ^ j = q * 2 ^ (j + 1) := by rw [hPs]; grind
      rw [e] at ih
      refine evs (fun k => ?_) ih
      simp only [plenumref01_quotient.l0]
      rw [if_pos (by omega), hshr, hand, hor, if_pos (by rw [wu_id (by omega) (by omega)]; omega), if_neg (by omega), if_neg hge, hw1, wu_id (x := q * 2) (by omega) (by omega), Int.mul_comm q 2]
theorem quot_ev {N c : Int} (hN0 : 0 ≤ N) (hc0 : 0 < c) (hc : c ≤ 4611686018427387904) (hN : N < c * 18446744073709551616) : Ev (fun k => plenumref01_quotient.f k (N / 18446744073709551616) (N % 18446744073709551616) c) (N / c, N % c) := by
  have h := quot_loop (c := c) (hi := N / 18446744073709551616) (lo := N % 18446744073709551616) hc0 hc (by omega) (by omega) 64 (Nat.le_refl _) (N / 18446744073709551616) 0 (by omega) (by omega) (by omega) (by decide)
  have e : N / 18446744073709551616 * 2 ^ 64 + N % 18446744073709551616 % 2 ^ 64 = N := by
    show N / 18446744073709551616 * 18446744073709551616 + N % 18446744073709551616 % 18446744073709551616 = N
    omega
  rw [e, Int.zero_mul, Int.zero_add] at h
  refine Ev.congr (fun k => ?_) h
  unfold plenumref01_quotient.f
  rw [if_neg (by omega)]
  rfl
theorem rounded_ev (neg : Bool) {N w : Int} (hN0 : 0 ≤ N) (hw0 : 0 < w) (hw : w ≤ 4000000000000) (hN : N ≤ 1000000000000 * w) : Ev (fun k => plenumref01_rounded.f k neg (N / 18446744073709551616) (N % 18446744073709551616) w) (R (if neg = true then -N else N) w) := by
  have e := Int.mul_ediv_add_emod N w
  have r0 := Int.emod_nonneg N (show w ≠ 0 by omega)
  have r1 := Int.emod_lt_of_pos N hw0
  have q0 : 0 ≤ N / w := Int.ediv_nonneg hN0 (by omega)
  have q1 : N / w ≤ 1000000000000 := Int.ediv_le_of_le_mul hw0 hN
  have hq := quot_ev hN0 hw0 (by omega) (show N < w * 18446744073709551616 by omega)
  have hmax : N / w = 1000000000000 → N % w = 0 := fun h => by rw [h] at e; omega
  have hR : R (if neg = true then -N else N) w = if neg = true then -(if N % w ≥ w - N % w then N / w + 1 else N / w) else (if N % w ≥ w - N % w then N / w + 1 else N / w) := by
    cases neg
    · simp only [Bool.false_eq_true, if_false]; exact R_pos hw0 hN0
    · simp only [if_true]; exact R_neg hw0 hN0
  rw [hR]
  unfold plenumref01_rounded.f
  refine Ev.bind hq ?_
  simp only []
  generalize N / w = q at *
  generalize N % w = r at *
  rw [wu_id (x := w - r) (by omega) (by omega)]
  by_cases hqm : q ≥ 1000000000000
  · have hq' : q = 1000000000000 := by omega
    have hr := hmax hq'
    subst hq'
    have hnn : ¬ ((0 : Int) ≥ w - 0) := by omega
    simp only [hr, hnn, if_false, show (1000000000000 : Int) ≥ 1000000000000 from by omega, if_true]
    cases neg <;> simp <;> exact Ev.now _
  · rw [wu_id (x := q + 1) (by omega) (by omega), w64s (x := q + 1) (by omega) (by omega), w64s (x := q) (by omega) (by omega), w64s (x := -(q + 1)) (by omega) (by omega), w64s (x := -q) (by omega) (by omega)]
    simp only [hqm, if_false]
    by_cases hr : r ≥ w - r
    · simp only [hr, if_true]
      cases neg <;> simp <;> exact Ev.now _
    · simp only [hr, if_false]
      cases neg <;> simp <;> exact Ev.now _
/-! ### products of 128 bits -/
theorem rprod64 {a b : Int} (a0 : 0 ≤ a) (a1 : a < 18446744073709551616) (b0 : 0 ≤ b) (b1 : b < 18446744073709551616) :
    plenumref01_product.f a b = some (a * b / 18446744073709551616, a * b % 18446744073709551616) := by
  unfold plenumref01_product.f
  rw [Int.tdiv_eq_ediv_of_nonneg a0, Int.tdiv_eq_ediv_of_nonneg b0, Int.tmod_eq_emod_of_nonneg a0, Int.tmod_eq_emod_of_nonneg b0, wu_id (x := a / 4294967296) (by omega) (by omega), wu_id (x := b / 4294967296) (by omega) (by omega)]
  have hab : a * b = (a / 4294967296) * (b / 4294967296) * 18446744073709551616 + ((a / 4294967296) * (b % 4294967296) + (a % 4294967296) * (b / 4294967296)) * 4294967296 + (a % 4294967296) * (b % 4294967296) := by
    have ha : a = (a / 4294967296) * 4294967296 + a % 4294967296 := by omega
    have hb : b = (b / 4294967296) * 4294967296 + b % 4294967296 := by omega
    generalize a / 4294967296 = ah at *
    generalize a % 4294967296 = al at *
    generalize b / 4294967296 = bh at *
    generalize b % 4294967296 = bl at *
    subst ha hb
    grind
  obtain ⟨p1, p1'⟩ := mul_lt32 (x := a / 4294967296) (y := b / 4294967296) (by omega) (by omega) (by omega) (by omega)
  obtain ⟨p2, p2'⟩ := mul_lt32 (x := a / 4294967296) (y := b % 4294967296) (by omega) (by omega) (by omega) (by omega)
  obtain ⟨p3, p3'⟩ := mul_lt32 (x := a % 4294967296) (y := b / 4294967296) (by omega) (by omega) (by omega) (by omega)
  obtain ⟨p4, p4'⟩ := mul_lt32 (x := a % 4294967296) (y := b % 4294967296) (by omega) (by omega) (by omega) (by omega)
  rw [hab]
  generalize a / 4294967296 * (b / 4294967296) = hh at *
  generalize a / 4294967296 * (b % 4294967296) = hl at *
  generalize a % 4294967296 * (b / 4294967296) = lh at *
  generalize a % 4294967296 * (b % 4294967296) = ll at *
  rw [wu_id (x := ll) p4 (by omega), wu_id (x := hl) p2 (by omega), wu_id (x := lh) p3 (by omega), wu_id (x := hh) p1 (by omega)]
  rw [Int.tdiv_eq_ediv_of_nonneg p4, Int.tmod_eq_emod_of_nonneg p4, wu_id (x := ll / 4294967296) (by omega) (by omega), wu_id (x := hl + ll / 4294967296) (by omega) (by omega)]
  rw [Int.tdiv_eq_ediv_of_nonneg (show 0 ≤ hl + ll / 4294967296 by omega), Int.tmod_eq_emod_of_nonneg (show 0 ≤ hl + ll / 4294967296 by omega)]
  rw [wu_id (x := (hl + ll / 4294967296) % 4294967296 + lh) (by omega) (by omega)]
  rw [Int.tdiv_eq_ediv_of_nonneg (show 0 ≤ (hl + ll / 4294967296) % 4294967296 + lh by omega), Int.tmod_eq_emod_of_nonneg (show 0 ≤ (hl + ll / 4294967296) % 4294967296 + lh by omega)]
  simp only [wu]
  refine congrArg some (Prod.ext ?_ ?_)
  · show _ = _
    simp only []
    omega
  · show _ = _
    simp only []
    omega
theorem rsize_of {n : Int} (h0 : -9223372036854775808 < n) (h1 : n < 9223372036854775808) : plenumref01_size.f n = some (n.natAbs : Int) := by
  unfold plenumref01_size.f
  split
  · rw [w64s (by omega) (by omega), wu_id (by omega) (by omega)]
    exact congrArg some (by omega)
  · rw [wu_id (by omega) (by omega)]
    exact congrArg some (by omega)
theorem rclamp_of {n : Int} (h0 : -1000000000000 ≤ n) (h1 : n ≤ 1000000000000) : plenumref01_Clamp.f n = some n := by
  unfold plenumref01_Clamp.f mx mn
  refine congrArg some ?_
  split <;> split <;> omega
theorem rsum_of {A B : Int} (hA0 : 0 ≤ A) (hA : A ≤ 4000000000000000000000000) (hB0 : 0 ≤ B) (hB : B ≤ 4000000000000000000000000) :
    plenumref01_sum.f (IntKind.u64.wrap (A / 18446744073709551616 + B / 18446744073709551616)) (A % 18446744073709551616) (B % 18446744073709551616) = some ((A + B) / 18446744073709551616, (A + B) % 18446744073709551616) := by
  unfold plenumref01_sum.f
  rw [wu_id (x := A / 18446744073709551616 + B / 18446744073709551616) (by omega) (by omega)]
  simp only [wu]
  split
  · exact congrArg some (Prod.ext (by show _ = _; simp only []; omega) (by show _ = _; simp only []; omega))
  · exact congrArg some (Prod.ext (by show _ = _; simp only []; omega) (by show _ = _; simp only []; omega))
theorem rminus_of {A B : Int} (hB0 : 0 ≤ B) (hBA : B ≤ A) (hA : A ≤ 4000000000000000000000000) :
    plenumref01_minus.f (A / 18446744073709551616) (A % 18446744073709551616) (B / 18446744073709551616) (B % 18446744073709551616) = some ((A - B) / 18446744073709551616, (A - B) % 18446744073709551616) := by
  unfold plenumref01_minus.f
  simp only [wu]
  split
  · exact congrArg some (Prod.ext (by show _ = _; simp only []; omega) (by show _ = _; simp only []; omega))
  · exact congrArg some (Prod.ext (by show _ = _; simp only []; omega) (by show _ = _; simp only []; omega))
theorem line_ev {a b : S37} {x : Int} (ha : okI a) (hb : okI b) (h0 : a.f0 < x) (h1 : x < b.f0) : Ev (fun k => plenumref01_Line.f k x a.f0 a.f1 b.f0 b.f1) (ip a b x) := by
  obtain ⟨a0, a1, a2, a3⟩ := ha
  obtain ⟨b0, b1, b2, b3⟩ := hb
  obtain ⟨P, hP⟩ : ∃ P, P = (a.f1.natAbs : Int) * (b.f0 - x) := ⟨_, rfl⟩
  obtain ⟨Q, hQ⟩ : ∃ Q, Q = (b.f1.natAbs : Int) * (x - a.f0) := ⟨_, rfl⟩
  have P0 : 0 ≤ P := by rw [hP]; exact Int.mul_nonneg (by omega) (by omega)
  have Q0 : 0 ≤ Q := by rw [hQ]; exact Int.mul_nonneg (by omega) (by omega)
  have P1 : P ≤ 1000000000000 * (b.f0 - x) := by rw [hP]; exact Int.mul_le_mul_of_nonneg_right (by omega) (by omega)
  have Q1 : Q ≤ 1000000000000 * (x - a.f0) := by rw [hQ]; exact Int.mul_le_mul_of_nonneg_right (by omega) (by omega)
  have hS : a.f1 * (b.f0 - a.f0) + (x - a.f0) * (b.f1 - a.f1) = a.f1 * (b.f0 - x) + b.f1 * (x - a.f0) := by grind
  have hPs : a.f1 * (b.f0 - x) = if a.f1 < 0 then -P else P := by
    split
    · rw [hP, show (a.f1.natAbs : Int) = -a.f1 by omega, Int.neg_mul, Int.neg_neg]
    · rw [hP, show (a.f1.natAbs : Int) = a.f1 by omega]
  have hQs : b.f1 * (x - a.f0) = if b.f1 < 0 then -Q else Q := by
    split
    · rw [hQ, show (b.f1.natAbs : Int) = -b.f1 by omega, Int.neg_mul, Int.neg_neg]
    · rw [hQ, show (b.f1.natAbs : Int) = b.f1 by omega]
  have hpre : ∀ k, plenumref01_Line.f k x a.f0 a.f1 b.f0 b.f1 = if ((decide (a.f1 < 0)) == (decide (b.f1 < 0))) = true then ((plenumref01_rounded.f k (decide (a.f1 < 0)) ((P + Q) / 18446744073709551616) ((P + Q) % 18446744073709551616) (b.f0 - a.f0)).bind fun t418 => (some t418)) else (plenumref01_Line.j0 k a.f1 b.f1 (b.f0 - a.f0) (decide (P < Q)) (P / 18446744073709551616) (P % 18446744073709551616) (Q / 18446744073709551616) (Q % 18446744073709551616)) := fun k => by
    unfold plenumref01_Line.f
    rw [rclamp_of (by omega) (by omega), rclamp_of (by omega) (by omega), rclamp_of (by omega) (by omega), rclamp_of (by omega) (by omega), rclamp_of (by omega) (by omega)]
    simp only [Option.bind_some]
    rw [if_neg (by omega), if_neg (by omega), if_neg (by omega), w64s (x := b.f0 - a.f0) (by omega) (by omega), w64s (x := b.f0 - x) (by omega) (by omega), w64s (x := x - a.f0) (by omega) (by omega), rsize_of (by omega) (by omega), rsize_of (by omega) (by omega), rsize_of (by omega) (by omega), rsize_of (by omega) (by omega), rsize_of (by omega) (by omega)]
    simp only [Option.bind_some]
    rw [show ((b.f0 - a.f0).natAbs : Int) = b.f0 - a.f0 by omega, show ((b.f0 - x).natAbs : Int) = b.f0 - x by omega, show ((x - a.f0).natAbs : Int) = x - a.f0 by omega, rprod64 (by omega) (by omega) (by omega) (by omega), rprod64 (by omega) (by omega) (by omega) (by omega), ← hP, ← hQ]
    simp only [Option.bind_some]
    rw [rsum_of P0 (by omega) Q0 (by omega)]
    simp only [Option.bind_some]
    by_cases hs : ((decide (a.f1 < 0)) == (decide (b.f1 < 0))) = true
    · rw [if_pos hs, if_pos hs]
    · rw [if_neg hs, if_neg hs]
      by_cases c1 : P / 18446744073709551616 < Q / 18446744073709551616
      · rw [if_pos c1, decide_eq_true (show P < Q by omega)]
      · rw [if_neg c1]
        by_cases c2 : P / 18446744073709551616 = Q / 18446744073709551616
        · rw [if_pos c2]
          exact congrArg (fun z => plenumref01_Line.j0 k a.f1 b.f1 (b.f0 - a.f0) z (P / 18446744073709551616) (P % 18446744073709551616) (Q / 18446744073709551616) (Q % 18446744073709551616)) (decide_eq_decide.2 (by omega))
        · rw [if_neg c2, decide_eq_false (show ¬ P < Q by omega)]
  unfold ip
  rw [hS, hPs, hQs]
  refine Ev.congr hpre ?_
  by_cases hs : ((decide (a.f1 < 0)) == (decide (b.f1 < 0))) = true
  · have hs' : (a.f1 < 0) ↔ (b.f1 < 0) := by simpa using hs
    refine Ev.congr (fun k => by rw [if_pos hs]) (Ev.bind (rounded_ev (decide (a.f1 < 0)) (N := P + Q) (w := b.f0 - a.f0) (by omega) (by omega) (by omega) (by omega)) ?_)
    have e : (if (decide (a.f1 < 0)) = true then -(P + Q) else P + Q) = (if a.f1 < 0 then -P else P) + (if b.f1 < 0 then -Q else Q) := by
      by_cases h : a.f1 < 0
      · rw [if_pos (decide_eq_true h), if_pos h, if_pos (hs'.1 h)]; omega
      · rw [if_neg (by simpa using h), if_neg h, if_neg (fun h' => h (hs'.2 h'))]
    rw [e]
    exact Ev.now _
  · have hs' : ¬ ((a.f1 < 0) ↔ (b.f1 < 0)) := by simpa using hs
    refine Ev.congr (fun k => by rw [if_neg hs]) ?_
    by_cases hlt : P < Q
    · rw [decide_eq_true hlt]
      refine evs (f := fun k => (plenumref01_rounded.f k (decide (b.f1 < 0)) ((Q - P) / 18446744073709551616) ((Q - P) % 18446744073709551616) (b.f0 - a.f0)).bind fun t => some t) (fun k => ?_) (Ev.bind (rounded_ev (decide (b.f1 < 0)) (N := Q - P) (w := b.f0 - a.f0) (by omega) (by omega) (by omega) (by omega)) ?_)
      · simp only [plenumref01_Line.j0]
        rw [if_pos trivial, rminus_of P0 (by omega) (by omega)]
        rfl
      · have e : (if (decide (b.f1 < 0)) = true then -(Q - P) else Q - P) = (if a.f1 < 0 then -P else P) + (if b.f1 < 0 then -Q else Q) := by
          by_cases h : b.f1 < 0
          · rw [if_pos (decide_eq_true h), if_pos h, if_neg (fun h' => hs' ⟨fun _ => h, fun _ => h'⟩)]; omega
          · have ha' : a.f1 < 0 := by omega
            rw [if_neg (by simpa using h), if_neg h, if_pos ha']; omega
        rw [e]
        exact Ev.now _
    · rw [decide_eq_false hlt]
      refine evs (f := fun k => (plenumref01_rounded.f k (decide (a.f1 < 0)) ((P - Q) / 18446744073709551616) ((P - Q) % 18446744073709551616) (b.f0 - a.f0)).bind fun t => some t) (fun k => ?_) (Ev.bind (rounded_ev (decide (a.f1 < 0)) (N := P - Q) (w := b.f0 - a.f0) (by omega) (by omega) (by omega) (by omega)) ?_)
      · simp only [plenumref01_Line.j0]
        rw [if_neg (by decide), rminus_of Q0 (by omega) (by omega)]
        rfl
      · have e : (if (decide (a.f1 < 0)) = true then -(P - Q) else P - Q) = (if a.f1 < 0 then -P else P) + (if b.f1 < 0 then -Q else Q) := by
          by_cases h : a.f1 < 0
          · rw [if_pos (decide_eq_true h), if_pos h, if_neg (fun h' => hs' ⟨fun _ => h', fun _ => h⟩)]; omega
          · have hb' : b.f1 < 0 := by omega
            rw [if_neg (by simpa using h), if_neg h, if_pos hb']; omega
        rw [e]
        exact Ev.now _
end Go.Proofs.YtbfcplnaafnlhaaDoor.Pure
