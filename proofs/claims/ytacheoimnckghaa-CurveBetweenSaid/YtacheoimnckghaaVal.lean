-- What the curve's functions compute, in plain words: products, quotients, the check, the value, the direction.
import Derived.Test.YtacheoimnckghaaDiv
import Derived.Test.YtacheoimnckghaaR
import Derived.Test.YtacheoimnckghaaPTx20
import Derived.Test.YtacheoimnckghaaPTx6
import Derived.Test.YtacheoimnckghaaPTx16
import Derived.Test.YtacheoimnckghaaPTx22
import Derived.Test.YtacheoimnckghaaPTx21
import Derived.Test.YtacheoimnckghaaPTx23
namespace Go.Proofs.Ytacheoimnckghaa.Pure
open Go.RowKit Go.Proofs.Ytacheoimnckghaa.PT Go.Proofs.YtacheoimnckghaaW.PrintWords Go.Proofs.YtacheoimnckghaaW.PrintLast Go.Proofs.YtacheoimnckghaaW.PrintMore
set_option linter.unusedVariables false
set_option linter.unusedSimpArgs false

theorem ifc {α : Sort _} {p q : Prop} [Decidable p] [Decidable q] (h : p ↔ q) {a b : α} : (if p then a else b) = if q then a else b := by
  by_cases hp : p
  · rw [if_pos hp, if_pos (h.1 hp)]
  · rw [if_neg hp, if_neg (fun hq => hp (h.2 hq))]
theorem and32 (x : Int) (hx0 : 0 ≤ x) (hx1 : x < 18446744073709551616) : Go.bits .and .u64 x 4294967295 = x % 4294967296 := by
  have := bits_mask .u64 64 (by decide) wu_pow 32 (by decide) x hx0 hx1
  simpa using this
theorem mul_lt32 {x y : Int} (h0 : 0 ≤ x) (h1 : x < 4294967296) (g0 : 0 ≤ y) (g1 : y < 4294967296) : 0 ≤ x * y ∧ x * y ≤ 18446744065119617025 := by
  have h2 : x * y ≤ 4294967295 * y := Int.mul_le_mul_of_nonneg_right (by omega) g0
  exact ⟨Int.mul_nonneg h0 g0, by omega⟩
theorem mul64 {a b : Int} (a0 : 0 ≤ a) (a1 : a < 18446744073709551616) (b0 : 0 ≤ b) (b1 : b < 18446744073709551616) :
    bits_Mul64.f a b = some (a * b / 18446744073709551616, a * b % 18446744073709551616) := by
  unfold bits_Mul64.f
  rw [and32 a a0 a1, and32 b b0 b1]
  have hab : a * b = (a / 4294967296) * (b / 4294967296) * 18446744073709551616 + ((a / 4294967296) * (b % 4294967296) + (a % 4294967296) * (b / 4294967296)) * 4294967296 + (a % 4294967296) * (b % 4294967296) := by
    have ha : a = (a / 4294967296) * 4294967296 + a % 4294967296 := by omega
    have hb : b = (b / 4294967296) * 4294967296 + b % 4294967296 := by omega
    generalize a / 4294967296 = ah at *
    generalize a % 4294967296 = al at *
    generalize b / 4294967296 = bh at *
    generalize b % 4294967296 = bl at *
    subst ha hb
    grind
  obtain ⟨p1, p1'⟩ := mul_lt32 (x := a / 4294967296) (y := b / 4294967296) (by omega) (by omega) (by omega) (by omega)
  obtain ⟨p2, p2'⟩ := mul_lt32 (x := a / 4294967296) (y := b % 4294967296) (by omega) (by omega) (by omega) (by omega)
  obtain ⟨p3, p3'⟩ := mul_lt32 (x := a % 4294967296) (y := b / 4294967296) (by omega) (by omega) (by omega) (by omega)
  obtain ⟨p4, p4'⟩ := mul_lt32 (x := a % 4294967296) (y := b % 4294967296) (by omega) (by omega) (by omega) (by omega)
  rw [hab]
  generalize a / 4294967296 * (b / 4294967296) = hh at *
  generalize a / 4294967296 * (b % 4294967296) = hl at *
  generalize a % 4294967296 * (b / 4294967296) = lh at *
  generalize a % 4294967296 * (b % 4294967296) = ll at *
  rw [wu_id (x := ll) p4 (by omega), wu_id (x := hl) p2 (by omega), wu_id (x := lh) p3 (by omega), wu_id (x := hh) p1 (by omega)]
  rw [wu_id (x := hl + ll / 4294967296) (by omega) (by omega)]
  rw [and32 _ (by omega) (by omega)]
  rw [wu_id (x := (hl + ll / 4294967296) % 4294967296 + lh) (by omega) (by omega)]
  simp only [wu]
  refine congrArg some (Prod.ext ?_ rfl)
  show _ = _
  omega
theorem size_of {n : Int} (h0 : -9223372036854775808 < n) (h1 : n < 9223372036854775808) : curve_size.f n = some (n.natAbs : Int) := by
  unfold curve_size.f
  split
  · rw [w64s (by omega) (by omega), wu_id (by omega) (by omega)]
    exact congrArg some (by omega)
  · rw [wu_id (by omega) (by omega)]
    exact congrArg some (by omega)
theorem divide_ev {a b c : Int} (a0 : -4611686018427387904 < a) (a1 : a < 4611686018427387904) (b0 : -4611686018427387904 < b) (b1 : b < 4611686018427387904) (c0 : 0 < c) (c1 : c < 4611686018427387904)
    (hb : (a.natAbs : Int) * b.natAbs ≤ c * 4611686018427387904) : Ev (fun k => curve_divide.f k a b c) (a * b / c, a * b % c) := by
  obtain ⟨N, hN⟩ : ∃ N, N = (a.natAbs : Int) * b.natAbs := ⟨_, rfl⟩
  have hN0 : 0 ≤ N := by rw [hN]; exact Int.mul_nonneg (by omega) (by omega)
  have e := Int.mul_ediv_add_emod N c
  have r0 := Int.emod_nonneg N (show c ≠ 0 by omega)
  have r1 := Int.emod_lt_of_pos N c0
  have q0 : 0 ≤ N / c := Int.ediv_nonneg hN0 (by omega)
  have q1 : N / c ≤ 4611686018427387904 := by
    refine Int.ediv_le_of_le_mul c0 ?_
    rw [hN, Int.mul_comm _ c]; exact hb
  have hd := div64 (hi := N / 18446744073709551616) (lo := N % 18446744073709551616) (y := c) (by omega) (by rw [← hN] at hb; omega) (by omega) (by omega) (by omega)
  rw [show N / 18446744073709551616 * 18446744073709551616 + N % 18446744073709551616 = N by omega] at hd
  have hf : ∀ k, curve_divide.f k a b c = (bits_Div64.f k (N / 18446744073709551616) (N % 18446744073709551616) c).bind fun bt148 => (if ((decide (a < 0)) == (decide (b < 0))) = true then (curve_divide.j0 k c bt148.1 bt148.2 true) else (if bt148.1 = 0 then (curve_divide.j0 k c bt148.1 bt148.2 (bt148.2 == 0)) else (curve_divide.j0 k c bt148.1 bt148.2 false))) := fun k => by
    unfold curve_divide.f
    rw [size_of (by omega) (by omega), size_of (by omega) (by omega)]
    simp only [Option.bind_some]
    rw [mul64 (by omega) (by omega) (by omega) (by omega), ← hN]
    simp only [Option.bind_some]
    rw [wu_id (x := c) (by omega) (by omega)]
  refine Ev.congr hf (Ev.bind hd ?_)
  simp only []
  generalize hq : N / c = q at *
  generalize hr : N % c = r at *
  have fin : ∀ (Q R : Int), R + c * Q = a * b → 0 ≤ R → R < c → (Q, R) = (a * b / c, a * b % c) := fun Q R h1 h2 h3 => by
    obtain ⟨z1, z2⟩ := (Int.ediv_emod_unique c0).2 ⟨h1, h2, h3⟩
    rw [z1, z2]
  have hj : ∀ bb, Ev (fun k => curve_divide.j0 k c q r bb) (if bb = true then (q, r) else if r = 0 then (-q, 0) else (-q - 1, c - r)) := fun bb => by
    refine evs (f := fun k => some _) (fun k => ?_) (Ev.now _)
    simp only [curve_divide.j0]
    rw [w64s (x := q) (by omega) (by omega), w64s (x := r) (by omega) (by omega), w64s (x := -q) (by omega) (by omega), w64s (x := -q - 1) (by omega) (by omega), w64s (x := c - r) (by omega) (by omega)]
    split
    · rfl
    · split <;> rfl
  by_cases hs : ((decide (a < 0)) == (decide (b < 0))) = true
  · have hab : a * b = N := by
      rw [hN]
      simp only [beq_iff_eq, decide_eq_decide] at hs
      by_cases ha : a < 0
      · have hb' := hs.1 ha
        rw [show (a.natAbs : Int) = -a by omega, show (b.natAbs : Int) = -b by omega, Int.neg_mul_neg]
      · have hb' : ¬ b < 0 := fun h => ha (hs.2 h)
        rw [show (a.natAbs : Int) = a by omega, show (b.natAbs : Int) = b by omega]
    have := hj true
    rw [if_pos rfl, fin q r (by rw [hab]; omega) r0 r1] at this
    refine Ev.congr (fun k => ?_) this
    rw [if_pos hs]
  · have hab : a * b = -N := by
      rw [hN]
      simp only [beq_iff_eq, decide_eq_decide] at hs
      by_cases ha : a < 0
      · have hb' : ¬ b < 0 := fun h => hs ⟨fun _ => h, fun _ => ha⟩
        rw [show (a.natAbs : Int) = -a by omega, show (b.natAbs : Int) = b by omega, Int.neg_mul, Int.neg_neg]
      · have hb' : b < 0 := by
          rcases Int.lt_or_le b 0 with h | h
          · exact h
          · exact absurd ⟨fun h' => absurd h' ha, fun h' => absurd h' (by omega)⟩ hs
        rw [show (a.natAbs : Int) = a by omega, show (b.natAbs : Int) = -b by omega, Int.mul_neg, Int.neg_neg]
    by_cases hz : q = 0
    · have h1 := hj (r == 0)
      refine Ev.congr (fun k => by rw [if_neg hs, if_pos hz]) ?_
      by_cases hr0 : r = 0
      · rw [show (r == 0) = true by simpa using hr0, if_pos rfl, fin q r (by rw [hab, hz] ; rw [hz] at e; omega) r0 r1] at h1
        rwa [show (r == 0) = true by simpa using hr0]
      · rw [show (r == 0) = false by simpa using hr0, if_neg (by decide), if_neg hr0, fin (-q - 1) (c - r) (by rw [hab]; rw [Int.mul_sub, Int.mul_neg]; omega) (by omega) (by omega)] at h1
        rwa [show (r == 0) = false by simpa using hr0]
    · have h1 := hj false
      refine Ev.congr (fun k => by rw [if_neg hs, if_neg hz]) ?_
      rw [if_neg (by decide)] at h1
      by_cases hr0 : r = 0
      · rw [if_pos hr0, fin (-q) 0 (by rw [hab, Int.mul_neg]; omega) (by omega) (by omega)] at h1
        exact h1
      · rw [if_neg hr0, fin (-q - 1) (c - r) (by rw [hab]; rw [Int.mul_sub, Int.mul_neg]; omega) (by omega) (by omega)] at h1
        exact h1

/-! ### the check -/
def okI (x : S50) : Prop := -1000000000000 ≤ x.f0 ∧ x.f0 ≤ 1000000000000 ∧ -1000000000000 ≤ x.f1 ∧ x.f1 ≤ 1000000000000
open Classical in
noncomputable def chk (c : List S50) : Int :=
  if c.length = 0 ∨ 32 < c.length then 1 else if ∃ j, j < c.length ∧ ¬ okI (kn c j) then 6 else if ∃ j, j + 1 < c.length ∧ (kn c (j + 1)).f0 ≤ (kn c j).f0 then 5 else 0
structure Good (c : List S50) : Prop where
  pos : 0 < c.length
  le : c.length ≤ 32
  ok : ∀ j, j < c.length → okI (kn c j)
  inc : ∀ j, j + 1 < c.length → (kn c j).f0 < (kn c (j + 1)).f0
theorem chk_good (c : List S50) : chk c = 0 ↔ Good c := by
  unfold chk
  constructor
  · intro h
    by_cases h1 : c.length = 0 ∨ 32 < c.length
    · rw [if_pos h1] at h; exact absurd h (by decide)
    · rw [if_neg h1] at h
      by_cases h2 : ∃ j, j < c.length ∧ ¬ okI (kn c j)
      · rw [if_pos h2] at h; exact absurd h (by decide)
      · rw [if_neg h2] at h
        by_cases h3 : ∃ j, j + 1 < c.length ∧ (kn c (j + 1)).f0 ≤ (kn c j).f0
        · rw [if_pos h3] at h; exact absurd h (by decide)
        · refine ⟨by omega, by omega, fun j hj => ?_, fun j hj => ?_⟩
          · exact Classical.byContradiction fun hn => h2 ⟨j, hj, hn⟩
          · rcases Int.lt_or_le (kn c j).f0 (kn c (j + 1)).f0 with h | h
            · exact h
            · exact absurd ⟨j, hj, h⟩ h3
  · rintro ⟨g1, g2, g3, g4⟩
    rw [if_neg (by omega), if_neg (fun ⟨j, hj, hn⟩ => hn (g3 j hj)), if_neg (fun ⟨j, hj, hn⟩ => by have := g4 j hj; omega)]
theorem rd_kn (c : List S50) (j : Nat) : rd_T50 c (j : Int) = kn c j := by simp [rd_T50, kn]
theorem inside_of (n : Int) : curve_inside.f n = some (decide (-1000000000000 ≤ n ∧ n ≤ 1000000000000)) := by
  unfold curve_inside.f
  split
  · rename_i h
    exact congrArg some (decide_eq_decide.2 ⟨fun h' => ⟨h, h'⟩, fun h' => h'.2⟩)
  · rename_i h
    exact congrArg some (decide_eq_false (fun h' => h h'.1)).symm
theorem check1_of (x : S50) : ∃ b, curve_Check_1.f x.f0 x.f1 = some b ∧ (b = true ↔ ¬ okI x) := by
  unfold curve_Check_1.f okI
  rw [inside_of, inside_of]
  simp only [Option.bind_some]
  by_cases h0 : -1000000000000 ≤ x.f0 ∧ x.f0 ≤ 1000000000000
  · rw [decide_eq_true h0, if_pos rfl]
    refine ⟨_, rfl, ?_⟩
    simp only [Bool.not_eq_true', decide_eq_false_iff_not]
    omega
  · rw [decide_eq_false h0, if_neg (by decide)]
    exact ⟨true, rfl, by simp; omega⟩
theorem anyBad_ev (c : List S50) (hc : c.length ≤ 1000) : ∀ (n i : Nat), i + n = c.length → ∃ r, Ev (fun k => api_Knot_40_51040.l0 k c (c.length : Int) (i : Int)) r ∧ (r ≥ 0 ↔ ∃ j, i ≤ j ∧ j < c.length ∧ ¬ okI (kn c j))
  | 0, i, hi => by
    refine ⟨-1, evs (f := fun k => some (-1)) (fun k => ?_) (Ev.now _), fun h => absurd h (by omega), fun ⟨j, h1, h2, _⟩ => absurd h2 (by omega)⟩
    simp only [api_Knot_40_51040.l0]
    rw [if_neg (by omega)]
  | n + 1, i, hi => by
    obtain ⟨b, hb, hbad⟩ := check1_of (kn c i)
    by_cases hbt : b = true
    · refine ⟨i, evs (f := fun k => some (i : Int)) (fun k => ?_) (Ev.now _), ⟨fun _ => ⟨i, by omega, by omega, hbad.1 hbt⟩, fun _ => by omega⟩⟩
      simp only [api_Knot_40_51040.l0]
      rw [if_pos (by omega), if_pos (by omega), if_pos (by omega), rd_kn, hb, hbt]
      rfl
    · obtain ⟨r, hr, hiff⟩ := anyBad_ev c hc n (i + 1) (by omega)
      refine ⟨r, evs (fun k => ?_) hr, ?_⟩
      · simp only [api_Knot_40_51040.l0]
        rw [if_pos (by omega), if_pos (by omega), if_pos (by omega), rd_kn, hb]
        simp only [Option.bind_some]
        rw [if_neg hbt, w64s (by omega) (by omega)]
        rfl
      · rw [hiff]
        constructor
        · rintro ⟨j, h1, h2, h3⟩; exact ⟨j, by omega, h2, h3⟩
        · rintro ⟨j, h1, h2, h3⟩
          rcases Nat.eq_or_lt_of_le h1 with h | h
          · subst h; exact absurd (hbad.2 h3) hbt
          · exact ⟨j, h, h2, h3⟩
open Classical in
theorem dup_ev (c : List S50) (hc : c.length ≤ 1000) : ∀ (n i : Nat), i + 1 + n = c.length → Ev (fun k => curve_Check.l0 k c ((i + 1 : Nat) : Int)) (if ∃ j, i ≤ j ∧ j + 1 < c.length ∧ (kn c (j + 1)).f0 ≤ (kn c j).f0 then 5 else 0)
  | 0, i, hi => by
    rw [if_neg (by rintro ⟨j, h1, h2, _⟩; omega)]
    refine evs (f := fun k => some 0) (fun k => ?_) (Ev.now _)
    simp only [curve_Check.l0]
    rw [if_neg (by omega)]
  | n + 1, i, hi => by
    have hw : wrap64 (((i + 1 : Nat) : Int) - 1) = (i : Int) := by rw [w64s (by omega) (by omega)]; omega
    by_cases hd : (kn c i).f0 ≥ (kn c (i + 1)).f0
    · rw [if_pos ⟨i, by omega, by omega, hd⟩]
      refine evs (f := fun k => some 5) (fun k => ?_) (Ev.now _)
      simp only [curve_Check.l0]
      rw [if_pos (by omega), hw, if_pos (by omega), if_pos (by omega), if_pos (by omega), rd_kn, rd_kn, if_pos hd]
    · have ih := dup_ev c hc n (i + 1) (by omega)
      have e : (∃ j, i + 1 ≤ j ∧ j + 1 < c.length ∧ (kn c (j + 1)).f0 ≤ (kn c j).f0) ↔ (∃ j, i ≤ j ∧ j + 1 < c.length ∧ (kn c (j + 1)).f0 ≤ (kn c j).f0) := by
        constructor
        · rintro ⟨j, h1, h2, h3⟩; exact ⟨j, by omega, h2, h3⟩
        · rintro ⟨j, h1, h2, h3⟩
          rcases Nat.eq_or_lt_of_le h1 with h | h
          · subst h; omega
          · exact ⟨j, h, h2, h3⟩
      rw [ifc e] at ih
      refine evs (fun k => ?_) ih
      simp only [curve_Check.l0]
      rw [if_pos (by omega), hw, if_pos (by omega), if_pos (by omega), if_pos (by omega), rd_kn, rd_kn, if_neg hd, w64s (by omega) (by omega)]
      rfl
open Classical in
theorem check_ev (c : List S50) : Ev (fun k => curve_Check.f k c) (chk c) := by
  have hf : ∀ k, curve_Check.f k c = curve_Check.j0 k c (decide (c.length = 0 ∨ 32 < c.length)) := fun k => by
    unfold curve_Check.f
    by_cases h : c.length = 0
    · rw [if_pos (by omega), decide_eq_true (.inl h)]
    · rw [if_neg (by omega)]
      exact congrArg _ (decide_eq_decide.2 (by omega))
  refine Ev.congr hf ?_
  unfold chk
  by_cases h1 : c.length = 0 ∨ 32 < c.length
  · rw [if_pos h1, decide_eq_true h1]
    refine evs (f := fun k => some 1) (fun k => ?_) (Ev.now _)
    simp only [curve_Check.j0]
    rw [if_pos trivial]
  · rw [if_neg h1, decide_eq_false h1]
    obtain ⟨r, hr, hiff⟩ := anyBad_ev c (by omega) c.length 0 (by omega)
    have hb : Ev (fun k => api_Knot_40_39040.f k c) (decide (r ≥ 0)) := by
      unfold api_Knot_40_39040.f api_Knot_40_51040.f
      exact Ev.bind hr (Ev.now _)
    have hiff' : (∃ j, j < c.length ∧ ¬ okI (kn c j)) ↔ r ≥ 0 := by
      rw [hiff]
      exact ⟨fun ⟨j, h, h'⟩ => ⟨j, by omega, h, h'⟩, fun ⟨j, _, h, h'⟩ => ⟨j, h, h'⟩⟩
    refine evs (f := fun k => (api_Knot_40_39040.f k c).bind fun t => if t = true then some 6 else curve_Check.l0 k c 1) (fun k => ?_) (Ev.bind hb ?_)
    · simp only [curve_Check.j0]
      rw [if_neg (by decide)]
    · by_cases h2 : r ≥ 0
      · rw [if_pos (hiff'.2 h2)]
        simp only [decide_eq_true h2, if_true]
        exact Ev.now _
      · rw [if_neg (fun h => h2 (hiff'.1 h))]
        simp only [decide_eq_false h2]
        have hd := dup_ev c (by omega) (c.length - 1) 0 (by omega)
        have e : (∃ j, 0 ≤ j ∧ j + 1 < c.length ∧ (kn c (j + 1)).f0 ≤ (kn c j).f0) ↔ (∃ j, j + 1 < c.length ∧ (kn c (j + 1)).f0 ≤ (kn c j).f0) := ⟨fun ⟨j, _, h⟩ => ⟨j, h⟩, fun ⟨j, h⟩ => ⟨j, Nat.zero_le _, h⟩⟩
        rw [ifc e] at hd
        exact hd

/-! ### the value -/
theorem value1_of (c : List S50) (x : Int) (t : Nat) (ht : t < c.length) : curve_value_1.f (t : Int) c x = some (decide ((kn c t).f0 > x)) := by
  unfold curve_value_1.f
  rw [if_pos (by omega), if_pos (by omega), rd_kn]
theorem search_ev (c : List S50) (x : Int) (hc : c.length ≤ 1000) (inc : ∀ i j, i ≤ j → j < c.length → (kn c i).f0 ≤ (kn c j).f0) : ∀ (n i j : Nat), j - i ≤ n → i ≤ j → j ≤ c.length → (∀ t, t < i → (kn c t).f0 ≤ x) → (∀ t, j ≤ t → t < c.length → (kn c t).f0 > x) →
    ∃ r : Nat, r ≤ c.length ∧ Ev (fun k => sort_Search_50.l0 k (i : Int) (j : Int) c x) (r : Int) ∧ (∀ t, t < r → (kn c t).f0 ≤ x) ∧ (∀ t, r ≤ t → t < c.length → (kn c t).f0 > x)
  | 0, i, j, hn, hij, hj, hl, hr => by
    refine ⟨i, by omega, evs (f := fun k => some (i : Int)) (fun k => ?_) (Ev.now _), hl, fun t ht => hr t (by omega)⟩
    simp only [sort_Search_50.l0]
    rw [if_neg (by omega)]
  | n + 1, i, j, hn, hij, hj, hl, hr => by
    by_cases hlt : i < j
    · have hm : wrap64 ((IntKind.u64.wrap (wrap64 ((i : Int) + (j : Int)))) / 2) = (((i + j) / 2 : Nat) : Int) := by
        rw [w64s (x := (i : Int) + j) (by omega) (by omega), wu_id (by omega) (by omega), w64s (by omega) (by omega)]
        omega
      have hml : (i + j) / 2 < c.length := by omega
      by_cases hp : (kn c ((i + j) / 2)).f0 > x
      · obtain ⟨r, h0, h1, h2⟩ := search_ev c x hc inc n i ((i + j) / 2) (by omega) (by omega) (by omega) hl (fun t ht ht' => by have := inc _ t ht ht'; omega)
        refine ⟨r, h0, evs (fun k => ?_) h1, h2⟩
        simp only [sort_Search_50.l0]
        rw [if_pos (by omega), hm, value1_of c x _ hml]
        simp only [Option.bind_some]
        rw [if_pos (decide_eq_true hp)]
      · obtain ⟨r, h0, h1, h2⟩ := search_ev c x hc inc n ((i + j) / 2 + 1) j (by omega) (by omega) hj (fun t ht => by have := inc t ((i + j) / 2) (by omega) hml; omega) hr
        refine ⟨r, h0, evs (fun k => ?_) h1, h2⟩
        simp only [sort_Search_50.l0]
        rw [if_pos (by omega), hm, value1_of c x _ hml]
        simp only [Option.bind_some]
        rw [if_neg (by simpa using hp), w64s (by omega) (by omega)]
        rfl
    · refine ⟨i, by omega, evs (f := fun k => some (i : Int)) (fun k => ?_) (Ev.now _), hl, fun t ht => hr t (by omega)⟩
      simp only [sort_Search_50.l0]
      rw [if_neg (by omega)]
theorem Good.mono {c : List S50} (g : Good c) (i j : Nat) (hij : i ≤ j) (hj : j < c.length) : (kn c i).f0 ≤ (kn c j).f0 := by
  obtain ⟨d, rfl⟩ := Nat.exists_eq_add_of_le hij
  induction d with
  | zero => exact Int.le_refl _
  | succ d ih =>
    have h1 := ih (by omega) (by omega)
    have h2 := g.inc (i + d) (by omega)
    rw [← Nat.add_assoc]
    omega
theorem Good.chain {c : List S50} (g : Good c) : ∃ a l, c = a :: l ∧ Inc a l := by
  cases c with
  | nil => exact absurd g.pos (by simp)
  | cons a l => exact ⟨a, l, rfl, inc_of l a g.inc⟩
/-- The value between two knots, as the code reckons it. -/
theorem ip_eq {a b : S50} {x q r : Int} (h : a.f0 < b.f0) (hq : q = (x - a.f0) * (b.f1 - a.f1) / (b.f0 - a.f0)) (hr : r = (x - a.f0) * (b.f1 - a.f1) % (b.f0 - a.f0)) :
    ip a b x = if 2 * r > b.f0 - a.f0 ∨ (2 * r = b.f0 - a.f0 ∧ a.f1 + q ≥ 0) then a.f1 + q + 1 else a.f1 + q := by
  unfold ip R
  have h1 : (a.f1 * (b.f0 - a.f0) + (x - a.f0) * (b.f1 - a.f1)) / (b.f0 - a.f0) = a.f1 + q := by
    rw [hq, Int.add_comm, Int.add_mul_ediv_right _ _ (by omega), Int.add_comm]
  have h2 : (a.f1 * (b.f0 - a.f0) + (x - a.f0) * (b.f1 - a.f1)) % (b.f0 - a.f0) = r := by
    rw [hr, Int.add_comm, Int.add_mul_emod_self_right]
  rw [h1, h2]
theorem seg_prod {a b : S50} {x : Int} (ha : okI a) (hb : okI b) (h : a.f0 ≤ x) (h' : x < b.f0) : ((x - a.f0).natAbs : Int) * (b.f1 - a.f1).natAbs ≤ (b.f0 - a.f0) * 2000000000000 := by
  obtain ⟨a0, a1, a2, a3⟩ := ha
  obtain ⟨b0, b1, b2, b3⟩ := hb
  have h1 : ((x - a.f0).natAbs : Int) * (b.f1 - a.f1).natAbs ≤ ((x - a.f0).natAbs : Int) * 2000000000000 := Int.mul_le_mul_of_nonneg_left (by omega) (by omega)
  omega
theorem seg_quot {a b : S50} {x : Int} (ha : okI a) (hb : okI b) (h : a.f0 ≤ x) (h' : x < b.f0) : -2000000000000 ≤ (x - a.f0) * (b.f1 - a.f1) / (b.f0 - a.f0) ∧ (x - a.f0) * (b.f1 - a.f1) / (b.f0 - a.f0) ≤ 2000000000000 := by
  have hp := seg_prod ha hb h h'
  rw [← Int.natCast_mul, ← Int.natAbs_mul] at hp
  have hw : 0 < b.f0 - a.f0 := by omega
  generalize (x - a.f0) * (b.f1 - a.f1) = P at *
  constructor
  · refine Int.le_ediv_of_mul_le hw ?_
    rw [Int.mul_comm]
    omega
  · refine Int.ediv_le_of_le_mul hw ?_
    rw [Int.mul_comm]
    omega
theorem j1v (k : Nat) (v : Int) : curve_value.j1 (k + 1) v = some v := rfl
theorem value_ev (c : List S50) (g : Good c) (x : Int) : Ev (fun k => curve_value.f k c x) (V c x) := by
  obtain ⟨a, l, hc, hinc⟩ := g.chain
  have hlen : c.length = l.length + 1 := by rw [hc]; rfl
  have hle := g.le
  have h00 : rd_T50 c 0 = kn c 0 := rd_kn c 0
  have hk0 : kn c 0 = a := by rw [hc]; rfl
  by_cases h0 : x ≤ a.f0
  · have : V c x = a.f1 := by rw [hc, V_cons, if_pos h0]
    rw [this]
    refine Ev.congr (f := fun k => some a.f1) (fun k => ?_) (Ev.now _)
    unfold curve_value.f
    rw [if_pos (by omega), h00, hk0, if_pos h0]
  · have hw1 : wrap64 ((c.length : Int) - 1) = (l.length : Int) := by rw [w64s (by omega) (by omega)]; omega
    by_cases hL : x ≥ (kn c l.length).f0
    · have : V c x = (kn c l.length).f1 := by
        rw [hc, V_cons, if_neg h0]
        rw [hc] at hL
        exact Vr_last l a x hinc hL
      rw [this]
      refine Ev.congr (f := fun k => some (kn c l.length).f1) (fun k => ?_) (Ev.now _)
      unfold curve_value.f
      rw [if_pos (by omega), h00, hk0, if_neg h0, hw1, if_pos (by omega), if_pos (by omega), rd_kn, if_pos hL]
    · obtain ⟨r, hr0, hr, hlo, hhi⟩ := search_ev c x (by omega) g.mono c.length 0 c.length (by omega) (by omega) (by omega) (fun t ht => by omega) (fun t h h' => by omega)
      have hr1 : 0 < r := by
        rcases Nat.eq_zero_or_pos r with h | h
        · have := hhi 0 (by omega) (by omega)
          rw [hk0] at this
          omega
        · exact h
      have hr2 : r < c.length := by
        rcases Nat.lt_or_ge r c.length with h | h
        · exact h
        · have := hlo l.length (by omega)
          omega
      have ha := g.ok (r - 1) (by omega)
      have hb := g.ok r hr2
      have hA := hlo (r - 1) (by omega)
      have hB := hhi r (by omega) hr2
      have hV : V c x = ip (kn c (r - 1)) (kn c r) x := by
        have := Vr_at l a (r - 1) x hinc (by omega) (by rw [← hc]; exact hA) (by rw [← hc, show r - 1 + 1 = r by omega]; exact hB)
        rw [← hc, show r - 1 + 1 = r by omega] at this
        exact (show V c x = Vr a l x by rw [hc, V_cons, if_neg h0]).trans this
      have hab : (kn c (r - 1)).f0 < (kn c r).f0 := by
        have := g.inc (r - 1) (by omega)
        rwa [show r - 1 + 1 = r by omega] at this
      have hwr : wrap64 ((r : Int) - 1) = ((r - 1 : Nat) : Int) := by rw [w64s (by omega) (by omega)]; omega
      rw [hV, ip_eq hab rfl rfl]
      obtain ⟨q0, q1⟩ := seg_quot ha hb hA hB
      have hsp := seg_prod ha hb hA hB
      generalize hA' : kn c (r - 1) = A at *
      generalize hB' : kn c r = B at *
      obtain ⟨a0, a1, a2, a3⟩ := ha
      obtain ⟨b0, b1, b2, b3⟩ := hb
      have hdv := divide_ev (a := x - A.f0) (b := B.f1 - A.f1) (c := B.f0 - A.f0) (by omega) (by omega) (by omega) (by omega) (by omega) (by omega) (by omega)
      have rem0 := Int.emod_nonneg ((x - A.f0) * (B.f1 - A.f1)) (show B.f0 - A.f0 ≠ 0 by omega)
      have rem1 := Int.emod_lt_of_pos ((x - A.f0) * (B.f1 - A.f1)) (show 0 < B.f0 - A.f0 by omega)
      generalize (x - A.f0) * (B.f1 - A.f1) / (B.f0 - A.f0) = q at *
      generalize (x - A.f0) * (B.f1 - A.f1) % (B.f0 - A.f0) = m at *
      have step : ∀ k, curve_value.f k c x = (sort_Search_50.f k (c.length : Int) c x).bind fun t => (if 0 ≤ (wrap64 (t - 1)) then (if (wrap64 (t - 1)) < (c.length : Int) then (if 0 ≤ t then (if t < (c.length : Int) then ((curve_divide.f k (wrap64 (x - ((rd_T50 c (wrap64 (t - 1))).f0))) (wrap64 (((rd_T50 c t).f1) - ((rd_T50 c (wrap64 (t - 1))).f1))) (wrap64 (((rd_T50 c t).f0) - ((rd_T50 c (wrap64 (t - 1))).f0)))).bind fun bt => (if (wrap64 (2 * bt.2)) > (wrap64 (((rd_T50 c t).f0) - ((rd_T50 c (wrap64 (t - 1))).f0))) then (curve_value.j0 k (wrap64 (((rd_T50 c (wrap64 (t - 1))).f1) + bt.1)) true) else (if (wrap64 (2 * bt.2)) = (wrap64 (((rd_T50 c t).f0) - ((rd_T50 c (wrap64 (t - 1))).f0))) then (curve_value.j0 k (wrap64 (((rd_T50 c (wrap64 (t - 1))).f1) + bt.1)) (decide ((wrap64 (((rd_T50 c (wrap64 (t - 1))).f1) + bt.1)) ≥ 0))) else (curve_value.j0 k (wrap64 (((rd_T50 c (wrap64 (t - 1))).f1) + bt.1)) false)))) else none) else none) else none) else none) := fun k => by
        unfold curve_value.f
        rw [if_pos (by omega), h00, hk0, if_neg h0, hw1, if_pos (by omega), if_pos (by omega), rd_kn, if_neg hL]
      refine Ev.congr step (Ev.bind hr ?_)
      simp only [hwr, rd_kn, hA', hB']
      simp only [show (0 : Int) ≤ ((r - 1 : Nat) : Int) from by omega, show ((r - 1 : Nat) : Int) < (c.length : Int) from by omega, show (0 : Int) ≤ (r : Int) from by omega, show (r : Int) < (c.length : Int) from by omega, if_true]
      rw [w64s (x := x - A.f0) (by omega) (by omega), w64s (x := B.f1 - A.f1) (by omega) (by omega), w64s (x := B.f0 - A.f0) (by omega) (by omega)]
      refine Ev.bind hdv ?_
      simp only []
      rw [w64s (x := 2 * m) (by omega) (by omega), w64s (x := A.f1 + q) (by omega) (by omega)]
      have fin : ∀ b : Bool, Ev (fun k => curve_value.j0 k (A.f1 + q) b) (if b = true then A.f1 + q + 1 else A.f1 + q) := fun b => by
        cases b with
        | true =>
          refine evs (f := fun k => curve_value.j1 k (A.f1 + q + 1)) (fun k => ?_) (evs (f := fun k => some _) (fun k => rfl) (Ev.now _))
          simp only [curve_value.j0]
          rw [if_pos trivial, w64s (by omega) (by omega)]
        | false =>
          refine evs (f := fun k => curve_value.j1 k (A.f1 + q)) (fun k => ?_) (evs (f := fun k => some _) (fun k => rfl) (Ev.now _))
          simp only [curve_value.j0]
          rw [if_neg (by decide)]
      by_cases c1 : 2 * m > B.f0 - A.f0
      · rw [if_pos (.inl c1)]
        refine Ev.congr (fun k => by rw [if_pos c1]) (fin true)
      · by_cases c2 : 2 * m = B.f0 - A.f0
        · refine Ev.congr (fun k => by rw [if_neg c1, if_pos c2]) ?_
          have := fin (decide (A.f1 + q ≥ 0))
          by_cases c3 : A.f1 + q ≥ 0
          · rw [if_pos (.inr ⟨c2, c3⟩)]
            rw [decide_eq_true c3] at this ⊢
            exact this
          · rw [if_neg (by omega)]
            rw [decide_eq_false c3] at this ⊢
            exact this
        · rw [if_neg (by omega)]
          refine Ev.congr (fun k => by rw [if_neg c1, if_neg c2]) (fin false)

/-! ### the direction -/
def UpAt (c : List S50) (i : Nat) : Prop := ∃ j, i ≤ j ∧ j + 1 < c.length ∧ (kn c j).f1 < (kn c (j + 1)).f1
def DnAt (c : List S50) (i : Nat) : Prop := ∃ j, i ≤ j ∧ j + 1 < c.length ∧ (kn c (j + 1)).f1 < (kn c j).f1
def dirOf (u d : Bool) : Int := if u = true ∧ d = true then 2 else if u = true then 1 else if d = true then -1 else 0
open Classical in
noncomputable def dir (c : List S50) : Int := dirOf (decide (UpAt c 0)) (decide (DnAt c 0))
theorem upAt_next {c : List S50} {i : Nat} (h : i + 1 < c.length) : UpAt c i ↔ (kn c i).f1 < (kn c (i + 1)).f1 ∨ UpAt c (i + 1) := by
  constructor
  · rintro ⟨j, h1, h2, h3⟩
    rcases Nat.eq_or_lt_of_le h1 with e | e
    · subst e; exact .inl h3
    · exact .inr ⟨j, e, h2, h3⟩
  · rintro (h3 | ⟨j, h1, h2, h3⟩)
    · exact ⟨i, Nat.le_refl _, h, h3⟩
    · exact ⟨j, by omega, h2, h3⟩
theorem dnAt_next {c : List S50} {i : Nat} (h : i + 1 < c.length) : DnAt c i ↔ (kn c (i + 1)).f1 < (kn c i).f1 ∨ DnAt c (i + 1) := by
  constructor
  · rintro ⟨j, h1, h2, h3⟩
    rcases Nat.eq_or_lt_of_le h1 with e | e
    · subst e; exact .inl h3
    · exact .inr ⟨j, e, h2, h3⟩
  · rintro (h3 | ⟨j, h1, h2, h3⟩)
    · exact ⟨i, Nat.le_refl _, h, h3⟩
    · exact ⟨j, by omega, h2, h3⟩
theorem dir_j1 (u d : Bool) : Ev (fun k => curve_direction.j1 k u d (if u = true then d else false)) (dirOf u d) := by
  refine evs (f := fun k => some _) (fun k => ?_) (Ev.now _)
  cases u <;> cases d <;> simp [curve_direction.j1, dirOf]
open Classical in
theorem dir_loop (c : List S50) (hc : c.length ≤ 1000) : ∀ (n i : Nat) (u d : Bool), i + 1 + n = c.length → Ev (fun k => curve_direction.l0 k c u d ((i + 1 : Nat) : Int)) (dirOf (u || decide (UpAt c i)) (d || decide (DnAt c i)))
  | 0, i, u, d, hi => by
    have h1 : ¬ UpAt c i := by rintro ⟨j, h1, h2, _⟩; omega
    have h2 : ¬ DnAt c i := by rintro ⟨j, h1, h2, _⟩; omega
    rw [decide_eq_false h1, decide_eq_false h2, Bool.or_false, Bool.or_false]
    refine evs (fun k => ?_) (dir_j1 u d)
    simp only [curve_direction.l0]
    rw [if_neg (by omega)]
    cases u <;> rfl
  | n + 1, i, u, d, hi => by
    have hw : wrap64 (((i + 1 : Nat) : Int) - 1) = (i : Int) := by rw [w64s (by omega) (by omega)]; omega
    have hw2 : wrap64 (((i + 1 : Nat) : Int) + 1) = ((i + 1 + 1 : Nat) : Int) := by rw [w64s (by omega) (by omega)]; omega
    have ih := dir_loop c hc n (i + 1) (u || decide ((kn c (i + 1)).f1 > (kn c i).f1)) (d || decide ((kn c (i + 1)).f1 < (kn c i).f1)) (by omega)
    have e1 : (u || decide ((kn c (i + 1)).f1 > (kn c i).f1) || decide (UpAt c (i + 1))) = (u || decide (UpAt c i)) := by
      rw [Bool.or_assoc]
      congr 1
      rw [← Bool.decide_or]
      exact decide_eq_decide.2 (upAt_next (by omega)).symm
    have e2 : (d || decide ((kn c (i + 1)).f1 < (kn c i).f1) || decide (DnAt c (i + 1))) = (d || decide (DnAt c i)) := by
      rw [Bool.or_assoc]
      congr 1
      rw [← Bool.decide_or]
      exact decide_eq_decide.2 (dnAt_next (by omega)).symm
    rw [e1, e2] at ih
    refine evs (fun k => ?_) ih
    simp only [curve_direction.l0]
    rw [if_pos (by omega), hw, hw2, rd_kn, rd_kn]
    have g1 : (0 : Int) ≤ (i : Int) + 1 := by omega
    have g2 : i < c.length := by omega
    cases u <;> cases d <;> simp [g1, g2]
theorem direction_ev (c : List S50) (g : Good c) : Ev (fun k => curve_direction.f k c) (dir c) := by
  have hle := g.le
  have hpos := g.pos
  have := dir_loop c (by omega) (c.length - 1) 0 false false (by omega)
  simpa [curve_direction.f, dir] using this
theorem up_of : ∀ (l : List S50) (a : S50), ¬ DnAt (a :: l) 0 → Up a l
  | [], _, _ => trivial
  | b :: l, a, h => by
    refine ⟨?_, up_of l b ?_⟩
    · rcases Int.lt_or_le b.f1 a.f1 with h' | h'
      · exact absurd ⟨0, Nat.le_refl _, by simp, by simpa [kn] using h'⟩ h
      · exact h'
    · rintro ⟨j, h1, h2, h3⟩
      exact h ⟨j + 1, by omega, by simpa using h2, by rw [kn_succ, kn_succ]; exact h3⟩
theorem down_of : ∀ (l : List S50) (a : S50), ¬ UpAt (a :: l) 0 → Down a l
  | [], _, _ => trivial
  | b :: l, a, h => by
    refine ⟨?_, down_of l b ?_⟩
    · rcases Int.lt_or_le a.f1 b.f1 with h' | h'
      · exact absurd ⟨0, Nat.le_refl _, by simp, by simpa [kn] using h'⟩ h
      · exact h'
    · rintro ⟨j, h1, h2, h3⟩
      exact h ⟨j + 1, by omega, by simpa using h2, by rw [kn_succ, kn_succ]; exact h3⟩
theorem dir_range (c : List S50) : (dir c = 2 ∨ dir c = 1 ∨ dir c = -1 ∨ dir c = 0) ∧ (dir c ≠ 2 → dir c ≠ -1 → ¬ DnAt c 0) ∧ (dir c ≠ 2 → dir c ≠ 1 → ¬ UpAt c 0) := by
  unfold dir dirOf
  by_cases hu : UpAt c 0 <;> by_cases hd : DnAt c 0 <;> simp [hu, hd]

/-! ### Eval and Direction, checked -/
theorem eval_good {c : List S50} (g : Good c) (x : Int) : Ev (fun k => curve_Eval.f k c x) (V c x, 0) := by
  have hc := check_ev c
  rw [(chk_good c).2 g] at hc
  unfold curve_Eval.f
  refine Ev.bind hc ?_
  simp only [if_true]
  exact Ev.bind (value_ev c g x) (Ev.now _)
theorem eval_bad {c : List S50} (g : ¬ Good c) (x : Int) : Ev (fun k => curve_Eval.f k c x) (0, chk c) := by
  have hc := check_ev c
  have hn : ¬ chk c = 0 := fun h => g ((chk_good c).1 h)
  unfold curve_Eval.f
  refine Ev.bind hc ?_
  simp only [hn, if_false]
  exact Ev.now _
theorem dirn_good {c : List S50} (g : Good c) : Ev (fun k => curve_Direction.f k c) (dir c, 0) := by
  have hc := check_ev c
  rw [(chk_good c).2 g] at hc
  unfold curve_Direction.f
  refine Ev.bind hc ?_
  simp only [if_true]
  exact Ev.bind (direction_ev c g) (Ev.now _)
theorem dirn_bad {c : List S50} (g : ¬ Good c) : Ev (fun k => curve_Direction.f k c) (0, chk c) := by
  have hc := check_ev c
  have hn : ¬ chk c = 0 := fun h => g ((chk_good c).1 h)
  unfold curve_Direction.f
  refine Ev.bind hc ?_
  simp only [hn, if_false]
  exact Ev.now _
theorem chk_ne {c : List S50} (g : ¬ Good c) : chk c ≠ 0 := fun h => g ((chk_good c).1 h)
theorem V_upG {c : List S50} (g : Good c) (h : ¬ DnAt c 0) {x y : Int} (hxy : x ≤ y) : V c x ≤ V c y := by
  obtain ⟨a, l, rfl, hi⟩ := g.chain
  exact V_up hi (up_of l a h) hxy
theorem V_downG {c : List S50} (g : Good c) (h : ¬ UpAt c 0) {x y : Int} (hxy : x ≤ y) : V c y ≤ V c x := by
  obtain ⟨a, l, rfl, hi⟩ := g.chain
  exact V_down hi (down_of l a h) hxy
theorem kn_app (A : List S50) (b : S50) (B : List S50) : kn (A ++ b :: B) A.length = b := by simp [kn]
end Go.Proofs.Ytacheoimnckghaa.Pure
