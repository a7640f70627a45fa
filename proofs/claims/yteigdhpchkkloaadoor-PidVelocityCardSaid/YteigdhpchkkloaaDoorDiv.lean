-- The division of 128 bits by 64 bits, as math/bits tells it, is the division of whole numbers.
import Derived.Test.YteigdhpchkkloaaDoorPTx7
import Derived.Laws.BitsLemmas
namespace Go.Proofs.YteigdhpchkkloaaDoor.Pure
open Go.RowKit Go.Proofs.YteigdhpchkkloaaDoor.PT Go.Proofs.YteigdhpchkkloaaDoorW.PrintWords Go.Proofs.YteigdhpchkkloaaDoorW.PrintLast Go.Proofs.YteigdhpchkkloaaDoorW.PrintMore
set_option linter.unusedVariables false
set_option linter.unusedSimpArgs false

theorem wu (x : Int) : IntKind.u64.wrap x = x % 18446744073709551616 := by simp [IntKind.wrap, IntKind.bits, IntKind.signed]
theorem wu_id {x : Int} (h0 : 0 ≤ x) (h1 : x < 18446744073709551616) : IntKind.u64.wrap x = x := by rw [wu]; omega
theorem wu_pow (n : Int) (h0 : 0 ≤ n) (h1 : n < 2 ^ 64) : IntKind.u64.wrap n = n := wu_id h0 h1
theorem evs {α : Type} {g f : Nat → Option α} {r : α} (h : ∀ k, g (k + 1) = f k) (k : Ev f r) : Ev g r := Ev.step h k

/-- One digit: a guess is too great exactly where the test says so. -/
theorem digit_test {Y yn1 yn0 u v q rhat : Int} (hY : Y = yn1 * 4294967296 + yn0) (h1 : 2147483648 ≤ yn1) (h1' : yn1 < 4294967296) (h0 : 0 ≤ yn0) (h0' : yn0 < 4294967296)
    (hv : 0 ≤ v) (hv' : v < 4294967296) (hq : q * yn1 + rhat = u) :
    (q * Y > u * 4294967296 + v ↔ q * yn0 > 4294967296 * rhat + v) := by
  have e : q * Y = q * yn1 * 4294967296 + q * yn0 := by rw [hY]; grind
  generalize q * yn1 = p1 at *
  generalize q * yn0 = p0 at *
  omega
theorem div_gt {N Y q : Int} (hY : 0 < Y) : (q * Y > N ↔ q > N / Y) := by
  constructor
  · intro h
    have := (Int.ediv_lt_iff_lt_mul hY).2 (show N < q * Y from h)
    omega
  · intro h
    have := (Int.ediv_lt_iff_lt_mul hY).1 (show N / Y < q from h)
    omega
theorem digit_small {Y u v : Int} (hY : 0 < Y) (hu : u < Y) (hv' : v < 4294967296) : (u * 4294967296 + v) / Y < 4294967296 := by
  refine (Int.ediv_lt_iff_lt_mul hY).2 ?_
  omega
theorem digit_pos {Y u v : Int} (hY : 0 < Y) (hu : 0 ≤ u) (hv : 0 ≤ v) : 0 ≤ (u * 4294967296 + v) / Y := Int.ediv_nonneg (by omega) (by omega)

structure Dig (Y yn1 yn0 u v : Int) : Prop where
  hY : Y = yn1 * 4294967296 + yn0
  h1 : 2147483648 ≤ yn1
  h1' : yn1 < 4294967296
  h0 : 0 ≤ yn0
  h0' : yn0 < 4294967296
  hu : 0 ≤ u
  hu' : u < Y
  hv : 0 ≤ v
  hv' : v < 4294967296
structure Guess (Y yn1 yn0 u v q rhat : Int) : Prop where
  e : q * yn1 + rhat = u
  r0 : 0 ≤ rhat
  r1 : rhat < 4294967296
  ge : (u * 4294967296 + v) / Y ≤ q
  le : q ≤ 4294967297
/-- What the test tells, and what the next guess is. -/
theorem guess_next {Y yn1 yn0 u v q rhat : Int} (d : Dig Y yn1 yn0 u v) (g : Guess Y yn1 yn0 u v q rhat) :
    ((q ≥ 4294967296 ∨ IntKind.u64.wrap (q * yn0) > IntKind.u64.wrap (IntKind.u64.wrap (4294967296 * rhat) + v)) ↔ (u * 4294967296 + v) / Y < q) ∧
    ((u * 4294967296 + v) / Y < q → IntKind.u64.wrap (q - 1) = q - 1 ∧ IntKind.u64.wrap (rhat + yn1) = rhat + yn1 ∧
      (rhat + yn1 ≥ 4294967296 → q - 1 = (u * 4294967296 + v) / Y) ∧ (rhat + yn1 < 4294967296 → Guess Y yn1 yn0 u v (q - 1) (rhat + yn1))) := by
  obtain ⟨hY, h1, h1', h0, h0', hu, hu', hv, hv'⟩ := d
  obtain ⟨ge, r0, r1, gge, gle⟩ := g
  have hY0 : 0 < Y := by omega
  have hs := digit_small hY0 hu' hv'
  have hp := digit_pos hY0 hu hv
  have ht := digit_test hY h1 h1' h0 h0' hv hv' ge
  have hd := div_gt (N := u * 4294967296 + v) (q := q) hY0
  refine ⟨?_, fun hlt => ?_⟩
  · by_cases hq : q ≥ 4294967296
    · constructor
      · intro _; omega
      · intro _; exact .inl hq
    · have hb : q * yn0 ≤ 4294967295 * 4294967295 := by
        have h2 : q * yn0 ≤ 4294967295 * yn0 := Int.mul_le_mul_of_nonneg_right (by omega) h0
        have h3 : (4294967295 : Int) * yn0 ≤ 4294967295 * 4294967295 := by omega
        omega
      have hb0 : 0 ≤ q * yn0 := Int.mul_nonneg (by omega) h0
      rw [wu_id hb0 (by omega), wu_id (x := 4294967296 * rhat) (by omega) (by omega), wu_id (by omega) (by omega)]
      constructor
      · rintro (h | h)
        · exact absurd h hq
        · exact hd.1 (ht.2 h)
      · intro h
        exact .inr (ht.1 (hd.2 h))
  · have hq1 : (q - 1) * yn1 + (rhat + yn1) = u := by
      have : (q - 1) * yn1 = q * yn1 - yn1 := by grind
      omega
    refine ⟨wu_id (by omega) (by omega), wu_id (by omega) (by omega), fun hr => ?_, fun hr => ⟨hq1, by omega, hr, by omega, by omega⟩⟩
    have ht' := digit_test hY h1 h1' h0 h0' hv hv' hq1
    have hd' := div_gt (N := u * 4294967296 + v) (q := q - 1) hY0
    have hb : (q - 1) * yn0 ≤ 4294967296 * 4294967295 := by
      have h2 : (q - 1) * yn0 ≤ 4294967296 * yn0 := Int.mul_le_mul_of_nonneg_right (by omega) h0
      omega
    have : ¬ ((q - 1) * yn0 > 4294967296 * (rhat + yn1) + v) := by omega
    have : ¬ (q - 1 > (u * 4294967296 + v) / Y) := fun h => this (ht'.1 (hd'.2 h))
    omega
/-- The first guess. -/
theorem guess_first {Y yn1 yn0 u v : Int} (d : Dig Y yn1 yn0 u v) (hY' : Y < 18446744073709551616) :
    IntKind.u64.wrap (Int.tdiv u yn1) = u / yn1 ∧ IntKind.u64.wrap (u - IntKind.u64.wrap (u / yn1 * yn1)) = u % yn1 ∧ Guess Y yn1 yn0 u v (u / yn1) (u % yn1) := by
  obtain ⟨hY, h1, h1', h0, h0', hu, hu', hv, hv'⟩ := d
  have hY0 : 0 < Y := by omega
  have hp : 0 < yn1 := by omega
  have e := Int.mul_ediv_add_emod u yn1
  have r0 := Int.emod_nonneg u (show yn1 ≠ 0 by omega)
  have r1 := Int.emod_lt_of_pos u hp
  have q0 : 0 ≤ u / yn1 := Int.ediv_nonneg hu (by omega)
  have e' : u / yn1 * yn1 + u % yn1 = u := by rw [Int.mul_comm]; exact e
  have hq : u / yn1 ≤ 4294967297 := by
    refine Int.le_of_lt_add_one ((Int.ediv_lt_iff_lt_mul hp).2 ?_)
    omega
  have ht : Int.tdiv u yn1 = u / yn1 := Int.tdiv_eq_ediv_of_nonneg hu
  refine ⟨by rw [ht]; exact wu_id q0 (by omega), ?_, ⟨e', r0, by omega, ?_, hq⟩⟩
  · have hm0 : 0 ≤ u / yn1 * yn1 := Int.mul_nonneg q0 (by omega)
    generalize u / yn1 * yn1 = m at *
    rw [wu_id hm0 (by omega), wu_id (by omega) (by omega)]
    omega
  · refine Int.le_ediv_of_mul_le hp ?_
    have hN := Int.mul_ediv_add_emod (u * 4294967296 + v) Y
    have hr := Int.emod_nonneg (u * 4294967296 + v) (show Y ≠ 0 by omega)
    have hQ := digit_pos hY0 hu hv
    have hexp : Y * ((u * 4294967296 + v) / Y) = (u * 4294967296 + v) / Y * yn1 * 4294967296 + (u * 4294967296 + v) / Y * yn0 := by
      generalize (u * 4294967296 + v) / Y = Q
      rw [hY]; grind
    have hn0 : 0 ≤ (u * 4294967296 + v) / Y * yn0 := Int.mul_nonneg hQ h0
    generalize (u * 4294967296 + v) / Y * yn1 = p1 at *
    generalize (u * 4294967296 + v) / Y * yn0 = p0 at *
    omega

theorem l0_ev {Y s yn1 yn0 u v1 v0 : Int} (d : Dig Y yn1 yn0 u v1) {r : Int × Int} (hr : Ev (fun k => bits_Div64.j2 k Y s yn1 yn0 u v1 v0 ((u * 4294967296 + v1) / Y)) r) :
    ∀ (n : Nat) (q rhat : Int), q - (u * 4294967296 + v1) / Y = n → Guess Y yn1 yn0 u v1 q rhat → Ev (fun k => bits_Div64.l0 k Y s yn1 yn0 u v1 v0 q rhat) r := by
  intro n
  induction n with
  | zero =>
    intro q rhat hn g
    have hq : q = (u * 4294967296 + v1) / Y := by omega
    have hnx := (guess_next d g).1
    have hnot : ¬ (q ≥ 4294967296 ∨ IntKind.u64.wrap (q * yn0) > IntKind.u64.wrap (IntKind.u64.wrap (4294967296 * rhat) + v1)) := fun h => by have := hnx.1 h; omega
    refine evs (f := fun k => bits_Div64.j1 k Y s yn1 yn0 u v1 v0 q rhat false) (fun k => ?_) (evs (f := fun k => bits_Div64.j2 k Y s yn1 yn0 u v1 v0 q) (fun k => ?_) (hq ▸ hr))
    · simp only [bits_Div64.l0]
      rw [if_neg (fun h => hnot (.inl h)), decide_eq_false (fun h => hnot (.inr h))]
    · simp only [bits_Div64.j1]
      rw [if_neg (by decide)]
  | succ n ih =>
    intro q rhat hn g
    obtain ⟨hnx, hnext⟩ := guess_next d g
    have hlt : (u * 4294967296 + v1) / Y < q := by omega
    obtain ⟨hw1, hw2, ha, hb⟩ := hnext hlt
    have hb1 : ∀ k, bits_Div64.l0 (k + 1) Y s yn1 yn0 u v1 v0 q rhat = bits_Div64.j1 k Y s yn1 yn0 u v1 v0 q rhat true := fun k => by
      simp only [bits_Div64.l0]
      by_cases hq : q ≥ 4294967296
      · rw [if_pos hq]
      · rw [if_neg hq, decide_eq_true ((hnx.2 hlt).resolve_left hq)]
    refine evs hb1 ?_
    by_cases hr' : rhat + yn1 ≥ 4294967296
    · refine evs (f := fun k => bits_Div64.j2 k Y s yn1 yn0 u v1 v0 (q - 1)) (fun k => ?_) ((ha hr') ▸ hr)
      simp only [bits_Div64.j1]
      rw [if_pos trivial, hw2, if_pos hr', hw1]
    · refine evs (f := fun k => bits_Div64.l0 k Y s yn1 yn0 u v1 v0 (q - 1) (rhat + yn1)) (fun k => ?_) (ih (q - 1) (rhat + yn1) (by omega) (hb (by omega)))
      simp only [bits_Div64.j1]
      rw [if_pos trivial, hw2, if_neg hr', hw1]
theorem l1_ev {Y s yn1 yn0 u v0 x15 : Int} (hs : 0 ≤ s) (d : Dig Y yn1 yn0 u v0) :
    ∀ (n : Nat) (q rhat : Int), q - (u * 4294967296 + v0) / Y = n → Guess Y yn1 yn0 u v0 q rhat → Ev (fun k => bits_Div64.l1 k Y s yn1 yn0 v0 x15 rhat u q)
      (IntKind.u64.wrap ((IntKind.u64.wrap (x15 * 4294967296)) + (u * 4294967296 + v0) / Y), shr .u64 (IntKind.u64.wrap ((IntKind.u64.wrap ((IntKind.u64.wrap (u * 4294967296)) + v0)) - (IntKind.u64.wrap ((u * 4294967296 + v0) / Y * Y)))) s) := by
  intro n
  induction n with
  | zero =>
    intro q rhat hn g
    have hq : q = (u * 4294967296 + v0) / Y := by omega
    have hnx := (guess_next d g).1
    have hnot : ¬ (q ≥ 4294967296 ∨ IntKind.u64.wrap (q * yn0) > IntKind.u64.wrap (IntKind.u64.wrap (4294967296 * rhat) + v0)) := fun h => by have := hnx.1 h; omega
    refine evs (f := fun k => bits_Div64.j4 k Y s yn1 yn0 v0 x15 rhat u q false) (fun k => ?_) (evs (f := fun k => some _) (fun k => ?_) (Ev.now _))
    · simp only [bits_Div64.l1]
      rw [if_neg (fun h => hnot (.inl h)), decide_eq_false (fun h => hnot (.inr h))]
    · simp only [bits_Div64.j4]
      rw [if_neg (by decide), if_pos hs, hq]
  | succ n ih =>
    intro q rhat hn g
    obtain ⟨hnx, hnext⟩ := guess_next d g
    have hlt : (u * 4294967296 + v0) / Y < q := by omega
    obtain ⟨hw1, hw2, ha, hb⟩ := hnext hlt
    have hb1 : ∀ k, bits_Div64.l1 (k + 1) Y s yn1 yn0 v0 x15 rhat u q = bits_Div64.j4 k Y s yn1 yn0 v0 x15 rhat u q true := fun k => by
      simp only [bits_Div64.l1]
      by_cases hq : q ≥ 4294967296
      · rw [if_pos hq]
      · rw [if_neg hq, decide_eq_true ((hnx.2 hlt).resolve_left hq)]
    refine evs hb1 ?_
    by_cases hr' : rhat + yn1 ≥ 4294967296
    · refine evs (f := fun k => some _) (fun k => ?_) (Ev.now _)
      simp only [bits_Div64.j4]
      rw [if_pos trivial, hw2, if_pos hr', if_pos hs, hw1, ha hr']
    · refine evs (f := fun k => bits_Div64.l1 k Y s yn1 yn0 v0 x15 (rhat + yn1) u (q - 1)) (fun k => ?_) (ih (q - 1) (rhat + yn1) (by omega) (hb (by omega)))
      simp only [bits_Div64.j4]
      rw [if_pos trivial, hw2, if_neg hr', hw1]

/-- The table of math/bits.Len8. -/
def tab8 : ByteArray := (⟨#[0, 1, 2, 2, 3, 3, 3, 3, 4, 4, 4, 4, 4, 4, 4, 4, 5, 5, 5, 5, 5, 5, 5, 5, 5, 5, 5, 5, 5, 5, 5, 5, 6, 6, 6, 6, 6, 6, 6, 6, 6, 6, 6, 6, 6, 6, 6, 6, 6, 6, 6, 6, 6, 6, 6, 6, 6, 6, 6, 6, 6, 6, 6, 6, 7, 7, 7, 7, 7, 7, 7, 7, 7, 7, 7, 7, 7, 7, 7, 7, 7, 7, 7, 7, 7, 7, 7, 7, 7, 7, 7, 7, 7, 7, 7, 7, 7, 7, 7, 7, 7, 7, 7, 7, 7, 7, 7, 7, 7, 7, 7, 7, 7, 7, 7, 7, 7, 7, 7, 7, 7, 7, 7, 7, 7, 7, 7, 7, 8, 8, 8, 8, 8, 8, 8, 8, 8, 8, 8, 8, 8, 8, 8, 8, 8, 8, 8, 8, 8, 8, 8, 8, 8, 8, 8, 8, 8, 8, 8, 8, 8, 8, 8, 8, 8, 8, 8, 8, 8, 8, 8, 8, 8, 8, 8, 8, 8, 8, 8, 8, 8, 8, 8, 8, 8, 8, 8, 8, 8, 8, 8, 8, 8, 8, 8, 8, 8, 8, 8, 8, 8, 8, 8, 8, 8, 8, 8, 8, 8, 8, 8, 8, 8, 8, 8, 8, 8, 8, 8, 8, 8, 8, 8, 8, 8, 8, 8, 8, 8, 8, 8, 8, 8, 8, 8, 8, 8, 8, 8, 8, 8, 8, 8, 8, 8, 8, 8, 8, 8, 8, 8, 8, 8, 8, 8, 8]⟩ : ByteArray)
def tabOk (i : Int) : Bool := let t := bt tab8 i; decide (1 ≤ t ∧ t ≤ 8 ∧ (2 : Int) ^ (t.toNat - 1) ≤ i ∧ i < (2 : Int) ^ t.toNat)
theorem tab_all : ∀ i : Fin 255, tabOk ((i.val : Int) + 1) = true := by decide +kernel
theorem tab_at {i : Int} (h0 : 1 ≤ i) (h1 : i < 256) : ∃ t : Int, bt tab8 i = t ∧ ((t = 1 ∧ i = 1) ∨ (t = 2 ∧ 2 ≤ i ∧ i < 4) ∨ (t = 3 ∧ 4 ≤ i ∧ i < 8) ∨ (t = 4 ∧ 8 ≤ i ∧ i < 16) ∨ (t = 5 ∧ 16 ≤ i ∧ i < 32) ∨ (t = 6 ∧ 32 ≤ i ∧ i < 64) ∨ (t = 7 ∧ 64 ≤ i ∧ i < 128) ∨ (t = 8 ∧ 128 ≤ i ∧ i < 256)) := by
  have h := tab_all ⟨(i - 1).toNat, by omega⟩
  have e : ((((i - 1).toNat : Nat) : Int) + 1) = i := by omega
  simp only [e] at h
  simp only [tabOk, decide_eq_true_eq] at h
  obtain ⟨t0, t1, t2, t3⟩ := h
  refine ⟨_, rfl, ?_⟩
  generalize bt tab8 i = t at *
  have : t = 1 ∨ t = 2 ∨ t = 3 ∨ t = 4 ∨ t = 5 ∨ t = 6 ∨ t = 7 ∨ t = 8 := by omega
  rcases this with rfl | rfl | rfl | rfl | rfl | rfl | rfl | rfl <;> simp at t2 t3 <;> omega
/-- What 64 less the length is good for. -/
def LzOk (y : Int) (L : Int) : Prop := ∃ s : Nat, s ≤ 63 ∧ 64 - L = (s : Int) ∧ 9223372036854775808 ≤ y * 2 ^ s ∧ y * 2 ^ s < 18446744073709551616
theorem w64s {x : Int} (h0 : -9223372036854775808 ≤ x) (h1 : x < 9223372036854775808) : wrap64 x = x := by rw [← i64_w, IntKind.wrap_i64]; omega
theorem lz_of {y z t : Int} (n : Nat) (hz : z = y / 2 ^ n) (hn : n = 0 ∨ n = 8 ∨ n = 16 ∨ n = 24 ∨ n = 32 ∨ n = 40 ∨ n = 48 ∨ n = 56) (ht : (t = 1 ∧ z = 1) ∨ (t = 2 ∧ 2 ≤ z ∧ z < 4) ∨ (t = 3 ∧ 4 ≤ z ∧ z < 8) ∨ (t = 4 ∧ 8 ≤ z ∧ z < 16) ∨ (t = 5 ∧ 16 ≤ z ∧ z < 32) ∨ (t = 6 ∧ 32 ≤ z ∧ z < 64) ∨ (t = 7 ∧ 64 ≤ z ∧ z < 128) ∨ (t = 8 ∧ 128 ≤ z ∧ z < 256)) : LzOk y (n + t) := by
  have key : ∀ s : Nat, (s : Int) = 64 - (n + t) → s ≤ 63 → 9223372036854775808 ≤ y * 2 ^ s → y * 2 ^ s < 18446744073709551616 → LzOk y (n + t) := fun s h1 h2 h3 h4 => ⟨s, h2, h1.symm, h3, h4⟩
  rcases hn with rfl | rfl | rfl | rfl | rfl | rfl | rfl | rfl <;> rcases ht with ⟨rfl, h⟩ | ⟨rfl, h⟩ | ⟨rfl, h⟩ | ⟨rfl, h⟩ | ⟨rfl, h⟩ | ⟨rfl, h⟩ | ⟨rfl, h⟩ | ⟨rfl, h⟩
  · exact key 63 (by omega) (by omega) (by simp at hz ⊢; omega) (by simp at hz ⊢; omega)
  · exact key 62 (by omega) (by omega) (by simp at hz ⊢; omega) (by simp at hz ⊢; omega)
  · exact key 61 (by omega) (by omega) (by simp at hz ⊢; omega) (by simp at hz ⊢; omega)
  · exact key 60 (by omega) (by omega) (by simp at hz ⊢; omega) (by simp at hz ⊢; omega)
  · exact key 59 (by omega) (by omega) (by simp at hz ⊢; omega) (by simp at hz ⊢; omega)
  · exact key 58 (by omega) (by omega) (by simp at hz ⊢; omega) (by simp at hz ⊢; omega)
  · exact key 57 (by omega) (by omega) (by simp at hz ⊢; omega) (by simp at hz ⊢; omega)
  · exact key 56 (by omega) (by omega) (by simp at hz ⊢; omega) (by simp at hz ⊢; omega)
  · exact key 55 (by omega) (by omega) (by simp at hz ⊢; omega) (by simp at hz ⊢; omega)
  · exact key 54 (by omega) (by omega) (by simp at hz ⊢; omega) (by simp at hz ⊢; omega)
  · exact key 53 (by omega) (by omega) (by simp at hz ⊢; omega) (by simp at hz ⊢; omega)
  · exact key 52 (by omega) (by omega) (by simp at hz ⊢; omega) (by simp at hz ⊢; omega)
  · exact key 51 (by omega) (by omega) (by simp at hz ⊢; omega) (by simp at hz ⊢; omega)
  · exact key 50 (by omega) (by omega) (by simp at hz ⊢; omega) (by simp at hz ⊢; omega)
  · exact key 49 (by omega) (by omega) (by simp at hz ⊢; omega) (by simp at hz ⊢; omega)
  · exact key 48 (by omega) (by omega) (by simp at hz ⊢; omega) (by simp at hz ⊢; omega)
  · exact key 47 (by omega) (by omega) (by simp at hz ⊢; omega) (by simp at hz ⊢; omega)
  · exact key 46 (by omega) (by omega) (by simp at hz ⊢; omega) (by simp at hz ⊢; omega)
  · exact key 45 (by omega) (by omega) (by simp at hz ⊢; omega) (by simp at hz ⊢; omega)
  · exact key 44 (by omega) (by omega) (by simp at hz ⊢; omega) (by simp at hz ⊢; omega)
  · exact key 43 (by omega) (by omega) (by simp at hz ⊢; omega) (by simp at hz ⊢; omega)
  · exact key 42 (by omega) (by omega) (by simp at hz ⊢; omega) (by simp at hz ⊢; omega)
  · exact key 41 (by omega) (by omega) (by simp at hz ⊢; omega) (by simp at hz ⊢; omega)
  · exact key 40 (by omega) (by omega) (by simp at hz ⊢; omega) (by simp at hz ⊢; omega)
  · exact key 39 (by omega) (by omega) (by simp at hz ⊢; omega) (by simp at hz ⊢; omega)
  · exact key 38 (by omega) (by omega) (by simp at hz ⊢; omega) (by simp at hz ⊢; omega)
  · exact key 37 (by omega) (by omega) (by simp at hz ⊢; omega) (by simp at hz ⊢; omega)
  · exact key 36 (by omega) (by omega) (by simp at hz ⊢; omega) (by simp at hz ⊢; omega)
  · exact key 35 (by omega) (by omega) (by simp at hz ⊢; omega) (by simp at hz ⊢; omega)
  · exact key 34 (by omega) (by omega) (by simp at hz ⊢; omega) (by simp at hz ⊢; omega)
  · exact key 33 (by omega) (by omega) (by simp at hz ⊢; omega) (by simp at hz ⊢; omega)
  · exact key 32 (by omega) (by omega) (by simp at hz ⊢; omega) (by simp at hz ⊢; omega)
  · exact key 31 (by omega) (by omega) (by simp at hz ⊢; omega) (by simp at hz ⊢; omega)
  · exact key 30 (by omega) (by omega) (by simp at hz ⊢; omega) (by simp at hz ⊢; omega)
  · exact key 29 (by omega) (by omega) (by simp at hz ⊢; omega) (by simp at hz ⊢; omega)
  · exact key 28 (by omega) (by omega) (by simp at hz ⊢; omega) (by simp at hz ⊢; omega)
  · exact key 27 (by omega) (by omega) (by simp at hz ⊢; omega) (by simp at hz ⊢; omega)
  · exact key 26 (by omega) (by omega) (by simp at hz ⊢; omega) (by simp at hz ⊢; omega)
  · exact key 25 (by omega) (by omega) (by simp at hz ⊢; omega) (by simp at hz ⊢; omega)
  · exact key 24 (by omega) (by omega) (by simp at hz ⊢; omega) (by simp at hz ⊢; omega)
  · exact key 23 (by omega) (by omega) (by simp at hz ⊢; omega) (by simp at hz ⊢; omega)
  · exact key 22 (by omega) (by omega) (by simp at hz ⊢; omega) (by simp at hz ⊢; omega)
  · exact key 21 (by omega) (by omega) (by simp at hz ⊢; omega) (by simp at hz ⊢; omega)
  · exact key 20 (by omega) (by omega) (by simp at hz ⊢; omega) (by simp at hz ⊢; omega)
  · exact key 19 (by omega) (by omega) (by simp at hz ⊢; omega) (by simp at hz ⊢; omega)
  · exact key 18 (by omega) (by omega) (by simp at hz ⊢; omega) (by simp at hz ⊢; omega)
  · exact key 17 (by omega) (by omega) (by simp at hz ⊢; omega) (by simp at hz ⊢; omega)
  · exact key 16 (by omega) (by omega) (by simp at hz ⊢; omega) (by simp at hz ⊢; omega)
  · exact key 15 (by omega) (by omega) (by simp at hz ⊢; omega) (by simp at hz ⊢; omega)
  · exact key 14 (by omega) (by omega) (by simp at hz ⊢; omega) (by simp at hz ⊢; omega)
  · exact key 13 (by omega) (by omega) (by simp at hz ⊢; omega) (by simp at hz ⊢; omega)
  · exact key 12 (by omega) (by omega) (by simp at hz ⊢; omega) (by simp at hz ⊢; omega)
  · exact key 11 (by omega) (by omega) (by simp at hz ⊢; omega) (by simp at hz ⊢; omega)
  · exact key 10 (by omega) (by omega) (by simp at hz ⊢; omega) (by simp at hz ⊢; omega)
  · exact key 9 (by omega) (by omega) (by simp at hz ⊢; omega) (by simp at hz ⊢; omega)
  · exact key 8 (by omega) (by omega) (by simp at hz ⊢; omega) (by simp at hz ⊢; omega)
  · exact key 7 (by omega) (by omega) (by simp at hz ⊢; omega) (by simp at hz ⊢; omega)
  · exact key 6 (by omega) (by omega) (by simp at hz ⊢; omega) (by simp at hz ⊢; omega)
  · exact key 5 (by omega) (by omega) (by simp at hz ⊢; omega) (by simp at hz ⊢; omega)
  · exact key 4 (by omega) (by omega) (by simp at hz ⊢; omega) (by simp at hz ⊢; omega)
  · exact key 3 (by omega) (by omega) (by simp at hz ⊢; omega) (by simp at hz ⊢; omega)
  · exact key 2 (by omega) (by omega) (by simp at hz ⊢; omega) (by simp at hz ⊢; omega)
  · exact key 1 (by omega) (by omega) (by simp at hz ⊢; omega) (by simp at hz ⊢; omega)
  · exact key 0 (by omega) (by omega) (by simp at hz ⊢; omega) (by simp at hz ⊢; omega)
theorem len64_step (k : Nat) (x0 x2 : Int) : bits_Len64.j0 (k + 1) x0 x2 = (if x0 ≥ 65536 then (if (x0 / 65536) ≥ 256 then (if 0 ≤ (((x0 / 65536) / 256) % 256) then (if (((x0 / 65536) / 256) % 256) < 256 then (some (wrap64 ((wrap64 ((wrap64 (x2 + 16)) + 8)) + (wrap64 (bt tab8 (((x0 / 65536) / 256) % 256)))))) else (none)) else (none)) else (if 0 ≤ ((x0 / 65536) % 256) then (if ((x0 / 65536) % 256) < 256 then (some (wrap64 ((wrap64 (x2 + 16)) + (wrap64 (bt tab8 ((x0 / 65536) % 256)))))) else (none)) else (none))) else (if x0 ≥ 256 then (if 0 ≤ ((x0 / 256) % 256) then (if ((x0 / 256) % 256) < 256 then (some (wrap64 ((wrap64 (x2 + 8)) + (wrap64 (bt tab8 ((x0 / 256) % 256)))))) else (none)) else (none)) else (if 0 ≤ ((x0) % 256) then (if ((x0) % 256) < 256 then (some (wrap64 (x2 + (wrap64 (bt tab8 ((x0) % 256)))))) else (none)) else (none)))) := rfl
theorem len64_j0 (k : Nat) (x n : Int) (hn : n = 0 ∨ n = 32) (h0 : 1 ≤ x) (h1 : x < 4294967296) : ∃ (d : Nat) (t z : Int), (d = 0 ∨ d = 8 ∨ d = 16 ∨ d = 24) ∧ z = x / 2 ^ d ∧ bits_Len64.j0 (k + 1) x n = some (n + d + t) ∧
    ((t = 1 ∧ z = 1) ∨ (t = 2 ∧ 2 ≤ z ∧ z < 4) ∨ (t = 3 ∧ 4 ≤ z ∧ z < 8) ∨ (t = 4 ∧ 8 ≤ z ∧ z < 16) ∨ (t = 5 ∧ 16 ≤ z ∧ z < 32) ∨ (t = 6 ∧ 32 ≤ z ∧ z < 64) ∨ (t = 7 ∧ 64 ≤ z ∧ z < 128) ∨ (t = 8 ∧ 128 ≤ z ∧ z < 256)) := by
  rw [len64_step]
  by_cases c1 : x ≥ 65536
  · rw [if_pos c1]
    by_cases c2 : x / 65536 ≥ 256
    · obtain ⟨t, e, ht⟩ := tab_at (i := x / 65536 / 256) (by omega) (by omega)
      refine ⟨24, t, x / 65536 / 256, .inr (.inr (.inr rfl)), by simp; omega, ?_, ht⟩
      rw [if_pos c2, if_pos (by omega), if_pos (by omega), show x / 65536 / 256 % 256 = x / 65536 / 256 by omega, e, w64s (x := n + 16) (by omega) (by omega), w64s (x := n + 16 + 8) (by omega) (by omega), w64s (x := t) (by omega) (by omega), w64s (by omega) (by omega)]
      exact congrArg some (by omega)
    · obtain ⟨t, e, ht⟩ := tab_at (i := x / 65536) (by omega) (by omega)
      refine ⟨16, t, x / 65536, .inr (.inr (.inl rfl)), by simp, ?_, ht⟩
      rw [if_neg c2, if_pos (by omega), if_pos (by omega), show x / 65536 % 256 = x / 65536 by omega, e, w64s (x := n + 16) (by omega) (by omega), w64s (x := t) (by omega) (by omega), w64s (by omega) (by omega)]
      exact congrArg some (by omega)
  · rw [if_neg c1]
    by_cases c2 : x ≥ 256
    · obtain ⟨t, e, ht⟩ := tab_at (i := x / 256) (by omega) (by omega)
      refine ⟨8, t, x / 256, .inr (.inl rfl), by simp, ?_, ht⟩
      rw [if_pos c2, if_pos (by omega), if_pos (by omega), show x / 256 % 256 = x / 256 by omega, e, w64s (x := n + 8) (by omega) (by omega), w64s (x := t) (by omega) (by omega), w64s (by omega) (by omega)]
      exact congrArg some (by omega)
    · obtain ⟨t, e, ht⟩ := tab_at (i := x) (by omega) (by omega)
      refine ⟨0, t, x, .inl rfl, by simp, ?_, ht⟩
      rw [if_neg c2, if_pos (by omega), if_pos (by omega), show x % 256 = x by omega, e, w64s (x := t) (by omega) (by omega), w64s (by omega) (by omega)]
      exact congrArg some (by omega)
theorem lz64 (k : Nat) (y : Int) (h0 : 1 ≤ y) (h1 : y < 18446744073709551616) : ∃ s : Nat, s ≤ 63 ∧ bits_LeadingZeros64.f (k + 1) y = some (s : Int) ∧ 9223372036854775808 ≤ y * 2 ^ s ∧ y * 2 ^ s < 18446744073709551616 := by
  have key : ∃ L : Int, bits_Len64.f (k + 1) y = some L ∧ LzOk y L := by
    unfold bits_Len64.f
    by_cases c : y ≥ 4294967296
    · obtain ⟨d, t, z, hd, hz, e, ht⟩ := len64_j0 k (y / 4294967296) 32 (.inr rfl) (by omega) (by omega)
      refine ⟨_, by rw [if_pos c, e], ?_⟩
      have := lz_of (y := y) (z := z) (t := t) (32 + d) (by rcases hd with rfl | rfl | rfl | rfl <;> simp at hz ⊢ <;> omega) (by omega) ht
      rwa [show ((32 + d : Nat) : Int) + t = 32 + d + t by omega] at this
    · obtain ⟨d, t, z, hd, hz, e, ht⟩ := len64_j0 k y 0 (.inl rfl) (by omega) (by omega)
      refine ⟨_, by rw [if_neg c, e], ?_⟩
      have := lz_of (y := y) (z := z) (t := t) d hz (by omega) ht
      rwa [show (d : Int) + t = 0 + d + t by omega] at this
  obtain ⟨L, e, s, hs, hL, h2, h3⟩ := key
  refine ⟨s, hs, ?_, h2, h3⟩
  unfold bits_LeadingZeros64.f
  rw [e]
  simp only [Option.bind_some]
  rw [w64s (by omega) (by omega), hL]

/-! ### the whole division -/
theorem scale_parts {lo p q : Int} (hp : 0 < p) (hq : 0 < q) (hpq : p * q = 18446744073709551616) (h0 : 0 ≤ lo) : lo * p = lo / q * 18446744073709551616 + lo * p % 18446744073709551616 ∧ 0 ≤ lo / q := by
  have e := Int.mul_ediv_add_emod lo q
  have r0 := Int.emod_nonneg lo (show q ≠ 0 by omega)
  have r1 := Int.emod_lt_of_pos lo hq
  have h1 : lo * p = lo / q * 18446744073709551616 + lo % q * p := by
    rw [← hpq]
    generalize lo / q = a at *
    generalize lo % q = b at *
    grind
  have h2 : 0 ≤ lo % q * p := Int.mul_nonneg r0 (by omega)
  have h3 : lo % q * p < 18446744073709551616 := by
    rw [← hpq, Int.mul_comm p q]
    exact Int.mul_lt_mul_of_pos_right r1 hp
  have h4 : 0 ≤ lo / q := Int.ediv_nonneg h0 (by omega)
  generalize lo % q * p = b at *
  generalize lo / q = a at *
  omega
theorem un_next {U v Y : Int} (hY0 : 0 < Y) (hY : Y < 18446744073709551616) : IntKind.u64.wrap ((IntKind.u64.wrap ((IntKind.u64.wrap (U * 4294967296)) + v)) - (IntKind.u64.wrap ((U * 4294967296 + v) / Y * Y))) = (U * 4294967296 + v) % Y := by
  have e := Int.mul_ediv_add_emod (U * 4294967296 + v) Y
  have r0 := Int.emod_nonneg (U * 4294967296 + v) (show Y ≠ 0 by omega)
  have r1 := Int.emod_lt_of_pos (U * 4294967296 + v) hY0
  rw [Int.mul_comm] at e
  simp only [wu]
  generalize (U * 4294967296 + v) / Y * Y = m at *
  generalize (U * 4294967296 + v) % Y = r at *
  omega
theorem div64_eq {N p q y U V Y un1 un0 Q1 R1 Q0 R0 : Int} (hp : 0 < p) (hy : 0 < y) (hNp : N * p = U * 18446744073709551616 + V) (hYe : Y = y * p) (hV : V = un1 * 4294967296 + un0)
    (e1 : Q1 * Y + R1 = U * 4294967296 + un1) (e0 : Q0 * Y + R0 = R1 * 4294967296 + un0) (r0 : 0 ≤ R0) (r1 : R0 < Y) (hq : q = Q1 * 4294967296 + Q0) : N / y = q ∧ N % y = N - q * y ∧ R0 = (N - q * y) * p := by
  have hR : R0 = (N - q * y) * p := by
    have h2 : q * Y = Q1 * Y * 4294967296 + Q0 * Y := by rw [hq]; grind
    have h3 : (N - q * y) * p = N * p - q * Y := by rw [hYe]; grind
    rw [h3, hNp, h2, hV]
    generalize Q1 * Y = a at *
    generalize Q0 * Y = b at *
    omega
  have hr0 : 0 ≤ N - q * y := by
    rcases Int.lt_or_le (N - q * y) 0 with h | h
    · have : (N - q * y) * p ≤ -1 * p := Int.mul_le_mul_of_nonneg_right (by omega) (by omega)
      omega
    · exact h
  have hr1 : N - q * y < y := by
    rcases Int.lt_or_le (N - q * y) y with h | h
    · exact h
    · have : y * p ≤ (N - q * y) * p := Int.mul_le_mul_of_nonneg_right h (by omega)
      omega
  have := (Int.ediv_emod_unique (a := N) (b := y) (r := N - q * y) (q := q) hy).2 ⟨by rw [Int.mul_comm y q]; omega, hr0, hr1⟩
  exact ⟨this.1, this.2, hR⟩
theorem div64 {hi lo y : Int} (h0 : 0 ≤ hi) (h1 : hi < y) (hl0 : 0 ≤ lo) (hl1 : lo < 18446744073709551616) (hy : y < 18446744073709551616) :
    Ev (fun k => bits_Div64.f k hi lo y) ((hi * 18446744073709551616 + lo) / y, (hi * 18446744073709551616 + lo) % y) := by
  have hq0 : 0 ≤ (hi * 18446744073709551616 + lo) / y := Int.ediv_nonneg (by omega) (by omega)
  by_cases hz : hi = 0
  · subst hz
    refine Ev.congr (f := fun k => some _) (fun k => ?_) (Ev.now _)
    simp only [bits_Div64.f]
    rw [if_neg (by omega), if_neg (by omega), if_pos trivial]
    simp only [Int.zero_mul, Int.zero_add] at hq0 ⊢
    have : lo / y ≤ lo := Int.ediv_le_self _ hl0
    rw [Int.tdiv_eq_ediv_of_nonneg hl0, Int.tmod_eq_emod_of_nonneg hl0, wu_id hq0 (by omega)]
  · have hy0 : 0 < y := by omega
    obtain ⟨s, hs, hlz0, hn0, hn1⟩ := lz64 0 y (by omega) hy
    have hlz : ∀ k, bits_LeadingZeros64.f (k + 1) y = some (s : Int) := fun k => by
      obtain ⟨s', hs', h', hn0', hn1'⟩ := lz64 k y (by omega) hy
      have hm : ∀ j, bits_LeadingZeros64.f (0 + 1 + j) y = some (s : Int) := fun j => more_rounds (fun k => bits_LeadingZeros64.mono y k) 1 j _ hlz0
      have := hm k
      rwa [show 0 + 1 + k = k + 1 by omega] at this
    have hs64 : min s 64 = s := by omega
    have hpq : (2 : Int) ^ s * 2 ^ (64 - s) = 18446744073709551616 := by
      rw [← Int.pow_add, show s + (64 - s) = 64 by omega]; rfl
    have hp : (0 : Int) < 2 ^ s := Int.pow_pos (by decide)
    have hq : (0 : Int) < 2 ^ (64 - s) := Int.pow_pos (by decide)
    have hws : IntKind.u64.wrap (s : Int) = (s : Int) := wu_id (by omega) (by omega)
    have hws2 : IntKind.u64.wrap (64 - (s : Int)) = (64 : Int) - s := wu_id (by omega) (by omega)
    have hhi : hi * 2 ^ s ≤ (y - 1) * 2 ^ s := Int.mul_le_mul_of_nonneg_right (by omega) (by omega)
    have hhi0 : 0 ≤ hi * 2 ^ s := Int.mul_nonneg h0 (by omega)
    have hy1 : (y - 1) * 2 ^ s = y * 2 ^ s - 2 ^ s := by grind
    have hA : shl .u64 y (s : Int) = y * 2 ^ s := by
      show IntKind.u64.wrap (y * 2 ^ min (s : Int).toNat 64) = _
      rw [Int.toNat_natCast, hs64]; exact wu_id (by omega) hn1
    have hB : shl .u64 hi (s : Int) = hi * 2 ^ s := by
      show IntKind.u64.wrap (hi * 2 ^ min (s : Int).toNat 64) = _
      rw [Int.toNat_natCast, hs64]; exact wu_id hhi0 (by omega)
    have hC : shl .u64 lo (s : Int) = lo * 2 ^ s % 18446744073709551616 := by
      show IntKind.u64.wrap (lo * 2 ^ min (s : Int).toNat 64) = _
      rw [Int.toNat_natCast, hs64, wu]
    have hD : shr .u64 lo ((64 : Int) - s) = lo / 2 ^ (64 - s) := by
      show lo / 2 ^ min ((64 : Int) - s).toNat 64 = _
      rw [show min ((64 : Int) - s).toNat 64 = 64 - s by omega]
    obtain ⟨hsp, hd0⟩ := scale_parts hp hq hpq hl0
    have hdp : lo / 2 ^ (64 - s) < 2 ^ s := by
      refine (Int.ediv_lt_iff_lt_mul hq).2 ?_
      rw [hpq]; exact hl1
    have hOr : Go.bits .or .u64 (hi * 2 ^ s) (lo / 2 ^ (64 - s)) = hi * 2 ^ s + lo / 2 ^ (64 - s) :=
      bits_join .u64 64 (by decide) wu_pow s _ _ hhi0 (Int.mul_emod_left _ _) (by show hi * 2 ^ s < 18446744073709551616; omega) hd0 hdp (by show lo / 2 ^ (64 - s) < 18446744073709551616; omega)
    have hAnd : ∀ x : Int, 0 ≤ x → x < 18446744073709551616 → Go.bits .and .u64 x 4294967295 = x % 4294967296 := fun x hx0 hx1 => by
      have := bits_mask .u64 64 (by decide) wu_pow 32 (by decide) x hx0 hx1
      simpa using this
    have hNp : (hi * 18446744073709551616 + lo) * 2 ^ s = (hi * 2 ^ s + lo / 2 ^ (64 - s)) * 18446744073709551616 + lo * 2 ^ s % 18446744073709551616 := by
      have : (hi * 18446744073709551616 + lo) * 2 ^ s = hi * 2 ^ s * 18446744073709551616 + lo * 2 ^ s := by grind
      rw [this, hsp]
      generalize hi * 2 ^ s = a at *
      omega
    have hV0 : 0 ≤ lo * 2 ^ s % 18446744073709551616 := Int.emod_nonneg _ (by decide)
    have hV1 : lo * 2 ^ s % 18446744073709551616 < 18446744073709551616 := Int.emod_lt_of_pos _ (by decide)
    obtain ⟨Y, hY⟩ : ∃ Y, Y = y * 2 ^ s := ⟨_, rfl⟩
    obtain ⟨U, hU⟩ : ∃ U, U = hi * 2 ^ s + lo / 2 ^ (64 - s) := ⟨_, rfl⟩
    obtain ⟨V, hV⟩ : ∃ V, V = lo * 2 ^ s % 18446744073709551616 := ⟨_, rfl⟩
    rw [← hU, ← hV] at hNp
    rw [← hV] at hV0 hV1 hC
    rw [← hU] at hOr
    rw [← hY] at hA hn0 hn1 hy1
    have hU0 : 0 ≤ U := by omega
    have hU1 : U < Y := by omega
    have d1 : Dig Y (Y / 4294967296) (Y % 4294967296) U (V / 4294967296) := ⟨by omega, by omega, by omega, by omega, by omega, hU0, hU1, by omega, by omega⟩
    have hY0 : 0 < Y := by omega
    have e1 := Int.mul_ediv_add_emod (U * 4294967296 + V / 4294967296) Y
    have r10 := Int.emod_nonneg (U * 4294967296 + V / 4294967296) (show Y ≠ 0 by omega)
    have r11 := Int.emod_lt_of_pos (U * 4294967296 + V / 4294967296) hY0
    have q1s := digit_small (u := U) (v := V / 4294967296) hY0 hU1 (by omega)
    have q1p := digit_pos (u := U) (v := V / 4294967296) hY0 hU0 (by omega)
    obtain ⟨g1, g2, g3⟩ := guess_first d1 hn1
    have hun := un_next (U := U) (v := V / 4294967296) hY0 hn1
    obtain ⟨R1, hR1⟩ : ∃ R1, R1 = (U * 4294967296 + V / 4294967296) % Y := ⟨_, rfl⟩
    obtain ⟨Q1, hQ1⟩ : ∃ Q1, Q1 = (U * 4294967296 + V / 4294967296) / Y := ⟨_, rfl⟩
    rw [← hR1] at e1 r10 r11 hun
    rw [← hQ1] at e1 q1s q1p hun
    have d0 : Dig Y (Y / 4294967296) (Y % 4294967296) R1 (V % 4294967296) := ⟨by omega, by omega, by omega, by omega, by omega, r10, r11, by omega, by omega⟩
    have e0 := Int.mul_ediv_add_emod (R1 * 4294967296 + V % 4294967296) Y
    have r00 := Int.emod_nonneg (R1 * 4294967296 + V % 4294967296) (show Y ≠ 0 by omega)
    have r01 := Int.emod_lt_of_pos (R1 * 4294967296 + V % 4294967296) hY0
    have q0s := digit_small (u := R1) (v := V % 4294967296) hY0 r11 (by omega)
    have q0p := digit_pos (u := R1) (v := V % 4294967296) hY0 r10 (by omega)
    obtain ⟨f1, f2, f3⟩ := guess_first d0 hn1
    have hun0 := un_next (U := R1) (v := V % 4294967296) hY0 hn1
    have hl1 := l1_ev (s := (s : Int)) (x15 := Q1) (by omega) d0 ((R1 / (Y / 4294967296) - (R1 * 4294967296 + V % 4294967296) / Y).toNat) _ _ (by have := f3.ge; omega) f3
    rw [hun0] at hl1
    obtain ⟨R0, hR0⟩ : ∃ R0, R0 = (R1 * 4294967296 + V % 4294967296) % Y := ⟨_, rfl⟩
    obtain ⟨Q0, hQ0⟩ : ∃ Q0, Q0 = (R1 * 4294967296 + V % 4294967296) / Y := ⟨_, rfl⟩
    rw [← hR0] at e0 r00 r01 hl1
    rw [← hQ0] at e0 q0s q0p hl1
    obtain ⟨z1, z2, z3⟩ := div64_eq (q := Q1 * 4294967296 + Q0) hp hy0 hNp hY (show V = V / 4294967296 * 4294967296 + V % 4294967296 by omega) (by rw [Int.mul_comm Q1 Y]; exact e1) (by rw [Int.mul_comm Q0 Y]; exact e0) r00 r01 rfl
    have hres : (IntKind.u64.wrap ((IntKind.u64.wrap (Q1 * 4294967296)) + Q0), shr .u64 R0 (s : Int)) = ((hi * 18446744073709551616 + lo) / y, (hi * 18446744073709551616 + lo) % y) := by
      have h1 : IntKind.u64.wrap ((IntKind.u64.wrap (Q1 * 4294967296)) + Q0) = Q1 * 4294967296 + Q0 := by
        rw [wu_id (x := Q1 * 4294967296) (by omega) (by omega), wu_id (by omega) (by omega)]
      have h2 : shr .u64 R0 (s : Int) = R0 / 2 ^ s := by
        show R0 / 2 ^ min (s : Int).toNat 64 = _
        rw [Int.toNat_natCast, hs64]
      rw [h1, h2, z1, z2, z3, Int.mul_ediv_cancel _ (by omega)]
    rw [hres] at hl1
    have hj2 : Ev (fun k => bits_Div64.j2 k Y (s : Int) (Y / 4294967296) (Y % 4294967296) U (V / 4294967296) (V % 4294967296) ((U * 4294967296 + V / 4294967296) / Y)) ((hi * 18446744073709551616 + lo) / y, (hi * 18446744073709551616 + lo) % y) := by
      refine evs (fun k => ?_) hl1
      simp only [bits_Div64.j2]
      rw [if_neg (by omega), ← hQ1, hun, f1, f2]
    have hl0 := l0_ev d1 hj2 ((U / (Y / 4294967296) - (U * 4294967296 + V / 4294967296) / Y).toNat) _ _ (by have := g3.ge; omega) g3
    refine evs (g := fun k => bits_Div64.f k hi lo y) (f := fun k => bits_Div64.l0 (k + 1) Y (s : Int) (Y / 4294967296) (Y % 4294967296) U (V / 4294967296) (V % 4294967296) (U / (Y / 4294967296)) (U % (Y / 4294967296))) (fun k => ?_) ?_
    · simp only [bits_Div64.f]
      rw [if_neg (by omega), if_neg (by omega), if_neg hz, hlz k]
      simp only [Option.bind_some]
      rw [hws, hws2, if_pos (by omega), if_pos (by omega), hA, hB, hC, hD, hOr, hAnd Y (by omega) hn1, hAnd V hV0 hV1, if_neg (by omega), g1, g2]
    · obtain ⟨K, hK⟩ := hl0
      exact ⟨K, fun k hk => hK (k + 1) (by omega)⟩
end Go.Proofs.YteigdhpchkkloaaDoor.Pure
