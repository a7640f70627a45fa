-- Simplify: which knots can be left out, and what stays.
import Derived.Test.YtacheoimnckghaaShift
import Derived.Test.YtacheoimnckghaaPTx9
import Derived.Test.YtacheoimnckghaaPTx6
namespace Go.Proofs.Ytacheoimnckghaa.Pure
open Go.RowKit Go.Proofs.Ytacheoimnckghaa.PT Go.Proofs.YtacheoimnckghaaW.PrintWords Go.Proofs.YtacheoimnckghaaW.PrintLast Go.Proofs.YtacheoimnckghaaW.PrintMore
set_option linter.unusedVariables false
set_option linter.unusedSimpArgs false
/-- The middle one of three knots is on the line through the others. -/
def St (a b c : S50) : Prop := (b.f1 - a.f1) * (c.f0 - b.f0) = (c.f1 - b.f1) * (b.f0 - a.f0)
instance decSt (a b c : S50) : Decidable (St a b c) := by unfold St; infer_instance
theorem mul_pos_iff {x w : Int} (hw : 0 < w) : (0 < x * w ↔ 0 < x) ∧ (x * w < 0 ↔ x < 0) ∧ (x * w = 0 ↔ x = 0) := by
  refine ⟨⟨fun h => ?_, fun h => Int.mul_pos h hw⟩, ⟨fun h => ?_, fun h => Int.mul_neg_of_neg_of_pos h hw⟩, ⟨fun h => ?_, fun h => by rw [h, Int.zero_mul]⟩⟩
  · rcases Int.lt_or_le 0 x with h' | h'
    · exact h'
    · have := Int.mul_le_mul_of_nonneg_right h' (show 0 ≤ w by omega)
      omega
  · rcases Int.lt_or_le x 0 with h' | h'
    · exact h'
    · have := Int.mul_nonneg h' (show 0 ≤ w by omega)
      omega
  · rcases Int.mul_eq_zero.1 h with h | h
    · exact h
    · omega
theorem straight_ev {a b c : S50} (ha : okI a) (hb : okI b) (hc : okI c) (hab : a.f0 < b.f0) (hbc : b.f0 < c.f0) : Ev (fun k => curve_straight.f k a.f0 a.f1 b.f0 b.f1 c.f0 c.f1) (decide (St a b c)) := by
  obtain ⟨a0, a1, a2, a3⟩ := ha
  obtain ⟨b0, b1, b2, b3⟩ := hb
  obtain ⟨c0, c1, c2, c3⟩ := hc
  unfold St
  have w1 : wrap64 (b.f1 - a.f1) = b.f1 - a.f1 := w64s (by omega) (by omega)
  have w2 : wrap64 (c.f1 - b.f1) = c.f1 - b.f1 := w64s (by omega) (by omega)
  have w3 : wrap64 (c.f0 - b.f0) = c.f0 - b.f0 := w64s (by omega) (by omega)
  have w4 : wrap64 (b.f0 - a.f0) = b.f0 - a.f0 := w64s (by omega) (by omega)
  obtain ⟨p1, p2, p3⟩ := mul_pos_iff (x := b.f1 - a.f1) (w := c.f0 - b.f0) (by omega)
  obtain ⟨q1, q2, q3⟩ := mul_pos_iff (x := c.f1 - b.f1) (w := b.f0 - a.f0) (by omega)
  have hj : ∀ flag : Bool, Ev (fun k => curve_straight.j0 k (b.f1 - a.f1) (c.f1 - b.f1) flag a.f0 a.f1 b.f0 b.f1 c.f0 c.f1) (if flag = true then decide (b.f1 - a.f1 = 0 ∧ c.f1 - b.f1 = 0) else decide (((b.f1 - a.f1).natAbs : Int) * (c.f0 - b.f0) = ((c.f1 - b.f1).natAbs : Int) * (b.f0 - a.f0))) := fun flag => by
    refine evs (f := fun k => some _) (fun k => ?_) (Ev.now _)
    simp only [curve_straight.j0]
    cases flag with
    | true =>
      simp only [if_true]
      by_cases h : b.f1 - a.f1 = 0
      · rw [if_pos h]
        by_cases h' : c.f1 - b.f1 = 0 <;> simp [h, h']
      · rw [if_neg h]
        simp [h]
    | false =>
      rw [if_neg (by decide), if_neg (by decide), size_of (by omega) (by omega), size_of (by omega) (by omega)]
      simp only [Option.bind_some]
      rw [w3, w4, wu_id (x := c.f0 - b.f0) (by omega) (by omega), wu_id (x := b.f0 - a.f0) (by omega) (by omega), mul64 (by omega) (by omega) (by omega) (by omega), mul64 (by omega) (by omega) (by omega) (by omega)]
      simp only [Option.bind_some]
      generalize ((b.f1 - a.f1).natAbs : Int) * (c.f0 - b.f0) = P
      generalize ((c.f1 - b.f1).natAbs : Int) * (b.f0 - a.f0) = Q
      by_cases h : P / 18446744073709551616 = Q / 18446744073709551616
      · rw [if_pos h]
        refine congrArg some ?_
        by_cases h2 : P % 18446744073709551616 = Q % 18446744073709551616
        · rw [decide_eq_true (show P = Q by omega)]; simpa using h2
        · rw [decide_eq_false (show ¬ P = Q by omega)]; simpa using h2
      · rw [if_neg h, decide_eq_false (show ¬ P = Q by omega)]
  unfold curve_straight.f
  simp only [w1, w2]
  by_cases hs : ((decide (b.f1 - a.f1 < 0)) != (decide (c.f1 - b.f1 < 0))) = true
  · have h1 := hj true
    rw [if_pos rfl] at h1
    have hs' : ¬ ((b.f1 - a.f1 < 0) ↔ (c.f1 - b.f1 < 0)) := by simpa using hs
    rw [decide_eq_decide.2 (show (b.f1 - a.f1 = 0 ∧ c.f1 - b.f1 = 0) ↔ (b.f1 - a.f1) * (c.f0 - b.f0) = (c.f1 - b.f1) * (b.f0 - a.f0) by omega)] at h1
    exact Ev.congr (fun k => by rw [if_pos hs]) h1
  · have hs' : ((b.f1 - a.f1 < 0) ↔ (c.f1 - b.f1 < 0)) := by simpa using hs
    by_cases h0 : b.f1 - a.f1 = 0
    · have h1 := hj true
      rw [if_pos rfl] at h1
      rw [decide_eq_decide.2 (show (b.f1 - a.f1 = 0 ∧ c.f1 - b.f1 = 0) ↔ (b.f1 - a.f1) * (c.f0 - b.f0) = (c.f1 - b.f1) * (b.f0 - a.f0) by omega)] at h1
      exact Ev.congr (fun k => by rw [if_neg hs, if_pos h0]) h1
    · by_cases h00 : c.f1 - b.f1 = 0
      · have h1 := hj true
        rw [if_pos rfl] at h1
        rw [decide_eq_decide.2 (show (b.f1 - a.f1 = 0 ∧ c.f1 - b.f1 = 0) ↔ (b.f1 - a.f1) * (c.f0 - b.f0) = (c.f1 - b.f1) * (b.f0 - a.f0) by omega)] at h1
        have e : (c.f1 - b.f1 == 0) = true := by simpa using h00
        exact Ev.congr (fun k => by rw [if_neg hs, if_neg h0, e]) h1
      · have h1 := hj false
        rw [if_neg (by decide)] at h1
        have e : (c.f1 - b.f1 == 0) = false := by simpa using h00
        have : (((b.f1 - a.f1).natAbs : Int) * (c.f0 - b.f0) = ((c.f1 - b.f1).natAbs : Int) * (b.f0 - a.f0)) ↔ (b.f1 - a.f1) * (c.f0 - b.f0) = (c.f1 - b.f1) * (b.f0 - a.f0) := by
          by_cases hn : b.f1 - a.f1 < 0
          · have hn' := hs'.1 hn
            rw [show ((b.f1 - a.f1).natAbs : Int) = -(b.f1 - a.f1) by omega, show ((c.f1 - b.f1).natAbs : Int) = -(c.f1 - b.f1) by omega, Int.neg_mul, Int.neg_mul]
            omega
          · have hn' : ¬ c.f1 - b.f1 < 0 := fun h => hn (hs'.2 h)
            rw [show ((b.f1 - a.f1).natAbs : Int) = b.f1 - a.f1 by omega, show ((c.f1 - b.f1).natAbs : Int) = c.f1 - b.f1 by omega]
        rw [decide_eq_decide.2 this] at h1
        exact Ev.congr (fun k => by rw [if_neg hs, if_neg h0, e]) h1
/-- A knot can be left out. -/
def Idle (c : List S50) (i : Nat) : Prop :=
  c.length ≠ 1 ∧ (i = 0 → (kn c 0).f1 = (kn c 1).f1) ∧ (i ≠ 0 → i + 1 = c.length → (kn c i).f1 = (kn c (i - 1)).f1) ∧ (i ≠ 0 → i + 1 ≠ c.length → St (kn c (i - 1)) (kn c i) (kn c (i + 1)))
theorem idle_ev {c : List S50} (g : Good c) (i : Nat) (hi : i < c.length) : ∃ b, Ev (fun k => curve_idle.f k c (i : Int)) b ∧ (b = true ↔ Idle c i) := by
  have hle := g.le
  have hw1 : wrap64 ((c.length : Int) - 1) = ((c.length - 1 : Nat) : Int) := by rw [w64s (by omega) (by omega)]; omega
  have h00 : rd_T50 c 0 = kn c 0 := rd_kn c 0
  have h01 : rd_T50 c 1 = kn c 1 := rd_kn c 1
  unfold Idle
  by_cases h1 : c.length = 1
  · refine ⟨false, Ev.congr (f := fun k => some false) (fun k => ?_) (Ev.now _), ⟨fun h => absurd h (by decide), fun h => absurd h1 h.1⟩⟩
    unfold curve_idle.f
    rw [if_pos (by omega)]
  · by_cases h0 : i = 0
    · subst h0
      refine ⟨(kn c 0).f1 == (kn c 1).f1, Ev.congr (f := fun k => some ((kn c 0).f1 == (kn c 1).f1)) (fun k => ?_) (Ev.now _), ?_⟩
      · unfold curve_idle.f
        rw [if_neg (by omega), if_pos (by omega), if_pos (by omega), if_pos (by omega), h00, h01]
      · rw [beq_iff_eq]
        exact ⟨fun h => ⟨h1, fun _ => h, fun h => absurd rfl h, fun h => absurd rfl h⟩, fun h => h.2.1 rfl⟩
    · have hwi : wrap64 ((i : Int) - 1) = ((i - 1 : Nat) : Int) := by rw [w64s (by omega) (by omega)]; omega
      have hwi2 : wrap64 ((i : Int) + 1) = ((i + 1 : Nat) : Int) := by rw [w64s (by omega) (by omega)]; omega
      by_cases hL : i + 1 = c.length
      · refine ⟨(kn c i).f1 == (kn c (i - 1)).f1, Ev.congr (f := fun k => some ((kn c i).f1 == (kn c (i - 1)).f1)) (fun k => ?_) (Ev.now _), ?_⟩
        · unfold curve_idle.f
          rw [if_neg (by omega), if_neg (by omega), hw1, if_pos (by omega), if_pos (by omega), if_pos (by omega), hwi, if_pos (by omega), if_pos (by omega), rd_kn, rd_kn]
        · rw [beq_iff_eq]
          exact ⟨fun h => ⟨h1, fun e => absurd e h0, fun _ _ => h, fun _ e => absurd hL e⟩, fun h => h.2.2.1 h0 hL⟩
      · have hab := g.inc (i - 1) (by omega)
        rw [show i - 1 + 1 = i by omega] at hab
        have hst := straight_ev (g.ok (i - 1) (by omega)) (g.ok i hi) (g.ok (i + 1) (by omega)) hab (g.inc i (by omega))
        refine ⟨_, Ev.congr (f := fun k => (curve_straight.f k (kn c (i - 1)).f0 (kn c (i - 1)).f1 (kn c i).f0 (kn c i).f1 (kn c (i + 1)).f0 (kn c (i + 1)).f1).bind fun t => some t) (fun k => ?_) (Ev.bind hst (Ev.now _)), ?_⟩
        · unfold curve_idle.f
          rw [if_neg (by omega), if_neg (by omega), hw1, if_neg (by omega), hwi, if_pos (by omega), if_pos (by omega), if_pos (by omega), if_pos (by omega), hwi2, if_pos (by omega), if_pos (by omega), rd_kn, rd_kn, rd_kn]
        · rw [decide_eq_true_iff]
          exact ⟨fun h => ⟨h1, fun e => absurd e h0, fun _ e => absurd e hL, fun _ _ => h⟩, fun h => h.2.2.2 h0 hL⟩
/-! ### a knot that is left out changes nothing -/
theorem ip_cross {a b c d : S50} {x : Int} (hab : a.f0 < b.f0) (hcd : c.f0 < d.f0) (h : (a.f1 * (b.f0 - a.f0) + (x - a.f0) * (b.f1 - a.f1)) * (d.f0 - c.f0) = (c.f1 * (d.f0 - c.f0) + (x - c.f0) * (d.f1 - c.f1)) * (b.f0 - a.f0)) : ip a b x = ip c d x :=
  R_cross (by omega) (by omega) h
theorem st_left {a b c : S50} (hab : a.f0 < b.f0) (hbc : b.f0 < c.f0) (h : St a b c) (x : Int) : ip a b x = ip a c x := by
  refine ip_cross hab (by omega) ?_
  unfold St at h
  grind
theorem st_right {a b c : S50} (hab : a.f0 < b.f0) (hbc : b.f0 < c.f0) (h : St a b c) (x : Int) : ip b c x = ip a c x := by
  refine ip_cross hbc (by omega) ?_
  unfold St at h
  grind
theorem ip_flat {a b : S50} (hab : a.f0 < b.f0) (h : a.f1 = b.f1) {x : Int} (h0 : a.f0 ≤ x) (h1 : x ≤ b.f0) : ip a b x = a.f1 := by
  have := ip_between hab h0 h1
  omega
/-- What makes the knot at place i of l idle behind a. -/
def IdleIn (a : S50) (l : List S50) (i : Nat) : Prop :=
  (i + 1 = l.length → (kn (a :: l) (i + 1)).f1 = (kn (a :: l) i).f1) ∧ (i + 1 < l.length → St (kn (a :: l) i) (kn (a :: l) (i + 1)) (kn (a :: l) (i + 2)))
theorem idleIn_succ {a b : S50} {l : List S50} {i : Nat} (h : IdleIn a (b :: l) (i + 1)) : IdleIn b l i := by
  obtain ⟨h1, h2⟩ := h
  simp only [kn_succ, List.length_cons] at h1 h2
  exact ⟨fun e => h1 (by omega), fun e => h2 (by omega)⟩
theorem Vr_del : ∀ (i : Nat) (l : List S50) (a : S50) (x : Int), Inc a l → a.f0 ≤ x → i < l.length → IdleIn a l i → Vr a (l.eraseIdx i) x = Vr a l x
  | 0, [], _, _, _, _, hi, _ => by simp at hi
  | 0, [b], a, x, h, hx, _, hd => by
    have he := hd.1 rfl
    simp only [kn_succ, kn_zero] at he
    simp only [List.eraseIdx, Vr]
    split
    · exact (ip_flat h.1 he.symm hx (by omega)).symm
    · exact he.symm
  | 0, b :: c :: l, a, x, h, hx, _, hd => by
    have hs := hd.2 (by simp)
    simp only [kn_succ, kn_zero] at hs
    have hs' : St a b c := hs
    simp only [List.eraseIdx, Vr]
    by_cases h1 : x < b.f0
    · rw [if_pos h1, if_pos (by have := h.2.1; omega)]
      exact (st_left h.1 h.2.1 hs' x).symm
    · rw [if_neg h1]
      by_cases h2 : x < c.f0
      · rw [if_pos h2, if_pos h2]
        exact (st_right h.1 h.2.1 hs' x).symm
      · rw [if_neg h2, if_neg h2]
  | i + 1, [], _, _, _, _, hi, _ => by simp at hi
  | i + 1, b :: l, a, x, h, hx, hi, hd => by
    simp only [List.eraseIdx, Vr]
    by_cases h1 : x < b.f0
    · rw [if_pos h1, if_pos h1]
    · rw [if_neg h1, if_neg h1]
      exact Vr_del i l b x h.2 (by omega) (by simpa using hi) (idleIn_succ hd)
theorem Vr_self : ∀ (l : List S50) (a : S50), Inc a l → Vr a l a.f0 = a.f1
  | [], a, _ => rfl
  | b :: l, a, h => by
    simp only [Vr]
    rw [if_pos h.1]
    exact ip_left h.1
theorem inc_del : ∀ (i : Nat) (l : List S50) (a : S50), Inc a l → Inc a (l.eraseIdx i)
  | _, [], _, _ => trivial
  | 0, [b], a, h => trivial
  | 0, b :: c :: l, a, h => ⟨by have := h.1; have := h.2.1; omega, h.2.2⟩
  | i + 1, b :: l, a, h => ⟨h.1, inc_del i l b h.2⟩
def UpL : S50 → List S50 → Prop
  | _, [] => False
  | a, b :: l => a.f1 < b.f1 ∨ UpL b l
def DnL : S50 → List S50 → Prop
  | _, [] => False
  | a, b :: l => b.f1 < a.f1 ∨ DnL b l
theorem upL_iff : ∀ (l : List S50) (a : S50), UpAt (a :: l) 0 ↔ UpL a l
  | [], a => by
    constructor
    · rintro ⟨j, h1, h2, _⟩; simp at h2
    · intro h; exact h.elim
  | b :: l, a => by
    rw [upAt_next (by simp)]
    have e : UpAt (a :: b :: l) (0 + 1) ↔ UpAt (b :: l) 0 := by
      constructor
      · rintro ⟨j, h1, h2, h3⟩
        obtain ⟨j, rfl⟩ : ∃ m, j = m + 1 := ⟨j - 1, by omega⟩
        exact ⟨j, by omega, by simpa using h2, by rw [kn_succ, kn_succ] at h3; exact h3⟩
      · rintro ⟨j, h1, h2, h3⟩
        exact ⟨j + 1, by omega, by simpa using h2, by rw [kn_succ, kn_succ]; exact h3⟩
    rw [e, upL_iff l b]
    simp [UpL, kn]
theorem dnL_iff : ∀ (l : List S50) (a : S50), DnAt (a :: l) 0 ↔ DnL a l
  | [], a => by
    constructor
    · rintro ⟨j, h1, h2, _⟩; simp at h2
    · intro h; exact h.elim
  | b :: l, a => by
    rw [dnAt_next (by simp)]
    have e : DnAt (a :: b :: l) (0 + 1) ↔ DnAt (b :: l) 0 := by
      constructor
      · rintro ⟨j, h1, h2, h3⟩
        obtain ⟨j, rfl⟩ : ∃ m, j = m + 1 := ⟨j - 1, by omega⟩
        exact ⟨j, by omega, by simpa using h2, by rw [kn_succ, kn_succ] at h3; exact h3⟩
      · rintro ⟨j, h1, h2, h3⟩
        exact ⟨j + 1, by omega, by simpa using h2, by rw [kn_succ, kn_succ]; exact h3⟩
    rw [e, dnL_iff l b]
    simp [DnL, kn]
theorem st_sign {a b c : S50} (hab : a.f0 < b.f0) (hbc : b.f0 < c.f0) (h : St a b c) : (a.f1 < c.f1 ↔ a.f1 < b.f1 ∨ b.f1 < c.f1) ∧ (c.f1 < a.f1 ↔ b.f1 < a.f1 ∨ c.f1 < b.f1) := by
  unfold St at h
  obtain ⟨p1, p2, p3⟩ := mul_pos_iff (x := b.f1 - a.f1) (w := c.f0 - b.f0) (by omega)
  obtain ⟨q1, q2, q3⟩ := mul_pos_iff (x := c.f1 - b.f1) (w := b.f0 - a.f0) (by omega)
  omega
theorem up_del : ∀ (i : Nat) (l : List S50) (a : S50), Inc a l → i < l.length → IdleIn a l i → ((UpL a (l.eraseIdx i) ↔ UpL a l) ∧ (DnL a (l.eraseIdx i) ↔ DnL a l))
  | 0, [], _, _, hi, _ => by simp at hi
  | 0, [b], a, h, _, hd => by
    have he := hd.1 rfl
    simp only [kn_succ, kn_zero] at he
    simp [UpL, DnL, he]
  | 0, b :: c :: l, a, h, _, hd => by
    have hs := hd.2 (by simp)
    simp only [kn_succ, kn_zero] at hs
    have hs' : St a b c := hs
    obtain ⟨s1, s2⟩ := st_sign h.1 h.2.1 hs'
    simp only [List.eraseIdx, UpL, DnL]
    rw [s1, s2, or_assoc, or_assoc]
    exact ⟨Iff.rfl, Iff.rfl⟩
  | i + 1, [], _, _, hi, _ => by simp at hi
  | i + 1, b :: l, a, h, hi, hd => by
    obtain ⟨h1, h2⟩ := up_del i l b h.2 (by simpa using hi) (idleIn_succ hd)
    simp only [List.eraseIdx, UpL, DnL]
    rw [h1, h2]
    exact ⟨Iff.rfl, Iff.rfl⟩
theorem Good.of {a : S50} {l : List S50} (h0 : (a :: l).length ≤ 32) (h1 : ∀ b ∈ a :: l, okI b) (h2 : Inc a l) : Good (a :: l) :=
  ⟨by simp, h0, fun j hj => h1 _ (kn_mem hj), fun j hj => inc_at l a h2 j (by simpa using hj)⟩
theorem Good.all {c : List S50} (g : Good c) : ∀ b ∈ c, okI b := fun b hb => by
  obtain ⟨j, hj, rfl⟩ := List.getElem_of_mem hb
  have := g.ok j hj
  simpa [kn, hj] using this
/-- One knot left out: nothing changes. -/
theorem del_one {c : List S50} (g : Good c) (i : Nat) (hi : i < c.length) (hd : Idle c i) : Good (c.eraseIdx i) ∧ (∀ x, V (c.eraseIdx i) x = V c x) ∧ dir (c.eraseIdx i) = dir c := by
  have hle := g.le
  have hall := g.all
  have hsub : ∀ b ∈ c.eraseIdx i, b ∈ c := fun b hb => (List.eraseIdx_sublist c i).subset hb
  obtain ⟨a, l, rfl, hinc⟩ := g.chain
  obtain ⟨h1, h2, h3, h4⟩ := hd
  cases i with
  | zero =>
    cases l with
    | nil => exact absurd rfl h1
    | cons b l =>
      have he : a.f1 = b.f1 := h2 rfl
      refine ⟨Good.of (by simp at hle ⊢; omega) (fun x hx => hall x (hsub x hx)) hinc.2, fun x => ?_, ?_⟩
      · show V (b :: l) x = V (a :: b :: l) x
        rw [V_cons, V_cons]
        simp only [Vr]
        by_cases x1 : x ≤ a.f0
        · rw [if_pos x1, if_pos (by have := hinc.1; omega), he]
        · rw [if_neg x1]
          by_cases x2 : x < b.f0
          · rw [if_pos x2, if_pos (by omega), ip_flat hinc.1 he (by omega) (by omega), he]
          · rw [if_neg x2]
            by_cases x3 : x ≤ b.f0
            · have : x = b.f0 := by omega
              subst this
              rw [if_pos x3, Vr_self l b hinc.2]
            · rw [if_neg x3]
      · show dir (b :: l) = dir (a :: b :: l)
        unfold dir
        have hu : UpAt (b :: l) 0 ↔ UpAt (a :: b :: l) 0 := by
          rw [upL_iff, upL_iff]
          exact ⟨.inr, fun h => h.elim (fun h => absurd h (by omega)) id⟩
        have hd : DnAt (b :: l) 0 ↔ DnAt (a :: b :: l) 0 := by
          rw [dnL_iff, dnL_iff]
          exact ⟨.inr, fun h => h.elim (fun h => absurd h (by omega)) id⟩
        rw [decide_eq_decide.2 hu, decide_eq_decide.2 hd]
  | succ i =>
    have hin : IdleIn a l i := by
      refine ⟨fun e => ?_, fun e => ?_⟩
      · have := h3 (by omega) (by simp; omega)
        simpa using this
      · have := h4 (by omega) (by simp; omega)
        simpa using this
    have hil : i < l.length := by simpa using hi
    refine ⟨Good.of (by simp only [List.length_cons, List.length_eraseIdx] at hle ⊢; split <;> omega) (fun x hx => hall x (hsub x hx)) (inc_del i l a hinc), fun x => ?_, ?_⟩
    · show V (a :: l.eraseIdx i) x = V (a :: l) x
      rw [V_cons, V_cons]
      by_cases x1 : x ≤ a.f0
      · rw [if_pos x1, if_pos x1]
      · rw [if_neg x1, if_neg x1]
        exact Vr_del i l a x hinc (by omega) hil hin
    · show dir (a :: l.eraseIdx i) = dir (a :: l)
      obtain ⟨u, d⟩ := up_del i l a hinc hil hin
      unfold dir
      rw [decide_eq_decide.2 (show UpAt (a :: l.eraseIdx i) 0 ↔ UpAt (a :: l) 0 by rw [upL_iff, upL_iff, u]), decide_eq_decide.2 (show DnAt (a :: l.eraseIdx i) 0 ↔ DnAt (a :: l) 0 by rw [dnL_iff, dnL_iff, d])]
/-- What Simplify leaves. -/
structure Left (c s : List S50) : Prop where
  good : Good s
  val : ∀ x, V s x = V c x
  dir : dir s = dir c
  sub : s.Sublist c
  none : ∀ i, i < s.length → ¬ Idle s i
theorem simp_loop : ∀ (n : Nat) (c : List S50) (i : Nat), Good c → i ≤ c.length → c.length * 40 + (c.length - i) ≤ n → (∀ t, t < i → ¬ Idle c t) → ∃ s, Ev (fun k => curve_Simplify.l0 k c (i : Int)) (s, 0) ∧ Left c s := by
  intro n
  induction n with
  | zero =>
    intro c i g hi hn _
    have := g.pos
    omega
  | succ n ih =>
    intro c i g hi hn hno
    have hle := g.le
    by_cases hlt : i < c.length
    · obtain ⟨bo, hev, hbo⟩ := idle_ev g i hlt
      by_cases hd : Idle c i
      · obtain ⟨g', hv, hdir⟩ := del_one g i hlt hd
        have hlen : (c.eraseIdx i).length = c.length - 1 := by rw [List.length_eraseIdx, if_pos hlt]
        obtain ⟨s, hs, hleft⟩ := ih (c.eraseIdx i) 0 g' (by omega) (by omega) (fun t ht => by omega)
        have hdel : api_Knot.f c (i : Int) ((i : Int) + 1) = some (c.eraseIdx i) := by
          unfold api_Knot.f
          rw [if_pos ⟨by omega, by omega, rfl⟩, Int.toNat_natCast, List.eraseIdx_eq_take_drop_succ]
        refine ⟨s, evs (f := fun k => (curve_idle.f k c (i : Int)).bind fun t => if t = true then (api_Knot.f c (i : Int) (wrap64 ((i : Int) + 1))).bind fun t139 => curve_Simplify.l0 k t139 0 else curve_Simplify.l0 k c (wrap64 ((i : Int) + 1))) (fun k => ?_) (Ev.bind hev ?_), ⟨hleft.good, fun x => (hleft.val x).trans (hv x), hleft.dir.trans hdir, hleft.sub.trans (List.eraseIdx_sublist c i), hleft.none⟩⟩
        · simp only [curve_Simplify.l0]
          rw [if_pos (by omega)]
        · rw [w64s (by omega) (by omega)]
          simp only [hbo.2 hd, if_true, hdel, Option.bind_some]
          exact hs
      · obtain ⟨s, hs, hleft⟩ := ih c (i + 1) g (by omega) (by omega) (fun t ht => by
          rcases Nat.lt_or_ge t i with h | h
          · exact hno t h
          · have : t = i := by omega
            subst this; exact hd)
        refine ⟨s, evs (f := fun k => (curve_idle.f k c (i : Int)).bind fun t => if t = true then (api_Knot.f c (i : Int) (wrap64 ((i : Int) + 1))).bind fun t139 => curve_Simplify.l0 k t139 0 else curve_Simplify.l0 k c (wrap64 ((i : Int) + 1))) (fun k => ?_) (Ev.bind hev ?_), hleft⟩
        · simp only [curve_Simplify.l0]
          rw [if_pos (by omega)]
        · rw [w64s (by omega) (by omega)]
          rw [show bo = false from Bool.eq_false_iff.2 (fun h => hd (hbo.1 h))]
          exact hs
    · have e : i = c.length := by omega
      refine ⟨c, evs (f := fun k => some (c, 0)) (fun k => ?_) (Ev.now _), ⟨g, fun x => rfl, rfl, List.Sublist.refl c, fun t ht => hno t (by omega)⟩⟩
      simp only [curve_Simplify.l0]
      rw [if_neg (by omega)]
theorem simp_f {c : List S50} (g : Good c) (s : List S50) (h : Ev (fun k => curve_Simplify.l0 k c 0) (s, 0)) : Ev (fun k => curve_Simplify.f k c) (s, 0) := by
  have hc := check_ev c
  rw [(chk_good c).2 g] at hc
  have hle := g.le
  unfold curve_Simplify.f
  refine Ev.bind hc ?_
  refine Ev.congr (fun k => ?_) h
  simp only [if_true]
  rw [if_pos (by omega), if_pos (by omega)]
  have : copyKnots.f (List.replicate ((c.length : Int).toNat) z50) c = some ((c.length : Int), c) := by
    unfold copyKnots.f
    rw [if_pos (by simp)]
  rw [this]
  simp only [Option.bind_some]
theorem simplify_good {c : List S50} (g : Good c) : ∃ s, Ev (fun k => curve_Simplify.f k c) (s, 0) ∧ Left c s := by
  have hle := g.le
  obtain ⟨s, hs, hl⟩ := simp_loop _ c 0 g (by omega) (Nat.le_refl _) (fun t ht => by omega)
  exact ⟨s, simp_f g s hs, hl⟩
theorem simplify_bad {c : List S50} (g : ¬ Good c) : Ev (fun k => curve_Simplify.f k c) ([], chk c) := by
  unfold curve_Simplify.f
  refine Ev.bind (check_ev c) ?_
  simp only [chk_ne g, if_false]
  exact Ev.now _
/-- A list without an idle knot stays. -/
theorem simp_still {s : List S50} (g : Good s) (hn : ∀ i, i < s.length → ¬ Idle s i) : ∀ (n i : Nat), i + n = s.length → Ev (fun k => curve_Simplify.l0 k s (i : Int)) (s, 0)
  | 0, i, hi => by
    refine evs (f := fun k => some (s, 0)) (fun k => ?_) (Ev.now _)
    simp only [curve_Simplify.l0]
    rw [if_neg (by omega)]
  | n + 1, i, hi => by
    have hle := g.le
    have hd := hn i (by omega)
    obtain ⟨bo, hev, hbo⟩ := idle_ev g i (by omega)
    refine evs (f := fun k => (curve_idle.f k s (i : Int)).bind fun t => if t = true then (api_Knot.f s (i : Int) (wrap64 ((i : Int) + 1))).bind fun t139 => curve_Simplify.l0 k t139 0 else curve_Simplify.l0 k s (wrap64 ((i : Int) + 1))) (fun k => ?_) (Ev.bind hev ?_)
    · simp only [curve_Simplify.l0]
      rw [if_pos (by omega)]
    · rw [w64s (by omega) (by omega)]
      rw [show bo = false from Bool.eq_false_iff.2 (fun h => hd (hbo.1 h))]
      exact simp_still g hn n (i + 1) (by omega)
end Go.Proofs.Ytacheoimnckghaa.Pure
