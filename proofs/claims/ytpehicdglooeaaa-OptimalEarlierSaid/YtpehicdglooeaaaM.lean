/- Plain arithmetic of a thermal step: floors, bounds, monotony. No program in sight. -/
import Derived.Test.YtpehicdglooeaaaK
namespace Go.Proofs.Ytpehicdglooeaaa.M
open Go.RowKit Go.Proofs.YtpehicdglooeaaaW.PrintWords Go.Proofs.YtpehicdglooeaaaW.PrintLast Go.Proofs.YtpehicdglooeaaaW.PrintMore

theorem w64 {x : Int} (h0 : -9223372036854775808 ≤ x) (h1 : x ≤ 9223372036854775807) : wrap64 x = x := by
  unfold wrap64
  omega
theorem wfb {x : Int} (h : (Lit.int .i64 x).wf = true) : -9223372036854775808 ≤ x ∧ x ≤ 9223372036854775807 := by
  simp only [Lit.wf, Bool.and_eq_true, decide_eq_true_eq] at h
  exact h
theorem mul_bd {a b A B : Int} (h0 : 0 ≤ a) (h1 : a ≤ A) (h2 : -B ≤ b) (h3 : b ≤ B) : -(A*B) ≤ a*b ∧ a*b ≤ A*B := by
  have hB : 0 ≤ B := by omega
  have e1 : a * b ≤ a * B := Int.mul_le_mul_of_nonneg_left h3 h0
  have e2 : a * B ≤ A * B := Int.mul_le_mul_of_nonneg_right h1 hB
  have e3 : a * (-B) ≤ a * b := Int.mul_le_mul_of_nonneg_left h2 h0
  have e4 : a * (-B) = -(a * B) := Int.mul_neg a B
  omega
theorem td_pos {n c : Int} (h : 0 ≤ n) : n.tdiv c = n / c ∧ n.tmod c = n % c := ⟨Int.tdiv_eq_ediv_of_nonneg h, Int.tmod_eq_emod_of_nonneg h⟩
theorem td_neg {n c : Int} (h : n ≤ 0) : n.tdiv c = -((-n) / c) ∧ n.tmod c = -((-n) % c) := by
  have e1 := Int.neg_tdiv (-n) c
  have e2 := Int.neg_tmod (-n) c
  rw [Int.neg_neg] at e1 e2
  rw [e1, e2, Int.tdiv_eq_ediv_of_nonneg (by omega), Int.tmod_eq_emod_of_nonneg (by omega)]
  exact ⟨rfl, rfl⟩
theorem td_floor (n : Int) : (if n.tmod 3600000 < 0 then n.tdiv 3600000 - 1 else n.tdiv 3600000) = n / 3600000 := by
  rcases Int.le_total 0 n with h | h
  · rw [(td_pos h).1, (td_pos h).2]
    split <;> omega
  · rw [(td_neg h).1, (td_neg h).2]
    split <;> omega
theorem td2 {n : Int} (h : 0 ≤ n) : n.tdiv 2 = n / 2 := Int.tdiv_eq_ediv_of_nonneg h

/-! ### The step -/
def num (z0 z1 o h d t : Int) : Int := (z0 * (o - t) + z1 * h) * d
def chg (z0 z1 o h d t : Int) : Int := num z0 z1 o h d t / 3600000
def nx (z0 z1 o h d t : Int) : Int := mx (-1000000) (mn 1000000 (t + chg z0 z1 o h d t))
structure Zok (z0 z1 : Int) : Prop where
  a : 0 ≤ z0
  b : z0 ≤ 1000
  c : 0 ≤ z1
  e : z1 ≤ 1000000
def Tok (t : Int) : Prop := -1000000 ≤ t ∧ t ≤ 1000000
def Hok (h : Int) : Prop := -1000 ≤ h ∧ h ≤ 1000
def Dok (d : Int) : Prop := 1 ≤ d ∧ d ≤ 3600
theorem num_bd {z0 z1 o h d t : Int} (hz : Zok z0 z1) (ho : Tok o) (hh : Hok h) (hd : Dok d) (ht : Tok t) :
    (-2000000000 ≤ z0 * (o - t) ∧ z0 * (o - t) ≤ 2000000000) ∧ (-1000000000 ≤ z1 * h ∧ z1 * h ≤ 1000000000) ∧ (-10800000000000 ≤ num z0 z1 o h d t ∧ num z0 z1 o h d t ≤ 10800000000000) := by
  obtain ⟨o1, o2⟩ := ho
  obtain ⟨h1, h2⟩ := hh
  obtain ⟨d1, d2⟩ := hd
  obtain ⟨t1, t2⟩ := ht
  have e1 := mul_bd (a := z0) (b := o - t) (A := 1000) (B := 2000000) hz.a hz.b (by omega) (by omega)
  have e2 := mul_bd (a := z1) (b := h) (A := 1000000) (B := 1000) hz.c hz.e (by omega) (by omega)
  have e3 := mul_bd (a := d) (b := z0 * (o - t) + z1 * h) (A := 3600) (B := 3000000000) (by omega) (by omega) (by omega) (by omega)
  rw [Int.mul_comm d] at e3
  unfold num
  omega
theorem chg_bd {z0 z1 o h d t : Int} (hz : Zok z0 z1) (ho : Tok o) (hh : Hok h) (hd : Dok d) (ht : Tok t) : -3000000 ≤ chg z0 z1 o h d t ∧ chg z0 z1 o h d t ≤ 3000000 := by
  have := (num_bd hz ho hh hd ht).2.2
  unfold chg
  omega
theorem num_t {z0 z1 o h d t u : Int} (hz : Zok z0 z1) (hd : Dok d) (htu : t ≤ u) : 0 ≤ num z0 z1 o h d t - num z0 z1 o h d u ∧ num z0 z1 o h d t - num z0 z1 o h d u ≤ 3600000 * (u - t) := by
  obtain ⟨d1, d2⟩ := hd
  have e : num z0 z1 o h d t - num z0 z1 o h d u = z0 * d * (u - t) := by unfold num; grind
  have e1 : 0 ≤ z0 * d := Int.mul_nonneg hz.a (by omega)
  have e2 : z0 * d ≤ 3600000 := by
    have := (mul_bd (a := z0) (b := d) (A := 1000) (B := 3600) hz.a hz.b (by omega) d2).2
    omega
  have e3 : 0 ≤ z0 * d * (u - t) := Int.mul_nonneg e1 (by omega)
  have e4 : z0 * d * (u - t) ≤ 3600000 * (u - t) := Int.mul_le_mul_of_nonneg_right e2 (by omega)
  omega
/-- The change falls when the temperature rises, the temperature behind the step does not. -/
theorem chg_t {z0 z1 o h d t u : Int} (hz : Zok z0 z1) (hd : Dok d) (htu : t ≤ u) : chg z0 z1 o h d u ≤ chg z0 z1 o h d t ∧ t + chg z0 z1 o h d t ≤ u + chg z0 z1 o h d u := by
  have := num_t (o := o) (h := h) (z1 := z1) hz hd htu
  unfold chg
  omega
theorem num_oh {z0 z1 o h d t o' h' : Int} (hz : Zok z0 z1) (hd : Dok d) (ho : o ≤ o') (hh : h ≤ h') : num z0 z1 o h d t ≤ num z0 z1 o' h' d t := by
  obtain ⟨d1, d2⟩ := hd
  have e : num z0 z1 o' h' d t - num z0 z1 o h d t = (z0 * (o' - o) + z1 * (h' - h)) * d := by unfold num; grind
  have e1 : 0 ≤ z0 * (o' - o) := Int.mul_nonneg hz.a (by omega)
  have e2 : 0 ≤ z1 * (h' - h) := Int.mul_nonneg hz.c (by omega)
  have e3 : 0 ≤ (z0 * (o' - o) + z1 * (h' - h)) * d := Int.mul_nonneg (by omega) (by omega)
  omega
theorem nx_mono {z0 z1 o h d t o' h' u : Int} (hz : Zok z0 z1) (hd : Dok d) (ht : t ≤ u) (ho : o ≤ o') (hh : h ≤ h') : nx z0 z1 o h d t ≤ nx z0 z1 o' h' d u := by
  have e1 := num_oh (t := t) hz hd ho hh
  have e2 : chg z0 z1 o h d t ≤ chg z0 z1 o' h' d t := by unfold chg; omega
  have e3 := (chg_t (o := o') (h := h') (z1 := z1) hz hd ht).2
  unfold nx mx mn
  repeat' split
  all_goals omega
theorem nx_Tok (z0 z1 o h d t : Int) : Tok (nx z0 z1 o h d t) := by
  unfold nx mx mn Tok
  repeat' split
  all_goals omega

theorem nx_le_iff {z0 z1 o h d t : Int} (ht : Tok t) : nx z0 z1 o h d t ≤ t ↔ chg z0 z1 o h d t ≤ 0 ∨ t = 1000000 := by
  obtain ⟨t1, t2⟩ := ht
  unfold nx mx mn
  repeat' split
  all_goals omega
theorem nx_ge_iff {z0 z1 o h d t : Int} (ht : Tok t) : t ≤ nx z0 z1 o h d t ↔ 0 ≤ chg z0 z1 o h d t ∨ t = -1000000 := by
  obtain ⟨t1, t2⟩ := ht
  unfold nx mx mn
  repeat' split
  all_goals omega
/-- The least and the greatest steady temperature. -/
structure IsSteady (f : Int → Int) (lo hi : Int) : Prop where
  lt : Tok lo
  ht : Tok hi
  l0 : f lo ≤ lo
  l1 : ∀ t, Tok t → t < lo → t < f t
  h0 : hi ≤ f hi
  h1 : ∀ t, Tok t → hi < t → f t < t
theorem IsSteady.uniq {f : Int → Int} {lo hi lo' hi' : Int} (a : IsSteady f lo hi) (b : IsSteady f lo' hi') : lo = lo' ∧ hi = hi' := by
  have e1 : ¬ lo < lo' := fun h => by have := b.l1 lo a.lt h; have := a.l0; omega
  have e2 : ¬ lo' < lo := fun h => by have := a.l1 lo' b.lt h; have := b.l0; omega
  have e3 : ¬ hi < hi' := fun h => by have := a.h1 hi' b.ht h; have := b.h0; omega
  have e4 : ¬ hi' < hi := fun h => by have := b.h1 hi a.ht h; have := a.h0; omega
  omega
/-- n steps with the same weather. -/
def it (f : Int → Int) : Nat → Int → Int
  | 0, t => t
  | n + 1, t => it f n (f t)
theorem it_succ (f : Int → Int) (n : Nat) (t : Int) : it f (n + 1) t = f (it f n t) := by
  induction n generalizing t with
  | zero => rfl
  | succ n ih => exact ih (f t)
theorem it_Tok {z0 z1 o h d : Int} (n : Nat) {t : Int} (ht : Tok t) : Tok (it (nx z0 z1 o h d) n t) := by
  cases n with
  | zero => exact ht
  | succ n => rw [it_succ]; exact nx_Tok _ _ _ _ _ _
theorem it_mono {z0 z1 o h d h' : Int} (hz : Zok z0 z1) (hd : Dok d) (hh : h ≤ h') (n : Nat) (t : Int) : it (nx z0 z1 o h d) n t ≤ it (nx z0 z1 o h' d) n t := by
  induction n with
  | zero => exact Int.le_refl _
  | succ n ih => rw [it_succ, it_succ]; exact nx_mono hz hd ih (Int.le_refl _) hh
/-- The first of m tries that hits, counted from i. -/
def rf (hit : Int → Bool) (f : Int → Int) : Nat → Int → Int → Option Int
  | 0, _, _ => none
  | m + 1, t, i => if hit t = true then some i else rf hit f m (f t) (i + 1)
theorem rf_some {hit : Int → Bool} {f : Int → Int} : ∀ {m : Nat} {t i n : Int}, rf hit f m t i = some n → ∃ j : Nat, n = i + j ∧ j < m ∧ hit (it f j t) = true ∧ ∀ j' : Nat, j' < j → hit (it f j' t) = false
  | 0, _, _, _, h => by simp [rf] at h
  | m + 1, t, i, n, h => by
    unfold rf at h
    by_cases c : hit t = true
    · rw [if_pos c] at h
      obtain rfl := Option.some.inj h
      exact ⟨0, by simp, by omega, c, fun j' hj => absurd hj (by omega)⟩
    · rw [if_neg c] at h
      obtain ⟨j, rfl, hj, h1, h2⟩ := rf_some h
      refine ⟨j + 1, by omega, by omega, h1, fun j' hj' => ?_⟩
      cases j' with
      | zero => exact Bool.eq_false_iff.mpr c
      | succ j' => exact h2 j' (by omega)
theorem rf_none {hit : Int → Bool} {f : Int → Int} : ∀ {m : Nat} {t i : Int}, rf hit f m t i = none → ∀ j : Nat, j < m → hit (it f j t) = false
  | 0, _, _, _, j, hj => absurd hj (by omega)
  | m + 1, t, i, h, j, hj => by
    unfold rf at h
    by_cases c : hit t = true
    · rw [if_pos c] at h
      cases h
    · rw [if_neg c] at h
      cases j with
      | zero => exact Bool.eq_false_iff.mpr c
      | succ j => exact rf_none h j (by omega)
end Go.Proofs.Ytpehicdglooeaaa.M
