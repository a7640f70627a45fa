-- What paces and limits compute: the program's Limit and Settle.
import Derived.Test.YteigdhpchkkloaaDoorPTx20
import Derived.Test.YteigdhpchkkloaaDoorPTx21
import Derived.Test.YteigdhpchkkloaaDoorPTx19
import Derived.Test.YteigdhpchkkloaaDoorPTx15
namespace Go.Proofs.YteigdhpchkkloaaDoor.Pure
open Go.RowKit Go.Proofs.YteigdhpchkkloaaDoor.PT Go.Proofs.YteigdhpchkkloaaDoorW.PrintWords Go.Proofs.YteigdhpchkkloaaDoorW.PrintLast Go.Proofs.YteigdhpchkkloaaDoorW.PrintMore
set_option linter.unusedVariables false
set_option linter.unusedSimpArgs false
theorem evs {α : Type} {g f : Nat → Option α} {r : α} (h : ∀ k, g (k + 1) = f k) (k : Ev f r) : Ev g r := Ev.step h k
theorem w64s {x : Int} (h0 : -9223372036854775808 ≤ x) (h1 : x < 9223372036854775808) : wrap64 x = x := by rw [← i64_w, IntKind.wrap_i64]; omega
def inR (x : Int) : Prop := -1000000000000 ≤ x ∧ x ≤ 1000000000000
instance (x : Int) : Decidable (inR x) := inferInstanceAs (Decidable (_ ∧ _))
theorem btw (a lo hi : Int) : pid_between.f a lo hi = some (decide (lo ≤ a ∧ a ≤ hi)) := by
  unfold pid_between.f
  by_cases h : lo ≤ a
  · rw [if_pos h]; exact congrArg some (decide_eq_decide.2 (by omega))
  · rw [if_neg h, decide_eq_false (by omega)]
theorem sec (a : Int) : pid_seconds.f a = some (decide (1 ≤ a ∧ a ≤ 86400)) := by
  unfold pid_seconds.f
  by_cases h : 1 ≤ a
  · rw [if_pos h]; exact congrArg some (decide_eq_decide.2 (by omega))
  · rw [if_neg h, decide_eq_false (by omega)]
theorem an1 (a : Int) : pid_analog_1.f a = some (!decide (inR a)) := by
  unfold pid_analog_1.f
  rw [btw]
  rfl
theorem an2 (a b : Int) : Ev (fun k => pid_analog.f k [a, b]) (decide (inR a ∧ inR b)) := by
  have hl : (([a, b] : List Int).length : Int) = 2 := rfl
  have r0 : rd [a, b] 0 = a := rfl
  have r1 : rd [a, b] 1 = b := rfl
  have hi : Ev (fun k => slices_IndexFunc_int64_int64_37.f k [a, b]) (if inR a then (if inR b then -1 else 1) else 0) := by
    unfold slices_IndexFunc_int64_int64_37.f
    by_cases ha : inR a
    · rw [if_pos ha]
      by_cases hb : inR b
      · rw [if_pos hb]
        refine ⟨3, fun k hk => ?_⟩
        obtain ⟨j, rfl⟩ : ∃ j, k = j + 1 + 1 + 1 := ⟨k - 3, by omega⟩
        simp [slices_IndexFunc_int64_int64_37.l0, an1, r0, r1, ha, hb, wrap64]
      · rw [if_neg hb]
        refine ⟨3, fun k hk => ?_⟩
        obtain ⟨j, rfl⟩ : ∃ j, k = j + 1 + 1 + 1 := ⟨k - 3, by omega⟩
        simp [slices_IndexFunc_int64_int64_37.l0, an1, r0, r1, ha, hb, wrap64]
    · rw [if_neg ha]
      refine ⟨3, fun k hk => ?_⟩
      obtain ⟨j, rfl⟩ : ∃ j, k = j + 1 + 1 + 1 := ⟨k - 3, by omega⟩
      simp [slices_IndexFunc_int64_int64_37.l0, an1, r0, r1, ha]
  unfold pid_analog.f slices_ContainsFunc_int64_int64_37.f
  refine Ev.bind (a := !decide (inR a ∧ inR b)) (Ev.bind hi ?_) ?_
  · have e : decide ((if inR a then (if inR b then (-1 : Int) else 1) else 0) ≥ 0) = !decide (inR a ∧ inR b) := by
      by_cases ha : inR a <;> by_cases hb : inR b <;> simp [ha, hb]
    rw [e]
    exact Ev.now _
  · rw [Bool.not_not]
    exact Ev.now _
/-- The arguments of Limit and Settle are possible. -/
def Pc (a0 a1 a2 a3 a4 : Int) : Prop := inR a0 ∧ inR a1 ∧ 0 ≤ a2 ∧ a2 ≤ 1000000000000 ∧ 0 ≤ a3 ∧ a3 ≤ 1000000000000 ∧ 1 ≤ a4 ∧ a4 ≤ 86400
instance (a0 a1 a2 a3 a4 : Int) : Decidable (Pc a0 a1 a2 a3 a4) := inferInstanceAs (Decidable (_ ∧ _))
theorem paced_ev (a0 a1 a2 a3 a4 : Int) : Ev (fun k => pid_paced.f k a0 a1 a2 a3 a4) (decide (Pc a0 a1 a2 a3 a4)) := by
  unfold pid_paced.f
  refine Ev.bind (an2 a0 a1) ?_
  simp only [btw, sec, Option.bind_some, decide_eq_true_eq]
  by_cases h : inR a0 ∧ inR a1
  · simp only [if_pos h]
    by_cases h2 : 0 ≤ a2 ∧ a2 ≤ 1000000000000
    · simp only [if_pos h2]
      by_cases h3 : 0 ≤ a3 ∧ a3 ≤ 1000000000000
      · simp only [if_pos h3]
        rw [show decide (1 ≤ a4 ∧ a4 ≤ 86400) = decide (Pc a0 a1 a2 a3 a4) from decide_eq_decide.2 (by simp only [Pc, inR] at *; omega)]
        exact Ev.now _
      · simp only [if_neg h3]
        rw [decide_eq_false (show ¬ Pc a0 a1 a2 a3 a4 by simp only [Pc, inR] at *; omega)]
        exact Ev.now _
    · simp only [if_neg h2]
      rw [decide_eq_false (show ¬ Pc a0 a1 a2 a3 a4 by simp only [Pc, inR] at *; omega)]
      exact Ev.now _
  · simp only [if_neg h]
    rw [decide_eq_false (show ¬ Pc a0 a1 a2 a3 a4 by simp only [Pc, inR] at *; omega)]
    exact Ev.now _
theorem paceb {a b : Int} (a0 : 0 ≤ a) (a1 : a ≤ 1000000000000) (b0 : 1 ≤ b) (b1 : b ≤ 86400) : 0 ≤ a * b ∧ a * b ≤ 86400000000000000 ∧ (a * b = 0 ↔ a = 0) := by
  have h1 : a * b ≤ 1000000000000 * 86400 := Int.mul_le_mul a1 b1 (by omega) (by omega)
  refine ⟨Int.mul_nonneg a0 (by omega), by omega, fun h => ?_, fun h => by rw [h, Int.zero_mul]⟩
  rcases Int.mul_eq_zero.1 h with h | h
  · exact h
  · omega
theorem limit_ev {a0 a1 a2 a3 a4 : Int} (h : Pc a0 a1 a2 a3 a4) : Ev (fun k => pid_Limit.f k a0 a1 a2 a3 a4) (mx (a0 - a3 * a4) (mn (a0 + a2 * a4) a1), 0) := by
  have hp := paced_ev a0 a1 a2 a3 a4
  rw [decide_eq_true h] at hp
  unfold Pc inR at h
  have hU := paceb (a := a2) (b := a4) (by omega) (by omega) (by omega) (by omega)
  have hD := paceb (a := a3) (b := a4) (by omega) (by omega) (by omega) (by omega)
  unfold pid_Limit.f
  refine Ev.bind hp ?_
  rw [w64s (x := a2 * a4) (by omega) (by omega), w64s (x := a3 * a4) (by omega) (by omega), w64s (x := a0 - a3 * a4) (by omega) (by omega), w64s (x := a0 + a2 * a4) (by omega) (by omega)]
  simp only [if_true, pid_limited.f, Option.bind_some]
  exact Ev.now _
theorem limit_no {a0 a1 a2 a3 a4 : Int} (h : ¬ Pc a0 a1 a2 a3 a4) : Ev (fun k => pid_Limit.f k a0 a1 a2 a3 a4) (0, 1) := by
  have hp := paced_ev a0 a1 a2 a3 a4
  rw [decide_eq_false h] at hp
  unfold pid_Limit.f
  refine Ev.bind hp ?_
  simp only [Bool.false_eq_true, if_false]
  exact Ev.now _
/-- After how many scans. -/
def stl (way pace dt : Int) : Int × Int := if way = 0 then (0, 0) else if pace = 0 then (0, 9) else ((way + pace * dt - 1) / (pace * dt), 0)
theorem settle_j {way pace dt : Int} (w0 : 0 ≤ way) (w1 : way ≤ 2000000000000) (p0 : 0 ≤ pace) (p1 : pace ≤ 1000000000000) (d0 : 1 ≤ dt) (d1 : dt ≤ 86400) (k : Nat) : pid_Settle.j0 (k + 1) dt way pace = some (stl way pace dt) := by
  have hU := paceb p0 p1 d0 d1
  simp only [pid_Settle.j0]
  unfold stl
  by_cases h : way = 0
  · rw [if_pos h, if_pos h]
  rw [if_neg h, if_neg h]
  by_cases h' : pace = 0
  · rw [if_pos h', if_pos h']
  rw [if_neg h', if_neg h', w64s (x := pace * dt) (by omega) (by omega)]
  have hne : pace * dt ≠ 0 := fun e => h' (hU.2.2.1 e)
  generalize pace * dt = S at *
  rw [if_neg hne, w64s (x := way + S) (by omega) (by omega), w64s (x := way + S - 1) (by omega) (by omega), Int.tdiv_eq_ediv_of_nonneg (by omega)]
  have q0 : 0 ≤ (way + S - 1) / S := Int.ediv_nonneg (by omega) (by omega)
  have q1 : (way + S - 1) / S ≤ way + S - 1 := Int.ediv_le_self _ (by omega)
  rw [w64s (by omega) (by omega)]
theorem settle_ev {a0 a1 a2 a3 a4 : Int} (h : Pc a0 a1 a2 a3 a4) : Ev (fun k => pid_Settle.f k a0 a1 a2 a3 a4) (if a1 - a0 < 0 then stl (-(a1 - a0)) a3 a4 else stl (a1 - a0) a2 a4) := by
  have hp := paced_ev a0 a1 a2 a3 a4
  rw [decide_eq_true h] at hp
  unfold Pc inR at h
  unfold pid_Settle.f
  refine Ev.bind hp ?_
  rw [w64s (x := a1 - a0) (by omega) (by omega), w64s (x := -(a1 - a0)) (by omega) (by omega)]
  simp only [if_true]
  by_cases c : a1 - a0 < 0
  · simp only [if_pos c]
    exact evs (f := fun k => some _) (settle_j (by omega) (by omega) (by omega) (by omega) (by omega) (by omega)) (Ev.now _)
  · simp only [if_neg c]
    exact evs (f := fun k => some _) (settle_j (by omega) (by omega) (by omega) (by omega) (by omega) (by omega)) (Ev.now _)
theorem settle_no {a0 a1 a2 a3 a4 : Int} (h : ¬ Pc a0 a1 a2 a3 a4) : Ev (fun k => pid_Settle.f k a0 a1 a2 a3 a4) (0, 1) := by
  have hp := paced_ev a0 a1 a2 a3 a4
  rw [decide_eq_false h] at hp
  unfold pid_Settle.f
  refine Ev.bind hp ?_
  simp only [Bool.false_eq_true, if_false]
  exact Ev.now _
end Go.Proofs.YteigdhpchkkloaaDoor.Pure
