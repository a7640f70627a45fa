import Derived.Test.YteigdhpchkkloaaDoorPTx34
import Derived.Test.YteigdhpchkkloaaDoorPTx32
import Derived.Test.YteigdhpchkkloaaDoorPTx33
import Derived.Test.YteigdhpchkkloaaDoorPTx31
import Derived.Test.YteigdhpchkkloaaDoorLim
namespace Go.Proofs.YteigdhpchkkloaaDoor.Pure
open Go.RowKit Go.Proofs.YteigdhpchkkloaaDoor.PT Go.Proofs.YteigdhpchkkloaaDoorW.PrintWords Go.Proofs.YteigdhpchkkloaaDoorW.PrintLast Go.Proofs.YteigdhpchkkloaaDoorW.PrintMore
set_option linter.unusedVariables false
set_option linter.unusedSimpArgs false
theorem rins (a : Int) : plenumref20_inside.f a = some (decide (inR a)) := by
  unfold plenumref20_inside.f
  by_cases h : a ≥ -1000000000000
  · rw [if_pos h]; exact congrArg some (decide_eq_decide.2 (by unfold inR; omega))
  · rw [if_neg h, decide_eq_false (show ¬ inR a by unfold inR; omega)]
theorem rspan (a : Int) : plenumref20_span.f a = some (decide (1 ≤ a ∧ a ≤ 86400)) := by
  unfold plenumref20_span.f
  by_cases h : a ≥ 1
  · rw [if_pos h]; exact congrArg some (decide_eq_decide.2 (by omega))
  · rw [if_neg h, decide_eq_false (by omega)]
theorem rfollows (a0 a1 a2 a3 a4 : Int) : plenumref20_follows.f a0 a1 a2 a3 a4 = some (decide (Pc a0 a1 a2 a3 a4)) := by
  unfold plenumref20_follows.f
  simp only [rins, rspan, Option.bind_some, decide_eq_true_eq]
  have no : ¬ Pc a0 a1 a2 a3 a4 → some false = some (decide (Pc a0 a1 a2 a3 a4)) := fun h => by rw [decide_eq_false h]
  by_cases h0 : inR a0
  · rw [if_pos h0]
    by_cases h1 : inR a1
    · rw [if_pos h1]
      by_cases h2 : inR a2
      · rw [if_pos h2]
        by_cases h3 : a2 ≥ 0
        · rw [if_pos h3]
          by_cases h4 : inR a3
          · rw [if_pos h4]
            by_cases h5 : a3 ≥ 0
            · rw [if_pos h5]
              exact congrArg some (decide_eq_decide.2 (by simp only [Pc, inR] at *; omega))
            · rw [if_neg h5]; exact no (by simp only [Pc, inR] at *; omega)
          · rw [if_neg h4]; exact no (by simp only [Pc, inR] at *; omega)
        · rw [if_neg h3]; exact no (by simp only [Pc, inR] at *; omega)
      · rw [if_neg h2]; exact no (by simp only [Pc, inR] at *; omega)
    · rw [if_neg h1]; exact no (by simp only [Pc, inR] at *; omega)
  · rw [if_neg h0]; exact no (by simp only [Pc, inR] at *; omega)
theorem rlimit {a0 a1 a2 a3 a4 : Int} (h : Pc a0 a1 a2 a3 a4) : plenumref20_Limit.f a0 a1 a2 a3 a4 = some (mx (a0 - a3 * a4) (mn (a0 + a2 * a4) a1), 0) := by
  unfold plenumref20_Limit.f
  rw [rfollows, decide_eq_true h]
  unfold Pc inR at h
  have hU := paceb (a := a2) (b := a4) (by omega) (by omega) (by omega) (by omega)
  have hD := paceb (a := a3) (b := a4) (by omega) (by omega) (by omega) (by omega)
  rw [w64s (x := a2 * a4) (by omega) (by omega), w64s (x := a3 * a4) (by omega) (by omega), w64s (x := a0 - a3 * a4) (by omega) (by omega), w64s (x := a0 + a2 * a4) (by omega) (by omega)]
  simp only [if_true, Option.bind_some]
  generalize a2 * a4 = U at *
  generalize a3 * a4 = D at *
  split
  · refine congrArg some (Prod.ext ?_ rfl)
    simp only
    unfold mx mn
    repeat (first | omega | split)
  · refine congrArg some (Prod.ext ?_ rfl)
    simp only
    unfold mx mn
    repeat (first | omega | split)
theorem rlimit_no {a0 a1 a2 a3 a4 : Int} (h : ¬ Pc a0 a1 a2 a3 a4) : plenumref20_Limit.f a0 a1 a2 a3 a4 = some (0, 1) := by
  unfold plenumref20_Limit.f
  rw [rfollows, decide_eq_false h]
  rfl
theorem rsettle_j {way pace dt : Int} (w0 : 0 ≤ way) (w1 : way ≤ 2000000000000) (p0 : 0 ≤ pace) (p1 : pace ≤ 1000000000000) (d0 : 1 ≤ dt) (d1 : dt ≤ 86400) (k : Nat) : plenumref20_Settle.j0 (k + 1) way (wrap64 (pace * dt)) = some (stl way pace dt) := by
  have hU := paceb p0 p1 d0 d1
  rw [w64s (x := pace * dt) (by omega) (by omega)]
  simp only [plenumref20_Settle.j0]
  unfold stl
  by_cases h : way = 0
  · rw [if_pos h, if_pos h]
  rw [if_neg h, if_neg h]
  by_cases h' : pace = 0
  · rw [if_pos (hU.2.2.2 h'), if_pos h']
  have hne : pace * dt ≠ 0 := fun e => h' (hU.2.2.1 e)
  rw [if_neg hne, if_neg h']
  generalize pace * dt = S at *
  rw [w64s (x := way + S) (by omega) (by omega), w64s (x := way + S - 1) (by omega) (by omega), Int.tdiv_eq_ediv_of_nonneg (by omega)]
  have q0 : 0 ≤ (way + S - 1) / S := Int.ediv_nonneg (by omega) (by omega)
  have q1 : (way + S - 1) / S ≤ way + S - 1 := Int.ediv_le_self _ (by omega)
  rw [w64s (by omega) (by omega)]
theorem rsettle_ev {a0 a1 a2 a3 a4 : Int} (h : Pc a0 a1 a2 a3 a4) : Ev (fun k => plenumref20_Settle.f k a0 a1 a2 a3 a4) (if a1 - a0 < 0 then stl (-(a1 - a0)) a3 a4 else stl (a1 - a0) a2 a4) := by
  unfold plenumref20_Settle.f
  rw [rfollows, decide_eq_true h]
  unfold Pc inR at h
  rw [w64s (x := a1 - a0) (by omega) (by omega), w64s (x := -(a1 - a0)) (by omega) (by omega)]
  simp only [if_true, Option.bind_some]
  by_cases c : a1 - a0 < 0
  · simp only [if_pos c]
    exact evs (f := fun k => some _) (rsettle_j (by omega) (by omega) (by omega) (by omega) (by omega) (by omega)) (Ev.now _)
  · simp only [if_neg c]
    exact evs (f := fun k => some _) (rsettle_j (by omega) (by omega) (by omega) (by omega) (by omega) (by omega)) (Ev.now _)
theorem rsettle_no {a0 a1 a2 a3 a4 : Int} (h : ¬ Pc a0 a1 a2 a3 a4) : Ev (fun k => plenumref20_Settle.f k a0 a1 a2 a3 a4) (0, 1) := by
  unfold plenumref20_Settle.f
  rw [rfollows, decide_eq_false h]
  exact Ev.now _
/-- Limit and Settle are the reference's. -/
theorem PidFollows : plenumlaw20_PidFollows.Pure := by
  intro a0 a1 a2 a3 a4 _ _ _ _ _
  refine Ev.rounds (g := fun k => plenumlaw20_PidFollows.f k a0 a1 a2 a3 a4) ?_
  unfold plenumlaw20_PidFollows.f plenumlaw20_awake.f
  by_cases h : Pc a0 a1 a2 a3 a4
  · refine Ev.bind (limit_ev h) ?_
    rw [rlimit h]
    simp only [Option.bind_some]
    refine Ev.bind (settle_ev h) (Ev.bind (rsettle_ev h) ?_)
    simp only [if_true, beq_self_eq_true]
    exact Ev.now _
  · refine Ev.bind (limit_no h) ?_
    rw [rlimit_no h]
    simp only [Option.bind_some]
    refine Ev.bind (settle_no h) (Ev.bind (rsettle_no h) ?_)
    simp only [if_true, beq_self_eq_true]
    exact Ev.now _
end Go.Proofs.YteigdhpchkkloaaDoor.Pure
