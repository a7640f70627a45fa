import Derived.Test.YtbfcplnaafnlhaaDoorPTx35
import Derived.Test.YtbfcplnaafnlhaaDoorPsyE
namespace Go.Proofs.YtbfcplnaafnlhaaDoor.Pure
open Go.RowKit Go.Proofs.YtbfcplnaafnlhaaDoor.PT Go.Proofs.YtbfcplnaafnlhaaDoorW.PrintWords Go.Proofs.YtbfcplnaafnlhaaDoorW.PrintLast Go.Proofs.YtbfcplnaafnlhaaDoorW.PrintMore
set_option linter.unusedVariables false
set_option linter.unusedSimpArgs false
/-- The enthalpy of the temperature is not less than the given one; one thousandth below it is less. -/
theorem PsychroInverse : plenumlaw22_PsychroInverse.Pure := by
  intro a0 a1 _ _
  refine Ev.rounds (g := fun k => plenumlaw22_PsychroInverse.f k a0 a1) ?_
  unfold plenumlaw22_PsychroInverse.f plenumlaw22_awake.f
  simp only [Option.bind_some, if_true]
  obtain ⟨h, hh⟩ : ∃ h, h = mx (-1000000000000) (mn 1000000000000 a0) := ⟨_, rfl⟩
  have hl : lim (-1000000000000) 1000000000000 h = h := by
    rw [hh]
    unfold lim mx mn
    repeat (first | omega | split)
  rw [← hh]
  obtain ⟨r, r0, r1, g, _, p, q⟩ := temp_both h a1
  rw [hl] at p q
  refine Ev.bind g ?_
  simp only [show ¬ r < -100000 by omega, if_false]
  rw [decide_eq_false (show ¬ r > 200000 by omega)]
  have hp : Ev (fun k => (if r = (-100000) then (some true) else ((psychro_Enthalpy.f k (wrap64 (r - 1)) a1).bind fun t286 => (some (decide (t286 < h)))))) true := by
    by_cases c : r = -100000
    · simp only [if_pos c]
      exact Ev.now _
    · simp only [if_neg c]
      rw [w64s (by omega) (by omega)]
      refine Ev.bind (enth_ev _ _) ?_
      rw [decide_eq_true (show EV (r - 1) a1 < h by rcases p with p | p; exact absurd p c; exact p)]
      exact Ev.now _
  refine evs (f := fun k => (if r < 200000 then ((psychro_Enthalpy.f k r a1).bind fun t284 => (if t284 < h then (some false) else (if r = (-100000) then (some true) else ((psychro_Enthalpy.f k (wrap64 (r - 1)) a1).bind fun t285 => (some (decide (t285 < h))))))) else (if r = (-100000) then (some true) else ((psychro_Enthalpy.f k (wrap64 (r - 1)) a1).bind fun t286 => (some (decide (t286 < h))))))) (fun k => rfl) ?_
  by_cases c : r < 200000
  · simp only [if_pos c]
    refine Ev.bind (enth_ev _ _) ?_
    have hq : ¬ EV r a1 < h := by
      rcases q with q | q
      · omega
      · omega
    simp only [if_neg hq]
    exact hp
  · simp only [if_neg c]
    exact hp
end Go.Proofs.YtbfcplnaafnlhaaDoor.Pure
