import Derived.Test.YtbfcplnaafnlhaaDoorPTx33
import Derived.Test.YtbfcplnaafnlhaaDoorPsy
namespace Go.Proofs.YtbfcplnaafnlhaaDoor.Pure
open Go.RowKit Go.Proofs.YtbfcplnaafnlhaaDoor.PT Go.Proofs.YtbfcplnaafnlhaaDoorW.PrintWords Go.Proofs.YtbfcplnaafnlhaaDoorW.PrintLast
theorem mx_le (a b : Int) : a ≤ mx a b := by unfold mx; split <;> omega
/-- Saturation, ratio, dew, enthalpy and humidity do not decrease. -/
theorem PsychroMonotone : plenumlaw22_PsychroMonotone.Pure := by
  intro a0 a1 a2 a3_0 a3_1 a3_2 _ _ _ _ _ _
  refine Ev.rounds (g := fun k => plenumlaw22_PsychroMonotone.f k a0 a1 a2 a3_0 a3_1 a3_2) ?_
  unfold plenumlaw22_PsychroMonotone.f plenumlaw22_awake.f
  simp only [Option.bind_some, if_true]
  have h0 := mx_le a0 a3_0
  have h1 := mx_le a1 a3_1
  have h2 := mx_le a2 a3_2
  refine Ev.bind (sat_ev _) (Ev.bind (sat_ev _) ?_)
  simp only [if_pos (SV_mono h0)]
  refine Ev.bind (ratio_ev _ _) (Ev.bind (ratio_ev _ _) ?_)
  simp only [if_pos (QV_mono h0 h2)]
  refine Ev.bind (dew_ev _) (Ev.bind (dew_ev _) ?_)
  simp only [if_pos (DV_mono h1)]
  refine Ev.bind (enth_ev _ _) (Ev.bind (enth_ev _ _) ?_)
  simp only [if_pos (EV_mono h0 (Int.le_refl a1))]
  have hh : Ev (fun _ => some (decide (HV a0 a1 ≤ HV a0 (mx a1 a3_1)))) true := by
    rw [decide_eq_true (HV_mono h1)]
    exact Ev.now _
  by_cases c : a0 < 0
  · simp only [if_pos c]
    exact Ev.bind (hum_ev _ _) (Ev.bind (hum_ev _ _) hh)
  · simp only [if_neg c]
    refine Ev.bind (enth_ev _ _) (Ev.bind (enth_ev _ _) ?_)
    simp only [if_pos (EV_mono h0 h1)]
    exact Ev.bind (hum_ev _ _) (Ev.bind (hum_ev _ _) hh)
end Go.Proofs.YtbfcplnaafnlhaaDoor.Pure
