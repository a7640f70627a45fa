import Derived.Test.YtbfcplnaafnlhaaDoorPTx32
import Derived.Test.YtbfcplnaafnlhaaDoorPsyR
namespace Go.Proofs.YtbfcplnaafnlhaaDoor.Pure
open Go.RowKit Go.Proofs.YtbfcplnaafnlhaaDoor.PT Go.Proofs.YtbfcplnaafnlhaaDoorW.PrintWords Go.Proofs.YtbfcplnaafnlhaaDoorW.PrintLast Go.Proofs.YtbfcplnaafnlhaaDoorW.PrintMore
set_option linter.unusedVariables false
set_option linter.unusedSimpArgs false
theorem ev_true (a : Int) : Ev (fun _ => some (a == a)) true := by
  rw [show (a == a) = true by simp]
  exact Ev.now _
/-- Saturation, ratio, humidity and dew are the reference's. -/
theorem PsychroAir : plenumlaw22_PsychroAir.Pure := by
  intro a0 a1 a2 _ _ _
  refine Ev.rounds (g := fun k => plenumlaw22_PsychroAir.f k a0 a1 a2) ?_
  unfold plenumlaw22_PsychroAir.f plenumlaw22_awake.f
  simp only [Option.bind_some, if_true]
  refine Ev.bind (sat_ev _) (Ev.bind (rsat_ev _) ?_)
  simp only [if_true]
  refine Ev.bind (ratio_ev _ _) (Ev.bind (rratio_ev _ _) ?_)
  simp only [if_true]
  refine Ev.bind (hum_ev _ _) (Ev.bind (rhum_ev _ _) ?_)
  simp only [if_true]
  exact Ev.bind (dew_ev _) (Ev.bind (rdew_ev _) (ev_true _))
end Go.Proofs.YtbfcplnaafnlhaaDoor.Pure
