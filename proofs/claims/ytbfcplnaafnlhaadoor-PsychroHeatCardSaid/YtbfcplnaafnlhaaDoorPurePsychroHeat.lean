import Derived.Test.YtbfcplnaafnlhaaDoorPTx39
import Derived.Test.YtbfcplnaafnlhaaDoorPTx38
import Derived.Test.YtbfcplnaafnlhaaDoorPsyE
import Derived.Test.YtbfcplnaafnlhaaDoorPsyR
namespace Go.Proofs.YtbfcplnaafnlhaaDoor.Pure
open Go.RowKit Go.Proofs.YtbfcplnaafnlhaaDoor.PT Go.Proofs.YtbfcplnaafnlhaaDoorW.PrintWords Go.Proofs.YtbfcplnaafnlhaaDoorW.PrintLast Go.Proofs.YtbfcplnaafnlhaaDoorW.PrintMore
set_option linter.unusedVariables false
set_option linter.unusedSimpArgs false
theorem eco_ev (a b c d : Int) : Ev (fun k => psychro_Economizer.f k a b c d) (decide (EV a (QV a b) < EV c (QV c d))) := by
  unfold psychro_Economizer.f
  exact Ev.bind (ratio_ev _ _) (Ev.bind (enth_ev _ _) (Ev.bind (ratio_ev _ _) (Ev.bind (enth_ev _ _) (Ev.now _))))
theorem reco_ev (a b c d : Int) : Ev (fun k => plenumref22_Economizer.f k a b c d) (decide (EV a (QV a b) < EV c (QV c d))) := by
  unfold plenumref22_Economizer.f
  exact Ev.bind (rratio_ev _ _) (Ev.bind (renth_ev _ _) (Ev.bind (rratio_ev _ _) (Ev.bind (renth_ev _ _) (Ev.now _))))
/-- Enthalpy, temperature and economizer are the reference's. -/
theorem PsychroHeat : plenumlaw22_PsychroHeat.Pure := by
  intro a0 a1 a2 a3 a4 _ _ _ _ _
  refine Ev.rounds (g := fun k => plenumlaw22_PsychroHeat.f k a0 a1 a2 a3 a4) ?_
  unfold plenumlaw22_PsychroHeat.f plenumlaw22_awake.f
  simp only [Option.bind_some, if_true]
  refine Ev.bind (enth_ev _ _) (Ev.bind (renth_ev _ _) ?_)
  simp only [if_true]
  obtain ⟨r, _, _, g, g', _, _⟩ := temp_both a2 a1
  refine Ev.bind g (Ev.bind g' ?_)
  simp only [if_true]
  refine Ev.bind (eco_ev _ _ _ _) (Ev.bind (reco_ev _ _ _ _) ?_)
  rw [show ∀ b : Bool, (b == b) = true from fun b => by cases b <;> rfl]
  exact Ev.now _
end Go.Proofs.YtbfcplnaafnlhaaDoor.Pure
