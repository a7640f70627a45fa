-- Inverse and Bounds answer as the reference does.
import Derived.Test.YtacheoimnckghaaRefC
import Derived.Test.YtacheoimnckghaaPTx51
namespace Go.Proofs.Ytacheoimnckghaa.Pure
open Go.RowKit Go.Proofs.Ytacheoimnckghaa.PT Go.Proofs.YtacheoimnckghaaW.PrintWords Go.Proofs.YtacheoimnckghaaW.PrintLast
theorem CurveInverses : plenumlaw03_CurveInverses.Pure := by
  intro c y lo hi _ _ _ _ _ _
  refine Ev.rounds ?_
  unfold plenumlaw03_CurveInverses.f plenumlaw03_awake.f
  simp only [Option.bind_some, if_true]
  by_cases hlen : (c.length : Int) > 40
  · simp only [hlen, if_true]
    exact Ev.now _
  · simp only [hlen, if_false]
    by_cases g : Good c
    · obtain ⟨x, e, h1, h2⟩ := inverse_both g y
      refine Ev.bind h1 (Ev.bind h2 (Ev.bind (bounds_good g lo hi) (Ev.bind (rbounds_good g lo hi) ?_)))
      simp only [beq_self_eq_true, Bool.and_self, if_true]
      exact Ev.now _
    · refine Ev.bind (inverse_bad g y) (Ev.bind (rinverse_bad g y) (Ev.bind (bounds_bad g lo hi) (Ev.bind (rbounds_bad g lo hi) ?_)))
      simp only [beq_self_eq_true, Bool.and_self, if_true]
      exact Ev.now _
end Go.Proofs.Ytacheoimnckghaa.Pure
