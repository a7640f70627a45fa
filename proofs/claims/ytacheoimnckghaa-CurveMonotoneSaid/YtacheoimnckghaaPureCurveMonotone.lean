-- A curve that does not fall, or does not rise.
import Derived.Test.YtacheoimnckghaaEval
import Derived.Test.YtacheoimnckghaaPTx28
namespace Go.Proofs.Ytacheoimnckghaa.Pure
open Go.RowKit Go.Proofs.Ytacheoimnckghaa.PT Go.Proofs.YtacheoimnckghaaW.PrintWords Go.Proofs.YtacheoimnckghaaW.PrintLast
theorem CurveMonotone : plenumlaw03_CurveMonotone.Pure := by
  intro c x y _ _ _ _ _
  refine Ev.rounds ?_
  unfold plenumlaw03_CurveMonotone.f plenumlaw03_awake.f
  simp only [Option.bind_some, if_true]
  by_cases g : Good c
  · refine Ev.bind (dirn_good g) ?_
    simp only [if_true]
    by_cases hxy : x > y
    · rw [decide_eq_true hxy]
      exact evs (f := fun k => some true) (fun k => by simp [plenumlaw03_CurveMonotone.j0]) (Ev.now _)
    · rw [decide_eq_false hxy]
      have hle : x ≤ y := by omega
      refine evs (fun k => by simp only [plenumlaw03_CurveMonotone.j0]; rw [if_neg (by decide)]) (Ev.bind (eval_good g x) (Ev.bind (eval_good g y) ?_))
      obtain ⟨h1, h2, h3⟩ := dir_range c
      refine Ev.congr (f := fun k => some true) (fun k => ?_) (Ev.now _)
      simp only [if_true]
      rcases h1 with h | h | h | h
      · simp [h]
      · have := V_upG g (h2 (by omega) (by omega)) hle
        simp [h, this]
      · have := V_downG g (h3 (by omega) (by omega)) hle
        simp [h, this]
      · have u := V_upG g (h2 (by omega) (by omega)) hle
        have d := V_downG g (h3 (by omega) (by omega)) hle
        simp [h, u, d]
  · refine Ev.bind (dirn_bad g) ?_
    simp only [chk_ne g, if_false]
    exact evs (f := fun k => some true) (fun k => by simp [plenumlaw03_CurveMonotone.j0]) (Ev.now _)
end Go.Proofs.Ytacheoimnckghaa.Pure
