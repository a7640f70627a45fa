-- Check, Eval and Direction answer as the reference does.
import Derived.Test.YtacheoimnckghaaRefB
import Derived.Test.YtacheoimnckghaaPTx48
namespace Go.Proofs.Ytacheoimnckghaa.Pure
open Go.RowKit Go.Proofs.Ytacheoimnckghaa.PT Go.Proofs.YtacheoimnckghaaW.PrintWords Go.Proofs.YtacheoimnckghaaW.PrintLast
theorem CurveEvals : plenumlaw03_CurveEvals.Pure := by
  intro c x _ _ _ _
  refine Ev.rounds ?_
  unfold plenumlaw03_CurveEvals.f plenumlaw03_awake.f
  simp only [Option.bind_some, if_true]
  by_cases hlen : (c.length : Int) > 40
  · simp only [hlen, if_true]
    exact Ev.now _
  · simp only [hlen, if_false]
    by_cases g : Good c
    · have hr := rcheck_ev c
      have hk := check_ev c
      rw [(chk_good c).2 g] at hr hk
      refine Ev.bind hr (Ev.bind (eval_good g x) (Ev.bind (dirn_good g) (Ev.bind hk ?_)))
      simp only [if_true]
      refine evs (f := fun k => (plenumref03_Eval.f k c x).bind fun t448 => (if V c x = t448 then ((plenumref03_Direction.f k c).bind fun t449 => (some (dir c == t449))) else (some false))) (fun k => ?_) (Ev.bind (reval_ev g x) ?_)
      · simp [plenumlaw03_CurveEvals.j0]
      · simp only [if_true]
        refine Ev.bind (rdir_good g) ?_
        simp only [beq_self_eq_true]
        exact Ev.now _
    · refine Ev.bind (rcheck_ev c) (Ev.bind (eval_bad g x) (Ev.bind (dirn_bad g) (Ev.bind (check_ev c) ?_)))
      simp only [if_true]
      refine evs (f := fun k => some true) (fun k => ?_) (Ev.now _)
      simp [plenumlaw03_CurveEvals.j0, chk_ne g]
end Go.Proofs.Ytacheoimnckghaa.Pure
