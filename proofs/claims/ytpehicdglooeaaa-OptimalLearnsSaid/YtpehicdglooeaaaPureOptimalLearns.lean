-- Deviation and Learn return the specified numbers.
import Derived.Test.YtpehicdglooeaaaD
import Derived.Test.YtpehicdglooeaaaPTx29
namespace Go.Proofs.Ytpehicdglooeaaa.Pure
open Go.RowKit Go.Proofs.Ytpehicdglooeaaa.PT Go.Proofs.Ytpehicdglooeaaa.M Go.Proofs.YtpehicdglooeaaaW.PrintWords Go.Proofs.YtpehicdglooeaaaW.PrintLast Go.Proofs.YtpehicdglooeaaaW.PrintMore
set_option linter.unusedVariables false
set_option linter.unusedSimpArgs false
theorem OptimalLearns : plenumlaw36_OptimalLearns.Pure := by
  intro L ins outs _ _ _ _ _ _ _
  refine Ev.rounds ?_
  have jt : Ev (fun k => plenumlaw36_OptimalLearns.j0 k L ins outs true) true := by
    refine evu ?_
    simp only [plenumlaw36_OptimalLearns.j0, if_true, awk, Option.bind_some]
    exact Ev.now _
  unfold plenumlaw36_OptimalLearns.f
  by_cases c1 : (ins.length : Int) > 30
  · exact evp c1 jt
  · refine evn c1 ?_
    by_cases c2 : (outs.length : Int) > 30
    · rw [decide_eq_true c2]; exact jt
    · rw [decide_eq_false c2]
      refine evu ?_
      simp only [plenumlaw36_OptimalLearns.j0]
      refine evn (by simp) (Ev.bind (Dev_ev L (by omega) (by omega)) (Ev.bind (Learn_ev (by omega) (by omega)) (Ev.bind (rrun_ev (by omega) (by omega)) ?_)))
      by_cases h : rE ins outs = 0
      · have R := rE_zero h
        simp only [if_pos h]
        refine evp (by trivial) ?_
        refine Ev.bind (rlearn_ev (by omega) R) ?_
        rw [bne_self_eq_false]
        refine evu ?_
        simp only [plenumlaw36_OptimalLearns.j1]
        refine evn (by simp) ?_
        by_cases d1 : L < 0
        · refine evp d1 (evu ?_)
          simp only [plenumlaw36_OptimalLearns.j2, if_true, awk, Option.bind_some, if_neg (show ¬ (0 ≤ L ∧ L ≤ 1000) by omega)]
          exact Ev.now _
        · refine evn d1 ?_
          by_cases d2 : L > 1000
          · rw [decide_eq_true d2]
            refine evu ?_
            simp only [plenumlaw36_OptimalLearns.j2, if_true, awk, Option.bind_some, if_neg (show ¬ (0 ≤ L ∧ L ≤ 1000) by omega)]
            exact Ev.now _
          · rw [decide_eq_false d2]
            refine evu ?_
            simp only [plenumlaw36_OptimalLearns.j2, if_true, awk, Option.bind_some, if_pos (show 0 ≤ L ∧ L ≤ 1000 by omega)]
            refine evn (by simp) ?_
            refine Ev.bind (rdev_ev (by omega) (by omega) (by omega) R) ?_
            simp only [beq_self_eq_true]
            exact Ev.now _
      · simp only [if_neg h, awk, Option.bind_some, if_true]
        by_cases d : 0 ≤ L ∧ L ≤ 1000
        · simp only [if_pos d, if_true]
          exact Ev.now _
        · simp only [if_neg d, if_true]
          by_cases e6 : 6 = rE ins outs
          · exact evp e6 (Ev.now _)
          · exact evn e6 (Ev.now _)
end Go.Proofs.Ytpehicdglooeaaa.Pure
