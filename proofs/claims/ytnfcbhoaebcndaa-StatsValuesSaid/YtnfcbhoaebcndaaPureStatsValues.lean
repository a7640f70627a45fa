-- Check accepts exactly the valid samples, and At returns the value at an instant.
import Derived.Test.YtnfcbhoaebcndaaAt
import Derived.Test.YtnfcbhoaebcndaaPTx38
namespace Go.Proofs.Ytnfcbhoaebcndaa.Pure
open Go.RowKit Go.Proofs.Ytnfcbhoaebcndaa.PT Go.Proofs.YtnfcbhoaebcndaaW.PrintWords Go.Proofs.YtnfcbhoaebcndaaW.PrintLast Go.Proofs.YtnfcbhoaebcndaaW.PrintMore
theorem StatsValues : plenumlaw44_StatsValues.Pure := by
  intro l a _ _ _ _
  refine Ev.rounds ?_
  unfold plenumlaw44_StatsValues.f
  rw [awk]
  by_cases hl : (l.length : Int) > 60
  · exact evp hl (Ev.now _)
  · refine evn hl ?_
    refine Ev.bind (at_ev (by omega) a) (Ev.bind (rchk l (by omega)) ?_)
    have hj1 : Ev (fun k => plenumlaw44_StatsValues.j1 k l a (atR l a).2.2 (if chk l = 0 then (if okAt a = true then 0 else 1) else chk l) (atR l a).1 (atR l a).2.1) true := by
      refine evu ?_
      simp only [plenumlaw44_StatsValues.j1]
      rw [awk]
      simp only [Option.bind_some, if_true]
      refine Ev.bind (pchk l (by omega)) (Ev.bind (rchk l (by omega)) ?_)
      simp only [if_true]
      unfold atR
      by_cases h : chk l = 0
      · by_cases g : okAt a = true
        · simp only [if_pos h, if_pos g, if_true]
          refine Ev.bind (rat_ev (by omega) a h) ?_
          simp only [beq_self_eq_true, Bool.true_and]
          exact Ev.now _
        · simp only [if_pos h, if_neg g, if_true]
          exact Ev.now _
      · simp only [if_neg h, if_true, beq_self_eq_true, Bool.true_and]
        exact Ev.now _
    by_cases h : chk l = 0
    · refine evp h ?_
      by_cases g : a < 0
      · refine evp g (evu ?_)
        simp only [plenumlaw44_StatsValues.j0]
        rw [if_pos h, if_neg (by unfold okAt; simp; omega)] at hj1
        simp only [if_true]
        exact hj1
      · refine evn g (evu ?_)
        simp only [plenumlaw44_StatsValues.j0]
        by_cases g2 : a > 6311433599
        · rw [if_pos h, if_neg (by unfold okAt; simp; omega)] at hj1
          exact evp (by simp [g2]) hj1
        · rw [if_pos h, if_pos (by unfold okAt; simp; omega)] at hj1
          rw [h]
          exact evn (by simp [g2]) hj1
    · refine evn h (evu ?_)
      simp only [plenumlaw44_StatsValues.j0]
      rw [if_neg h] at hj1
      exact evn (by simp) hj1
end Go.Proofs.Ytnfcbhoaebcndaa.Pure
