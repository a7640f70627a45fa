-- Curve and Reach return the temperatures of the curve.
import Derived.Test.YtpehicdglooeaaaO2
import Derived.Test.YtpehicdglooeaaaPTx35
namespace Go.Proofs.Ytpehicdglooeaaa.Pure
open Go.RowKit Go.Proofs.Ytpehicdglooeaaa.PT Go.Proofs.Ytpehicdglooeaaa.M Go.Proofs.YtpehicdglooeaaaW.PrintWords Go.Proofs.YtpehicdglooeaaaW.PrintLast Go.Proofs.YtpehicdglooeaaaW.PrintMore
set_option linter.unusedSimpArgs false
theorem OptimalCurves : plenumlaw36_OptimalCurves.Pure := by
  intro z0 z1 t0 t1 t2 t3 t4 out on _ _ _ _ w2 w3 _ _ _ _
  have b2 := wfb w2
  have b3 := wfb w3
  refine Ev.rounds ?_
  unfold plenumlaw36_OptimalCurves.f plenumlaw36_few.f
  rw [awk]
  simp only [Option.bind_some]
  by_cases hl : (out.length : Int) ≤ 40
  · rw [decide_eq_true hl]
    simp only [if_true]
    refine Ev.bind (Curve_ev t4 (by omega) b2.1 b3.2) (Ev.bind (Reach_ev t4 (by omega)) (Ev.bind (rcheck_ev t4 (by omega)) ?_))
    by_cases h : tE z0 z1 t0 t1 t2 t3 out = 0
    · have T := tE_zero h
      simp only [if_pos h, if_true]
      rw [h]
      by_cases c1 : on < t2
      · refine evp c1 (evu ?_)
        simp only [plenumlaw36_OptimalCurves.j0, if_true, if_pos (Or.inl c1)]
        refine evu ?_
        simp only [plenumlaw36_OptimalCurves.j1, awk, Option.bind_some, if_true]
        exact Ev.now _
      · refine evn c1 ?_
        by_cases c2 : on > t3
        · rw [decide_eq_true c2]
          refine evu ?_
          simp only [plenumlaw36_OptimalCurves.j0, if_true, if_pos (Or.inr c2)]
          refine evu ?_
          simp only [plenumlaw36_OptimalCurves.j1, awk, Option.bind_some, if_true]
          exact Ev.now _
        · rw [decide_eq_false c2, if_neg (by omega), if_neg (by omega)]
          refine evu ?_
          simp only [plenumlaw36_OptimalCurves.j0]
          refine evn (by simp) (evu ?_)
          simp only [plenumlaw36_OptimalCurves.j1, if_true]
          refine Ev.bind (rcurve_ev t4 (by omega) T) ?_
          simp only [awk, Option.bind_some, if_true]
          have eL := cl_length z0 z1 (cvHeat t4) on out t2 t0
          refine Ev.bind (same_ev _ (by omega)) ?_
          simp only [if_true]
          have e1 : wrap64 (((cl z0 z1 (cvHeat t4) on t2 t0 out).length : Int) - 1) = ((cl z0 z1 (cvHeat t4) on t2 t0 out).length : Int) - 1 := w64 (by omega) (by omega)
          rw [e1, ← lastOf_rd (cl z0 z1 (cvHeat t4) on t2 t0 out) 0 (by intro e; rw [e] at eL; simp at eL), lastOf_cl]
          refine evp (by omega) (evp (by omega) ?_)
          simp only [beq_self_eq_true]
          exact Ev.now _
    · simp only [if_neg h]
      refine evu ?_
      simp only [plenumlaw36_OptimalCurves.j0]
      refine evn (by simp) (evu ?_)
      simp only [plenumlaw36_OptimalCurves.j1, if_neg h, awk, Option.bind_some, if_true]
      exact Ev.now _
  · rw [decide_eq_false hl]
    exact evn (by simp) (Ev.now _)
end Go.Proofs.Ytpehicdglooeaaa.Pure
