-- The target is reached for every minute up to Start, and for none behind it.
import Derived.Test.YtpehicdglooeaaaO2
import Derived.Test.YtpehicdglooeaaaPTx23
namespace Go.Proofs.Ytpehicdglooeaaa.Pure
open Go.RowKit Go.Proofs.Ytpehicdglooeaaa.PT Go.Proofs.Ytpehicdglooeaaa.M Go.Proofs.YtpehicdglooeaaaW.PrintWords Go.Proofs.YtpehicdglooeaaaW.PrintLast Go.Proofs.YtpehicdglooeaaaW.PrintMore
theorem OptimalLatest : plenumlaw36_OptimalLatest.Pure := by
  intro z0 z1 t0 t1 t2 t3 t4 out on _ _ _ _ w2 w3 _ _ _ _
  refine Ev.rounds ?_
  unfold plenumlaw36_OptimalLatest.f plenumlaw36_few.f
  rw [awk]
  simp only [Option.bind_some]
  by_cases hl : (out.length : Int) ≤ 40
  · rw [decide_eq_true hl]
    simp only [if_true]
    by_cases h : tE z0 z1 t0 t1 t2 t3 out = 0
    · have T := tE_zero h
      have hk := T.k
      unfold tskB at hk
      obtain ⟨r, r0, r1, r2, r3, r4⟩ := Start_ev t4 (by omega) h
      refine Ev.bind r4 (Ev.bind (Reach_ev t4 (by omega)) ?_)
      simp only [if_pos h]
      by_cases c : on < t2 ∨ on > t3
      · simp only [if_pos c]
        exact Ev.now _
      · simp only [if_neg c, if_true]
        rw [reached_f]
        simp only [Option.bind_some]
        have eq : bey t4 (lc z0 z1 (cvHeat t4) on t2 t0 out) t1 = qS z0 z1 t0 t1 t2 t4 out (on - t2) := by
          unfold qS
          rw [show t2 + (on - t2) = on by omega]
        rw [eq]
        by_cases hr : r = 0
        · simp only [if_pos hr, if_true]
          rw [r3 (on - t2) (by omega) (by omega)]
          exact Ev.now _
        · simp only [if_neg hr]
          refine evn (by decide) (evp (by trivial) (evp (by omega) (evp (by omega) ?_)))
          by_cases c2 : on ≤ t2 + r - 1
          · rw [decide_eq_true c2, r2 (on - t2) (by omega) (by omega)]
            exact Ev.now _
          · rw [decide_eq_false c2, r3 (on - t2) (by omega) (by omega)]
            exact Ev.now _
    · refine Ev.bind (Start_err t4 (by omega) h) (Ev.bind (Reach_ev t4 (by omega)) ?_)
      simp only [if_neg h]
      exact Ev.now _
  · rw [decide_eq_false hl]
    exact evn (by simp) (Ev.now _)
end Go.Proofs.Ytpehicdglooeaaa.Pure
