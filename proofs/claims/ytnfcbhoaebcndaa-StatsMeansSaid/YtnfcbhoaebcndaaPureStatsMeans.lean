-- Mean, Integral and Extremes return the exact numbers of a span.
import Derived.Test.YtnfcbhoaebcndaaSpE
import Derived.Test.YtnfcbhoaebcndaaPTx46
namespace Go.Proofs.Ytnfcbhoaebcndaa.Pure
open Go.RowKit Go.Proofs.Ytnfcbhoaebcndaa.PT Go.Proofs.YtnfcbhoaebcndaaW.PrintWords Go.Proofs.YtnfcbhoaebcndaaW.PrintLast Go.Proofs.YtnfcbhoaebcndaaW.PrintMore
theorem StatsMeans : plenumlaw44_StatsMeans.Pure := by
  intro l a b _ _ _ _ _
  refine Ev.rounds ?_
  unfold plenumlaw44_StatsMeans.f
  rw [awk]
  by_cases hl : (l.length : Int) > 60
  · exact evp hl (Ev.now _)
  · refine evn hl ?_
    refine Ev.bind (mean_ev (by omega) a b) (Ev.bind (integral_ev (by omega) a b) (Ev.bind (extremes_ev (by omega) a b) (Ev.bind (rfst l (by omega) a b) ?_)))
    by_cases h : fst_ l a b = 0
    · obtain ⟨h1, h2⟩ := fst_zero h
      obtain ⟨s0, s1, s2, s3⟩ := spn_zero h2
      obtain ⟨s, n, S⟩ := span_of (chk_zero h1).2.2 s0 s1 (by omega) s3
      obtain ⟨x0, x1⟩ := ex_span S s0 s1 (by omega)
      refine evp h ?_
      refine Ev.bind (rint_ev (by omega) h1 s0 s1 (by omega)) (Ev.bind (rmean_ev (by omega) h1 s0 s1 (by omega) S) (Ev.bind (rext_ev (by omega) h1 s0 s1 (by omega)) ?_))
      simp only [if_pos h, Option.bind_some, if_true, S.eq, mres, exRes]
      by_cases hn : n = 0
      · simp only [if_pos hn, x0 hn, Bool.false_eq_true, if_false, if_true]
        exact Ev.now _
      · simp only [if_neg hn, (x1 hn).1, if_true, beq_self_eq_true]
        exact Ev.now _
    · refine evn h ?_
      simp only [if_neg h, Option.bind_some, if_true, beq_self_eq_true]
      exact Ev.now _
end Go.Proofs.Ytnfcbhoaebcndaa.Pure
