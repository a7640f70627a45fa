-- The mean lies between the extremes.
import Derived.Test.YtnfcbhoaebcndaaSpE
import Derived.Test.YtnfcbhoaebcndaaPTx30
namespace Go.Proofs.Ytnfcbhoaebcndaa.Pure
open Go.RowKit Go.Proofs.Ytnfcbhoaebcndaa.PT Go.Proofs.YtnfcbhoaebcndaaW.PrintWords Go.Proofs.YtnfcbhoaebcndaaW.PrintLast Go.Proofs.YtnfcbhoaebcndaaW.PrintMore
theorem StatsBounds : plenumlaw44_StatsBounds.Pure := by
  intro l a b _ _ _ _ _
  refine Ev.rounds ?_
  unfold plenumlaw44_StatsBounds.f
  rw [awk]
  by_cases hl : (l.length : Int) > 60
  · exact evp hl (Ev.now _)
  · refine evn hl ?_
    refine Ev.bind (mean_ev (by omega) a b) ?_
    by_cases h : fst_ l a b = 0
    · obtain ⟨h1, h2⟩ := fst_zero h
      obtain ⟨s0, s1, s2, s3⟩ := spn_zero h2
      obtain ⟨s, n, S⟩ := span_of (chk_zero h1).2.2 s0 s1 (by omega) s3
      obtain ⟨x0, x1⟩ := ex_span S s0 s1 (by omega)
      have n0 := S.n0
      have n1 := S.n1
      have lo := S.lo
      have hi := S.hi
      by_cases hn : n = 0
      · refine evn (by simp only [if_pos h, S.eq, mres, if_pos hn]; decide) (Ev.now _)
      · refine evp (by simp only [if_pos h, S.eq, mres, if_neg hn]) ?_
        refine Ev.bind (extremes_ev (by omega) a b) (Ev.bind (integral_ev (by omega) a b) (Ev.bind (hist_ev (by omega) (ls := []) (by simp) a b) ?_))
        obtain ⟨y1, y2, y3⟩ := x1 hn
        have eh : hres l [] a b = (hOf [] (P l a b), 0) := by
          unfold hres
          rw [if_neg (by simp [h1]), if_neg (by simp), if_pos (show incB [] = true from rfl), if_pos h2]
        have e1 : (hOf [] (P l a b)).length = 1 := by rw [hOf_length]; rfl
        have e2 : rd (hOf [] (P l a b)) 0 = n := by
          have := h_ws [] (P l a b) 0 (by simp)
          unfold rd
          show (hOf [] (P l a b)).getD 0 0 = n
          rw [this, ws_congr (u := ind isA) _ (fun p _ => ?_), P_pz l s0 s1 (by omega), ← S.n_, w64s (by omega) (by omega)]
          unfold ind isA bk; simp
        obtain ⟨d1, d2, d3, d4⟩ := dvd_near (s := s) (n := n) (by omega) n1 (by omega) (by omega)
        have g1 := dvd_ge (s := s) (n := n) (by omega) n1 (by omega) (by omega) y2
        have g2 := dvd_le (s := s) (n := n) (by omega) n1 (by omega) (by omega) y3
        simp only [if_pos h, Option.bind_some, if_true, S.eq, mres, exRes, if_neg hn, y1, eh, e2]
        refine evp (by omega) (evp (by omega) (evn (by omega) (evn (by omega) (evn (by omega) ?_))))
        have q1 : -9000000000000000000 ≤ Int.tdiv s n ∧ Int.tdiv s n ≤ 9000000000000000000 := by
          have := Int.natAbs_tdiv_le_natAbs s n
          omega
        rw [w64s (x := Int.tdiv s n) (by omega) (by omega), w64s (x := Int.tdiv s n - dvd s n) (by omega) (by omega), w64s (x := dvd s n - Int.tdiv s n) (by omega) (by omega)]
        refine evp (by omega) ?_
        rw [decide_eq_true d4]
        exact Ev.now _
    · refine evn (by simp only [if_neg h]; exact h) (Ev.now _)
end Go.Proofs.Ytnfcbhoaebcndaa.Pure
