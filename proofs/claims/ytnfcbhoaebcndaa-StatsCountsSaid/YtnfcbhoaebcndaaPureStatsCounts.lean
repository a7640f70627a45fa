-- Seconds and Starts return the specified numbers.
import Derived.Test.YtnfcbhoaebcndaaSpE
import Derived.Test.YtnfcbhoaebcndaaPTx34
namespace Go.Proofs.Ytnfcbhoaebcndaa.Pure
open Go.RowKit Go.Proofs.Ytnfcbhoaebcndaa.PT Go.Proofs.YtnfcbhoaebcndaaW.PrintWords Go.Proofs.YtnfcbhoaebcndaaW.PrintLast Go.Proofs.YtnfcbhoaebcndaaW.PrintMore
theorem StatsCounts : plenumlaw44_StatsCounts.Pure := by
  intro l v0 v1 a b _ _ _ _ _ _ _
  refine Ev.rounds ?_
  unfold plenumlaw44_StatsCounts.f
  rw [awk]
  by_cases hl : (l.length : Int) > 60
  · exact evp hl (Ev.now _)
  · refine evn hl ?_
    refine Ev.bind (seconds_ev (by omega) ⟨v0, v1⟩ a b) (Ev.bind (str_ev (by omega) ⟨v0, v1⟩ a b) (Ev.bind (rchk l (by omega)) ?_))
    have hj2 : Ev (fun k => plenumlaw44_StatsCounts.j2 k l a b (if abt l ⟨v0, v1⟩ a b = 0 then (cntOf (same ⟨v0, v1⟩) (P l a b), 0) else (0, abt l ⟨v0, v1⟩ a b)).1 (if abt l ⟨v0, v1⟩ a b = 0 then (cntOf (same ⟨v0, v1⟩) (P l a b), 0) else (0, abt l ⟨v0, v1⟩ a b)).2 (if abt l ⟨v0, v1⟩ a b = 0 then (strF ⟨v0, v1⟩ a b none 0 l, 0) else (0, abt l ⟨v0, v1⟩ a b)).1 (if abt l ⟨v0, v1⟩ a b = 0 then (strF ⟨v0, v1⟩ a b none 0 l, 0) else (0, abt l ⟨v0, v1⟩ a b)).2 (abt l ⟨v0, v1⟩ a b) v0 v1) true := by
      refine evu ?_
      simp only [plenumlaw44_StatsCounts.j2]
      rw [awk]
      by_cases h : abt l ⟨v0, v1⟩ a b = 0
      · obtain ⟨h1, h2, h3⟩ := abt_zero h
        obtain ⟨s0, s1, s2, s3⟩ := spn_zero h3
        refine evp h ?_
        simp only [if_pos h, Option.bind_some, if_true]
        refine Ev.bind (rsec_ev (by omega) h1 ⟨v0, v1⟩ s0 s1 (by omega)) ?_
        simp only [if_true]
        refine Ev.bind (rstr_ev (by omega) ⟨v0, v1⟩ a b) ?_
        simp only [beq_self_eq_true]
        exact Ev.now _
      · refine evn h ?_
        simp only [if_neg h, Option.bind_some, if_true, beq_self_eq_true]
        exact Ev.now _
    have hab : abt l ⟨v0, v1⟩ a b = if chk l = 0 then (if okV ⟨v0, v1⟩ = true then spn a b else 1) else chk l := rfl
    by_cases h : chk l = 0
    · refine evp h ?_
      rw [rvalid_of ⟨v0, v1⟩]
      simp only [Option.bind_some]
      refine evu ?_
      simp only [plenumlaw44_StatsCounts.j0]
      by_cases g : okV ⟨v0, v1⟩ = true
      · refine evn (by simp [g]) ?_
        refine evu ?_
        simp only [plenumlaw44_StatsCounts.j1]
        refine evp h ?_
        refine Ev.bind (rspn a b) ?_
        rw [if_pos h, if_pos g] at hab
        rw [← hab]
        exact hj2
      · refine evp (by simp [g]) ?_
        refine evu ?_
        simp only [plenumlaw44_StatsCounts.j1]
        rw [if_pos h, if_neg g] at hab
        rw [hab] at hj2 ⊢
        exact evn (by omega) hj2
    · refine evn h ?_
      refine evu ?_
      simp only [plenumlaw44_StatsCounts.j0]
      refine evn (by simp) ?_
      refine evu ?_
      simp only [plenumlaw44_StatsCounts.j1]
      rw [if_neg h] at hab
      rw [hab] at hj2 ⊢
      exact evn h hj2
end Go.Proofs.Ytnfcbhoaebcndaa.Pure
