-- No loss explains a run better than what Learn returns; the model's own run is explained without deviation.
import Derived.Test.YtpehicdglooeaaaD
import Derived.Test.YtpehicdglooeaaaPTx38
namespace Go.Proofs.Ytpehicdglooeaaa.Pure
open Go.RowKit Go.Proofs.Ytpehicdglooeaaa.PT Go.Proofs.Ytpehicdglooeaaa.M Go.Proofs.YtpehicdglooeaaaW.PrintWords Go.Proofs.YtpehicdglooeaaaW.PrintLast Go.Proofs.YtpehicdglooeaaaW.PrintMore
set_option linter.unusedVariables false
set_option linter.unusedSimpArgs false
theorem expl2 {other : Int} (h0 : 0 ≤ other) (h1 : other ≤ 1000) {ins outs : List Int} (hi : ins.length ≤ 100) (ho : outs.length ≤ 100) : Ev (fun k => plenumlaw36_OptimalExplains.j2 k other outs ins) true := by
  refine evu ?_
  simp only [plenumlaw36_OptimalExplains.j2]
  refine Ev.bind (Learn_ev hi ho) ?_
  by_cases h : rE ins outs = 0
  · obtain ⟨a1, a2, a3, a4⟩ := lrn0_spec ins outs
    simp only [if_pos h]
    refine evp (by trivial) (Ev.bind (Dev_ev _ hi ho) (Ev.bind (Dev_ev _ hi ho) ?_))
    simp only [if_pos h, if_pos (show 0 ≤ lrn0 ins outs ∧ lrn0 ins outs ≤ 1000 from ⟨a1, a2⟩), if_pos (show 0 ≤ other ∧ other ≤ 1000 from ⟨h0, h1⟩), awk, Option.bind_some, if_true]
    refine evp (a3 other h0 h1) ?_
    by_cases c : dv (lrn0 ins outs) ins outs < dv other ins outs
    · exact evp c (Ev.now _)
    · refine evn c ?_
      rw [decide_eq_true (show lrn0 ins outs ≤ other from Int.not_lt.1 (fun hc => c (a4 other h0 hc)))]
      exact Ev.now _
  · simp only [if_neg h]
    exact Ev.now _
theorem OptimalExplains : plenumlaw36_OptimalExplains.Pure := by
  intro L other t outs ins _ _ _ _ _ _ _ _ _
  refine Ev.rounds ?_
  have jt : Ev (fun k => plenumlaw36_OptimalExplains.j0 k L other t outs ins true) true := by
    refine evu ?_
    simp only [plenumlaw36_OptimalExplains.j0, if_true, awk, Option.bind_some]
    exact Ev.now _
  unfold plenumlaw36_OptimalExplains.f
  by_cases c1 : (outs.length : Int) > 30
  · exact evp c1 jt
  refine evn c1 ?_
  by_cases c2 : (ins.length : Int) > 30
  · exact evp c2 jt
  refine evn c2 ?_
  by_cases c3 : L < 0
  · exact evp c3 jt
  refine evn c3 ?_
  by_cases c4 : L > 1000
  · exact evp c4 jt
  refine evn c4 ?_
  by_cases c5 : other < 0
  · exact evp c5 jt
  refine evn c5 ?_
  by_cases c6 : other > 1000
  · rw [decide_eq_true c6]; exact jt
  rw [decide_eq_false c6]
  have hj2 := expl2 (other := other) (by omega) (by omega) (ins := ins) (outs := outs) (by omega) (by omega)
  have hj1 : ∀ l, Ev (fun k => plenumlaw36_OptimalExplains.j1 k L other t outs ins l false) true := fun l => by
    refine evu ?_
    simp only [plenumlaw36_OptimalExplains.j1]
    exact evn (by simp) hj2
  refine evu ?_
  simp only [plenumlaw36_OptimalExplains.j0]
  refine evn (by simp) (evp (by omega) (evp (by omega) ?_))
  rw [show ((outs.length : Int)).toNat = outs.length from rfl]
  by_cases s : Lok L 0 t 60 outs (List.replicate outs.length 0)
  · refine Ev.bind (ev_from 10010 (fun k hk => Run_ok s k hk)) ?_
    simp only [if_true]
    by_cases c7 : (outs.length : Int) > 0
    · rw [decide_eq_true c7]
      obtain ⟨hz, _, _, ht, _, ho, _⟩ := s
      have hrl := rl_length L 0 60 t outs (List.replicate outs.length 0) (by simp)
      generalize hl : rl L 0 60 t outs (List.replicate outs.length 0) = l at hrl
      have hR : rE (t :: l) outs = 0 := by
        unfold rE
        have q1 : allT (t :: l) = true := by
          simp only [allT, List.all_cons, Bool.and_eq_true, decide_eq_true_eq, List.all_eq_true]
          exact ⟨ht, fun x hx => by rw [← hl] at hx; exact rl_Tok L 60 outs _ t x hx⟩
        have q2 : allT outs = true := by
          simp only [allT, List.all_eq_true, decide_eq_true_eq]
          exact ho
        rw [if_neg (by intro hh; rw [List.length_cons] at hh; omega), if_pos ⟨q1, q2⟩]
      have hd : dv L (t :: l) outs = 0 := by rw [← hl]; exact dv_rl L outs t
      obtain ⟨a1, a2, a3, a4⟩ := lrn0_spec (t :: l) outs
      have hlen : (t :: l).length ≤ 100 := by simp [hrl]; omega
      have hb : dv (lrn0 (t :: l) outs) (t :: l) outs = 0 := by
        have q1 := a3 L (by omega) (by omega)
        have q2 := dv_nonneg (lrn0 (t :: l) outs) outs (t :: l)
        omega
      have hle : ¬ lrn0 (t :: l) outs > L := fun hc => by
        have q1 := a4 L (by omega) hc
        omega
      refine evu ?_
      simp only [plenumlaw36_OptimalExplains.j1, if_true, Option.bind_some]
      refine evp (by simp [hrl]; omega) ?_
      simp only [List.singleton_append]
      refine Ev.bind (Dev_ev L hlen (by omega)) (Ev.bind (Learn_ev hlen (by omega)) ?_)
      simp only [if_pos hR]
      refine Ev.bind (Dev_ev _ hlen (by omega)) ?_
      simp only [if_pos hR, if_pos (show 0 ≤ lrn0 (t :: l) outs ∧ lrn0 (t :: l) outs ≤ 1000 from ⟨a1, a2⟩), if_pos (show 0 ≤ L ∧ L ≤ 1000 by omega), hd, hb, if_true, if_neg hle]
      exact hj2
    · rw [decide_eq_false c7]
      exact hj1 _
  · obtain ⟨K, hK⟩ := Run_no (by omega) s
    refine Ev.bind (ev_from K hK) ?_
    by_cases e : (if Zok L 0 then (if outs.length = (List.replicate outs.length (0 : Int)).length then (if (List.replicate outs.length (0 : Int)).length ≤ 10000 then 6 else 7) else 1) else 6) = (0 : Int)
    · exfalso
      split at e
      · split at e
        · split at e <;> omega
        · omega
      · omega
    · exact evn e (hj1 _)
end Go.Proofs.Ytpehicdglooeaaa.Pure
