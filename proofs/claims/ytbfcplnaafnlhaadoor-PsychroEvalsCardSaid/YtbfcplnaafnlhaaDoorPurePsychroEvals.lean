import Derived.Test.YtbfcplnaafnlhaaDoorPTx42
import Derived.Test.YtbfcplnaafnlhaaDoorPTx40
import Derived.Test.YtbfcplnaafnlhaaDoorPTx41
import Derived.Test.YtbfcplnaafnlhaaDoorPsyE
import Derived.Test.YtbfcplnaafnlhaaDoorPsyR
namespace Go.Proofs.YtbfcplnaafnlhaaDoor.Pure
open Go.RowKit Go.Proofs.YtbfcplnaafnlhaaDoor.PT Go.Proofs.YtbfcplnaafnlhaaDoorW.PrintWords Go.Proofs.YtbfcplnaafnlhaaDoorW.PrintLast Go.Proofs.YtbfcplnaafnlhaaDoorW.PrintMore
set_option linter.unusedVariables false
set_option linter.unusedSimpArgs false
theorem eval_j2 (n : ByteArray) (l : List S37) (b : Bool) (h : b = false → l.length = 2) : ∃ r, Ev (fun k => psychro_Eval.j2 k n l b) r ∧ Ev (fun k => plenumref22_Eval.j2 k n l b) r := by
  cases b
  · have hl := h rfl
    by_cases c : n.toList = ([100, 101, 119, 112, 111, 105, 110, 116] : List UInt8)
    · refine ⟨(1, DV (QV (rd_T37 l 0).f1 (rd_T37 l 1).f1), 0), ?_, ?_⟩
      · refine evs (f := fun k => (psychro_Ratio.f k ((rd_T37 l 0).f1) ((rd_T37 l 1).f1)).bind fun t314 => (psychro_Dew.f k t314).bind fun t315 => (some (1, t315, 0))) (fun k => ?_) (Ev.bind (ratio_ev _ _) (Ev.bind (dew_ev _) (Ev.now _)))
        simp only [psychro_Eval.j2]
        rw [if_neg (by decide), if_pos (by omega), if_pos (by omega)]
        simp only [if_pos c]
      · refine evs (f := fun k => (plenumref22_Ratio.f k ((rd_T37 l 0).f1) ((rd_T37 l 1).f1)).bind fun t314 => (plenumref22_Dew.f k t314).bind fun t315 => (some (1, t315, 0))) (fun k => ?_) (Ev.bind (rratio_ev _ _) (Ev.bind (rdew_ev _) (Ev.now _)))
        simp only [plenumref22_Eval.j2]
        rw [if_neg (by decide), if_pos (by omega), if_pos (by omega)]
        simp only [if_pos c]
    · refine ⟨(1, EV (rd_T37 l 0).f1 (QV (rd_T37 l 0).f1 (rd_T37 l 1).f1), 0), ?_, ?_⟩
      · refine evs (f := fun k => (psychro_Ratio.f k ((rd_T37 l 0).f1) ((rd_T37 l 1).f1)).bind fun t314 => (psychro_Enthalpy.f k ((rd_T37 l 0).f1) t314).bind fun t315 => (some (1, t315, 0))) (fun k => ?_) (Ev.bind (ratio_ev _ _) (Ev.bind (enth_ev _ _) (Ev.now _)))
        simp only [psychro_Eval.j2]
        rw [if_neg (by decide), if_pos (by omega), if_pos (by omega)]
        simp only [if_neg c]
      · refine evs (f := fun k => (plenumref22_Ratio.f k ((rd_T37 l 0).f1) ((rd_T37 l 1).f1)).bind fun t314 => (plenumref22_Enthalpy.f k ((rd_T37 l 0).f1) t314).bind fun t315 => (some (1, t315, 0))) (fun k => ?_) (Ev.bind (rratio_ev _ _) (Ev.bind (renth_ev _ _) (Ev.now _)))
        simp only [plenumref22_Eval.j2]
        rw [if_neg (by decide), if_pos (by omega), if_pos (by omega)]
        simp only [if_neg c]
  · exact ⟨(0, 0, 11), evs (f := fun k => some _) (fun k => rfl) (Ev.now _), evs (f := fun k => some _) (fun k => rfl) (Ev.now _)⟩
theorem eval_j1 (n : ByteArray) (l : List S37) (b : Bool) (h : b = false → l.length = 2) : ∃ r, Ev (fun k => psychro_Eval.j1 k n l b) r ∧ Ev (fun k => plenumref22_Eval.j1 k n l b) r := by
  cases b
  · have hl := h rfl
    obtain ⟨b', hb'⟩ : ∃ b' : Bool, b' = if (rd_T37 l 0).f0 = 1 then ((rd_T37 l 1).f0 != 1) else true := ⟨_, rfl⟩
    obtain ⟨r, g, g'⟩ := eval_j2 n l b' (fun _ => hl)
    refine ⟨r, ?_, ?_⟩
    · refine evs (fun k => ?_) g
      simp only [psychro_Eval.j1]
      rw [if_neg (by decide), if_pos (by omega), hb']
      by_cases c : (rd_T37 l 0).f0 = 1
      · rw [if_pos c, if_pos c, if_pos (by omega)]
      · rw [if_neg c, if_neg c]
    · refine evs (fun k => ?_) g'
      simp only [plenumref22_Eval.j1]
      rw [if_neg (by decide), if_pos (by omega), hb']
      by_cases c : (rd_T37 l 0).f0 = 1
      · rw [if_pos c, if_pos c, if_pos (by omega)]
      · rw [if_neg c, if_neg c]
  · exact ⟨(0, 0, 1), evs (f := fun k => some _) (fun k => rfl) (Ev.now _), evs (f := fun k => some _) (fun k => rfl) (Ev.now _)⟩
theorem eval_j0 (n : ByteArray) (p : List Int) (l : List S37) (b : Bool) : ∃ r, Ev (fun k => psychro_Eval.j0 k n p l b) r ∧ Ev (fun k => plenumref22_Eval.j0 k n p l b) r := by
  cases b
  · obtain ⟨b', hb'⟩ : ∃ b' : Bool, b' = if (p.length : Int) = 0 then ((l.length : Int) != 2) else true := ⟨_, rfl⟩
    obtain ⟨r, g, g'⟩ := eval_j1 n l b' (fun h => by
      rw [h] at hb'
      by_cases c : (p.length : Int) = 0
      · rw [if_pos c] at hb'
        simp at hb'
        omega
      · rw [if_neg c] at hb'
        cases hb')
    refine ⟨r, ?_, ?_⟩
    · refine evs (fun k => ?_) g
      simp only [psychro_Eval.j0]
      rw [if_neg (by decide), hb']
      by_cases c : (p.length : Int) = 0
      · rw [if_pos c, if_pos c]
      · rw [if_neg c, if_neg c]
    · refine evs (fun k => ?_) g'
      simp only [plenumref22_Eval.j0]
      rw [if_neg (by decide), hb']
      by_cases c : (p.length : Int) = 0
      · rw [if_neg (by omega), if_pos c]
      · rw [if_pos (by omega), if_neg c]
  · exact ⟨(0, 0, 3), evs (f := fun k => some _) (fun k => rfl) (Ev.now _), evs (f := fun k => some _) (fun k => rfl) (Ev.now _)⟩
theorem eval_both (n : ByteArray) (p : List Int) (l : List S37) : ∃ r, Ev (fun k => psychro_Eval.f k n p l) r ∧ Ev (fun k => plenumref22_Eval.f k n p l) r := by
  unfold psychro_Eval.f plenumref22_Eval.f
  by_cases c : n.toList = ([101, 110, 116, 104, 97, 108, 112, 121] : List UInt8)
  · simp only [if_pos c]
    exact eval_j0 n p l false
  · simp only [if_neg c]
    exact eval_j0 n p l _
/-- The blocks are evaluated as the reference does. -/
theorem PsychroEvals : plenumlaw22_PsychroEvals.Pure := by
  intro a0 l1 l2
  intros
  refine Ev.rounds (g := fun k => plenumlaw22_PsychroEvals.f k a0 l1 l2) ?_
  unfold plenumlaw22_PsychroEvals.f plenumlaw22_awake.f
  simp only [Option.bind_some, if_true]
  have ht : Ev (fun k => plenumlaw22_PsychroEvals.j0 k a0 l1 l2 true) true := evs (f := fun k => some _) (fun k => rfl) (Ev.now _)
  have hf : Ev (fun k => plenumlaw22_PsychroEvals.j0 k a0 l1 l2 false) true := by
    obtain ⟨r, g, g'⟩ := eval_both a0 l1 l2
    refine evs (f := fun k => (psychro_Eval.f k a0 l1 l2).bind fun bt328 => ((plenumref22_Eval.f k a0 l1 l2).bind fun bt332 => (if (bt328.1 == bt332.1 && (bt328.2.1 == bt332.2.1)) = true then (some (bt328.2.2 == bt332.2.2)) else (some false)))) (fun k => rfl) (Ev.bind g (Ev.bind g' ?_))
    rw [show (r.1 == r.1 && (r.2.1 == r.2.1)) = true by simp, show (r.2.2 == r.2.2) = true by simp]
    exact Ev.now _
  have hb : ∀ b, Ev (fun k => plenumlaw22_PsychroEvals.j0 k a0 l1 l2 b) true := fun b => by cases b; exact hf; exact ht
  by_cases c : (a0.size : Int) > 100
  · simp only [if_pos c]; exact ht
  simp only [if_neg c]
  by_cases c : (l1.length : Int) > 10
  · simp only [if_pos c]; exact ht
  simp only [if_neg c]
  exact hb _
end Go.Proofs.YtbfcplnaafnlhaaDoor.Pure
