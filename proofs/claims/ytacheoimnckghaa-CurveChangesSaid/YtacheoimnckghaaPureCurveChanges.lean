-- Shift, Simplify and Area answer as the reference does.
import Derived.Test.YtacheoimnckghaaRefA
import Derived.Test.YtacheoimnckghaaPTx21
namespace Go.Proofs.Ytacheoimnckghaa.Pure
open Go.RowKit Go.Proofs.Ytacheoimnckghaa.PT Go.Proofs.YtacheoimnckghaaW.PrintWords Go.Proofs.YtacheoimnckghaaW.PrintLast
theorem CurveChanges : plenumlaw03_CurveChanges.Pure := by
  intro c dx dy _ _ _ _ _
  refine Ev.rounds ?_
  unfold plenumlaw03_CurveChanges.f plenumlaw03_awake.f
  simp only [Option.bind_some, if_true]
  by_cases hlen : (c.length : Int) > 40
  · simp only [hlen, if_true]
    exact Ev.now _
  · simp only [hlen, if_false]
    by_cases g : Good c
    · have hle := g.le
      obtain ⟨s, hs, hs2⟩ := simplify_both g
      obtain ⟨s', hs', hleft⟩ := simplify_good g
      have es : s = s' := (Prod.mk.inj (ev_det hs hs')).1
      have hsl : s.length ≤ 32 := by rw [es]; exact hleft.good.le
      have hsh : ∃ sl e, Ev (fun k => curve_Shift.f k c dx dy) (sl, e) ∧ Ev (fun k => plenumref03_Shift.f k c dx dy) (sl, e) ∧ sl.length ≤ 1000 := by
        by_cases h : ∀ b ∈ c, okI (sh (cl dx) (cl dy) b)
        · refine ⟨c.map (sh (cl dx) (cl dy)), 0, ?_, ?_, by simp; omega⟩
          · have := shift_good g dx dy
            rwa [if_pos h] at this
          · have := rshift_good g dx dy
            rwa [if_pos h] at this
        · refine ⟨[], 6, ?_, ?_, by simp⟩
          · have := shift_good g dx dy
            rwa [if_neg h] at this
          · have := rshift_good g dx dy
            rwa [if_neg h] at this
      obtain ⟨sl, e, h1, h2, hsl2⟩ := hsh
      have hck := rcheck_ev c
      rw [(chk_good c).2 g] at hck
      refine Ev.bind h1 (Ev.bind h2 (Ev.bind hs (Ev.bind (area_good g) (Ev.bind (same_refl sl hsl2) ?_))))
      simp only [if_true]
      refine Ev.bind hck ?_
      simp only [if_true]
      have ha : (area c).2.2 = 0 := rfl
      rw [ha]
      refine evs (f := fun k => (plenumref03_Simplify.f k c).bind fun t355 => ((plenumref03_Same.f k s t355).bind fun t358 => (if t358 = true then ((plenumref03_Area.f k c).bind fun bt359 => (some (bt359.1 == (area c).1 && (bt359.2 == (area c).2.1)))) else (some false)))) (fun k => ?_) (Ev.bind hs2 (Ev.bind (same_refl s (by omega)) ?_))
      · simp [plenumlaw03_CurveChanges.j0]
      · simp only [if_true]
        refine Ev.bind (rarea_good g) ?_
        simp only [beq_self_eq_true, Bool.and_self]
        exact Ev.now _
    · refine Ev.bind (shift_bad g dx dy) (Ev.bind (rshift_bad g dx dy) (Ev.bind (simplify_bad g) (Ev.bind (area_bad g) (Ev.bind (same_refl [] (by simp)) ?_))))
      simp only [if_true]
      refine Ev.bind (rcheck_ev c) ?_
      simp only [if_true]
      refine evs (f := fun k => some true) (fun k => ?_) (Ev.now _)
      simp [plenumlaw03_CurveChanges.j0, chk_ne g]
end Go.Proofs.Ytacheoimnckghaa.Pure
