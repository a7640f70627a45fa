-- The number that Inverse returns is the least one.
import Derived.Test.YtacheoimnckghaaInv
import Derived.Test.YtacheoimnckghaaPTx28
namespace Go.Proofs.Ytacheoimnckghaa.Pure
open Go.RowKit Go.Proofs.Ytacheoimnckghaa.PT Go.Proofs.YtacheoimnckghaaW.PrintWords Go.Proofs.YtacheoimnckghaaW.PrintLast
theorem CurveLeast : plenumlaw03_CurveLeast.Pure := by
  intro c y _ _ _ _
  refine Ev.rounds ?_
  unfold plenumlaw03_CurveLeast.f plenumlaw03_awake.f
  simp only [Option.bind_some, if_true]
  by_cases g : Good c
  · obtain ⟨x, e, hx, h⟩ := inverse_good g y
    refine Ev.bind hx ?_
    rcases h with ⟨he, rfl, _⟩ | ⟨rfl, _, _, hl⟩
    · simp only [he, if_false]
      exact Ev.now _
    · simp only [if_true]
      have hpos := g.pos
      have hle := g.le
      obtain ⟨a0, a1, _, _⟩ := g.ok 0 hpos
      obtain ⟨b0, b1, _, _⟩ := g.ok (c.length - 1) (by omega)
      have l0 := hl.lo
      have l1 := hl.hi
      have l2 := hl.ge
      have hw : wrap64 (x - 1) = x - 1 := w64s (by omega) (by omega)
      have hw1 : wrap64 ((c.length : Int) - 1) = ((c.length - 1 : Nat) : Int) := by rw [w64s (by omega) (by omega)]; omega
      have h00 : rd_T50 c 0 = kn c 0 := rd_kn c 0
      refine Ev.bind (eval_good g x) (Ev.bind (eval_good g (wrap64 (x - 1))) (Ev.congr (f := fun k => some true) (fun k => ?_) (Ev.now _)))
      simp only [if_true]
      rw [if_pos (by omega), h00, if_pos l0, hw1, if_pos (by omega), if_pos (by omega), rd_kn, if_pos l1, if_pos l2, hw]
      by_cases hx0 : x = (kn c 0).f0
      · rw [if_pos hx0]
      · rw [if_neg hx0, decide_eq_true (hl.lt.resolve_left hx0)]
  · refine Ev.bind (inverse_bad g y) ?_
    simp only [chk_ne g, if_false]
    exact Ev.now _
end Go.Proofs.Ytacheoimnckghaa.Pure
