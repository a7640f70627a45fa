-- Eval and Direction, checked.
import Derived.Test.YtacheoimnckghaaVal
import Derived.Test.YtacheoimnckghaaPTx13
namespace Go.Proofs.Ytacheoimnckghaa.Pure
open Go.RowKit Go.Proofs.Ytacheoimnckghaa.PT Go.Proofs.YtacheoimnckghaaW.PrintWords Go.Proofs.YtacheoimnckghaaW.PrintLast Go.Proofs.YtacheoimnckghaaW.PrintMore
theorem eval_good {c : List S50} (g : Good c) (x : Int) : Ev (fun k => curve_Eval.f k c x) (V c x, 0) := by
  have hc := check_ev c
  rw [(chk_good c).2 g] at hc
  unfold curve_Eval.f
  refine Ev.bind hc ?_
  simp only [if_true]
  exact Ev.bind (value_ev c g x) (Ev.now _)
theorem eval_bad {c : List S50} (g : ¬ Good c) (x : Int) : Ev (fun k => curve_Eval.f k c x) (0, chk c) := by
  have hc := check_ev c
  have hn : ¬ chk c = 0 := fun h => g ((chk_good c).1 h)
  unfold curve_Eval.f
  refine Ev.bind hc ?_
  simp only [hn, if_false]
  exact Ev.now _
theorem dirn_good {c : List S50} (g : Good c) : Ev (fun k => curve_Direction.f k c) (dir c, 0) := by
  have hc := check_ev c
  rw [(chk_good c).2 g] at hc
  unfold curve_Direction.f
  refine Ev.bind hc ?_
  simp only [if_true]
  exact Ev.bind (direction_ev c g) (Ev.now _)
theorem dirn_bad {c : List S50} (g : ¬ Good c) : Ev (fun k => curve_Direction.f k c) (0, chk c) := by
  have hc := check_ev c
  have hn : ¬ chk c = 0 := fun h => g ((chk_good c).1 h)
  unfold curve_Direction.f
  refine Ev.bind hc ?_
  simp only [hn, if_false]
  exact Ev.now _
theorem chk_ne {c : List S50} (g : ¬ Good c) : chk c ≠ 0 := fun h => g ((chk_good c).1 h)
theorem V_upG {c : List S50} (g : Good c) (h : ¬ DnAt c 0) {x y : Int} (hxy : x ≤ y) : V c x ≤ V c y := by
  obtain ⟨a, l, rfl, hi⟩ := g.chain
  exact V_up hi (up_of l a h) hxy
theorem V_downG {c : List S50} (g : Good c) (h : ¬ UpAt c 0) {x y : Int} (hxy : x ≤ y) : V c y ≤ V c x := by
  obtain ⟨a, l, rfl, hi⟩ := g.chain
  exact V_down hi (down_of l a h) hxy
end Go.Proofs.Ytacheoimnckghaa.Pure
