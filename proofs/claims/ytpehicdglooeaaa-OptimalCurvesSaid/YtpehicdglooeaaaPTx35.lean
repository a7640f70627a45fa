-- Laid by hp.py (a program of this session's) through the kit's printer. (squeezed)
import Derived.Test.YtpehicdglooeaaaPTx0
import Derived.Test.YtpehicdglooeaaaPTx1
import Derived.Test.YtpehicdglooeaaaPTx15
import Derived.Test.YtpehicdglooeaaaPTx21
import Derived.Test.YtpehicdglooeaaaPTx30
import Derived.Test.YtpehicdglooeaaaPTx32
import Derived.Test.YtpehicdglooeaaaPTx33
import Derived.Test.YtpehicdglooeaaaPTx34
namespace Go.Proofs.Ytpehicdglooeaaa.PT
open Go.RowKit Go.Proofs.YtpehicdglooeaaaW.PrintWords Go.Proofs.YtpehicdglooeaaaW.PrintLast Go.Proofs.YtpehicdglooeaaaW.PrintMore
attribute [local go_sem] max2_int min2_int max_two min_two max_three min_three max_four min_four   -- for this text's walks alone
set_option linter.unusedVariables false
set_option linter.unusedSimpArgs false
/-! ### plenumlaw36_OptimalCurves: function 5 -/
mutual
def plenumlaw36_OptimalCurves.j0 : Nat → List Int → Int → List Int → Int → Int → Int → Int → Bool → Int → Int → Int → Int → Int → Int → Bool → Option (Bool)
 | 0, _, _, _, _, _, _, _, _, _, _, _, _, _, _, _ => none
 | k + 1, x2, x3, x9, x10, x11, x12, x13, x53, x286000, x286001, x287000, x287001, x287002, x287003, x287004 => if x53 = true then (plenumlaw36_OptimalCurves.j1 k x2 x3 x9 x10 x11 x12 1 x286000 x286001 x287000 x287001 x287002 x287003 x287004) else (plenumlaw36_OptimalCurves.j1 k x2 x3 x9 x10 x11 x12 x13 x286000 x286001 x287000 x287001 x287002 x287003 x287004)
def plenumlaw36_OptimalCurves.j1 : Nat → List Int → Int → List Int → Int → Int → Int → Int → Int → Int → Int → Int → Int → Int → Bool → Option (Bool)
 | 0, _, _, _, _, _, _, _, _, _, _, _, _, _, _ => none
 | k + 1, x2, x3, x9, x10, x11, x12, x13, x286000, x286001, x287000, x287001, x287002, x287003, x287004 => if x13 = 0 then ((plenumref36_Curve.f k x286000 x286001 x287000 x287001 x287002 x287003 x287004 x2 x3).bind fun t296 => ((plenumlaw36_awake.f).bind fun t299 => (if t299 = true then (if x10 = 0 then (if x12 = 0 then ((plenumref36_Same.f k x9 t296).bind fun t300 => (if t300 = true then (if 0 ≤ (wrap64 ((t296.length : Int) - 1)) then (if (wrap64 ((t296.length : Int) - 1)) < (t296.length : Int) then (some (x11 == (rd t296 (wrap64 ((t296.length : Int) - 1))))) else (none)) else (none)) else (some false))) else (some false)) else (some false)) else (some false)))) else ((plenumlaw36_awake.f).bind fun t302 => (if t302 = true then (if x10 = x13 then (if x12 = x13 then (if (x9.length : Int) = 0 then (some (x11 == 0)) else (some false)) else (some false)) else (some false)) else (some false)))
end
def plenumlaw36_OptimalCurves.f (k : Nat) (a0_0 : Int) (a0_1 : Int) (a1_0 : Int) (a1_1 : Int) (a1_2 : Int) (a1_3 : Int) (a1_4 : Bool) (l2 : List Int) (a3 : Int) : Option (Bool) := (plenumlaw36_few.f a1_0 a1_1 a1_2 a1_3 a1_4 l2).bind fun t287 => (if t287 = true then ((optimal_Curve.f k a0_0 a0_1 a1_0 a1_1 a1_2 a1_3 a1_4 l2 a3).bind fun bt289 => ((optimal_Reach.f k a0_0 a0_1 a1_0 a1_1 a1_2 a1_3 a1_4 l2 a3).bind fun bt293 => ((plenumref36_Check.f k a0_0 a0_1 a1_0 a1_1 a1_2 a1_3 a1_4 l2).bind fun t295 => (if t295 = 0 then (if a3 < a1_2 then (plenumlaw36_OptimalCurves.j0 k l2 a3 bt289.1 bt289.2 bt293.1 bt293.2 t295 true a0_0 a0_1 a1_0 a1_1 a1_2 a1_3 a1_4) else (plenumlaw36_OptimalCurves.j0 k l2 a3 bt289.1 bt289.2 bt293.1 bt293.2 t295 (decide (a3 > a1_3)) a0_0 a0_1 a1_0 a1_1 a1_2 a1_3 a1_4)) else (plenumlaw36_OptimalCurves.j0 k l2 a3 bt289.1 bt289.2 bt293.1 bt293.2 t295 false a0_0 a0_1 a1_0 a1_1 a1_2 a1_3 a1_4))))) else ((plenumlaw36_awake.f).bind fun t288 => (some t288)))
theorem plenumlaw36_OptimalCurves.mono_l : ∀ k, (∀ y0 y1 y2 y3 y4 y5 y6 y7 y8 y9 y10 y11 y12 y13 y14, LeO (plenumlaw36_OptimalCurves.j0 k y0 y1 y2 y3 y4 y5 y6 y7 y8 y9 y10 y11 y12 y13 y14) (plenumlaw36_OptimalCurves.j0 (k + 1) y0 y1 y2 y3 y4 y5 y6 y7 y8 y9 y10 y11 y12 y13 y14)) ∧ (∀ y0 y1 y2 y3 y4 y5 y6 y7 y8 y9 y10 y11 y12 y13, LeO (plenumlaw36_OptimalCurves.j1 k y0 y1 y2 y3 y4 y5 y6 y7 y8 y9 y10 y11 y12 y13) (plenumlaw36_OptimalCurves.j1 (k + 1) y0 y1 y2 y3 y4 y5 y6 y7 y8 y9 y10 y11 y12 y13))
 | 0 => ⟨fun _ _ _ _ _ _ _ _ _ _ _ _ _ _ _ r h => by simp [plenumlaw36_OptimalCurves.j0] at h, fun _ _ _ _ _ _ _ _ _ _ _ _ _ _ r h => by simp [plenumlaw36_OptimalCurves.j1] at h⟩
 | k + 1 => by
  obtain ⟨ih0, ih1⟩ := plenumlaw36_OptimalCurves.mono_l k
  refine ⟨?_, ?_⟩
  ·
   intro y0 y1 y2 y3 y4 y5 y6 y7 y8 y9 y10 y11 y12 y13 y14
   unfold plenumlaw36_OptimalCurves.j0
   repeat' first
   | (with_reducible exact ih0 _ _ _ _ _ _ _ _ _ _ _ _ _ _ _)
   | (with_reducible exact ih1 _ _ _ _ _ _ _ _ _ _ _ _ _ _)
   | (with_reducible exact optimal_Curve.mono _ _ _ _ _ _ _ _ _ _)
   | (with_reducible exact optimal_Reach.mono _ _ _ _ _ _ _ _ _ _)
   | (with_reducible exact plenumref36_Check.mono _ _ _ _ _ _ _ _ _)
   | (with_reducible exact plenumref36_Curve.mono _ _ _ _ _ _ _ _ _ _)
   | (with_reducible exact plenumref36_Same.mono _ _ _)
   | (with_reducible exact LeO.refl _)
   | (with_reducible exact LeO.none _)
   | (with_reducible refine LeO.ite ?_ ?_)
   | (with_reducible refine LeO.bind ?_ (fun _ => ?_))
   | exact ih0 _ _ _ _ _ _ _ _ _ _ _ _ _ _ _
   | exact ih1 _ _ _ _ _ _ _ _ _ _ _ _ _ _
   | exact optimal_Curve.mono _ _ _ _ _ _ _ _ _ _
   | exact optimal_Reach.mono _ _ _ _ _ _ _ _ _ _
   | exact plenumref36_Check.mono _ _ _ _ _ _ _ _ _
   | exact plenumref36_Curve.mono _ _ _ _ _ _ _ _ _ _
   | exact plenumref36_Same.mono _ _ _
   | exact LeO.none _
   | refine LeO.ite ?_ ?_
   | refine LeO.bind ?_ (fun _ => ?_)
  ·
   intro y0 y1 y2 y3 y4 y5 y6 y7 y8 y9 y10 y11 y12 y13
   unfold plenumlaw36_OptimalCurves.j1
   repeat' first
   | (with_reducible exact ih0 _ _ _ _ _ _ _ _ _ _ _ _ _ _ _)
   | (with_reducible exact ih1 _ _ _ _ _ _ _ _ _ _ _ _ _ _)
   | (with_reducible exact optimal_Curve.mono _ _ _ _ _ _ _ _ _ _)
   | (with_reducible exact optimal_Reach.mono _ _ _ _ _ _ _ _ _ _)
   | (with_reducible exact plenumref36_Check.mono _ _ _ _ _ _ _ _ _)
   | (with_reducible exact plenumref36_Curve.mono _ _ _ _ _ _ _ _ _ _)
   | (with_reducible exact plenumref36_Same.mono _ _ _)
   | (with_reducible exact LeO.refl _)
   | (with_reducible exact LeO.none _)
   | (with_reducible refine LeO.ite ?_ ?_)
   | (with_reducible refine LeO.bind ?_ (fun _ => ?_))
   | exact ih0 _ _ _ _ _ _ _ _ _ _ _ _ _ _ _
   | exact ih1 _ _ _ _ _ _ _ _ _ _ _ _ _ _
   | exact optimal_Curve.mono _ _ _ _ _ _ _ _ _ _
   | exact optimal_Reach.mono _ _ _ _ _ _ _ _ _ _
   | exact plenumref36_Check.mono _ _ _ _ _ _ _ _ _
   | exact plenumref36_Curve.mono _ _ _ _ _ _ _ _ _ _
   | exact plenumref36_Same.mono _ _ _
   | exact LeO.none _
   | refine LeO.ite ?_ ?_
   | refine LeO.bind ?_ (fun _ => ?_)
theorem plenumlaw36_OptimalCurves.mono : ∀ a0 a1 a2 a3 a4 a5 a6 a7 a8 k, LeO (plenumlaw36_OptimalCurves.f k a0 a1 a2 a3 a4 a5 a6 a7 a8) (plenumlaw36_OptimalCurves.f (k + 1) a0 a1 a2 a3 a4 a5 a6 a7 a8) := by
 intro a0 a1 a2 a3 a4 a5 a6 a7 a8 k
 obtain ⟨ih0, ih1⟩ := plenumlaw36_OptimalCurves.mono_l k
 unfold plenumlaw36_OptimalCurves.f
 repeat' first
  | (with_reducible exact ih0 _ _ _ _ _ _ _ _ _ _ _ _ _ _ _)
  | (with_reducible exact ih1 _ _ _ _ _ _ _ _ _ _ _ _ _ _)
  | (with_reducible exact optimal_Curve.mono _ _ _ _ _ _ _ _ _ _)
  | (with_reducible exact optimal_Reach.mono _ _ _ _ _ _ _ _ _ _)
  | (with_reducible exact plenumref36_Check.mono _ _ _ _ _ _ _ _ _)
  | (with_reducible exact plenumref36_Curve.mono _ _ _ _ _ _ _ _ _ _)
  | (with_reducible exact plenumref36_Same.mono _ _ _)
  | (with_reducible exact LeO.refl _)
  | (with_reducible exact LeO.none _)
  | (with_reducible refine LeO.ite ?_ ?_)
  | (with_reducible refine LeO.bind ?_ (fun _ => ?_))
  | exact ih0 _ _ _ _ _ _ _ _ _ _ _ _ _ _ _
  | exact ih1 _ _ _ _ _ _ _ _ _ _ _ _ _ _
  | exact optimal_Curve.mono _ _ _ _ _ _ _ _ _ _
  | exact optimal_Reach.mono _ _ _ _ _ _ _ _ _ _
  | exact plenumref36_Check.mono _ _ _ _ _ _ _ _ _
  | exact plenumref36_Curve.mono _ _ _ _ _ _ _ _ _ _
  | exact plenumref36_Same.mono _ _ _
  | exact LeO.none _
  | refine LeO.ite ?_ ?_
  | refine LeO.bind ?_ (fun _ => ?_)
set_option maxHeartbeats 8000000 in
set_option maxRecDepth 100000 in
theorem plenumlaw36_OptimalCurves.calls (k : Nat) (a0_0 : Int) (a0_1 : Int) (a1_0 : Int) (a1_1 : Int) (a1_2 : Int) (a1_3 : Int) (a1_4 : Bool) (A2 : Option Addr) (c2 : Nat) (l2 : List Int) (a3 : Int) (r : Bool) (w : World) (hr2 : Kd.C (Kd.int .i64) w A2 l2.length l2) (hc2 : l2.length ≤ c2) (h : plenumlaw36_OptimalCurves.f k a0_0 a0_1 a1_0 a1_1 a1_2 a1_3 a1_4 l2 a3 = some r) :
 Calls Try.prog 5 #[.agg #[.int .i64 a0_0, .int .i64 a0_1], .agg #[.int .i64 a1_0, .int .i64 a1_1, .int .i64 a1_2, .int .i64 a1_3, .bool a1_4], .slice A2 l2.length c2, .int .i64 a3] w fun e w' => e = .returned (.bool r) ∧ Below w.heap.size w w' := by
 have hu23 := Try.underlying23
 have hu25 := Try.underlying25
 have HR2 := Aside0.mk hr2
 have HC2 := Aside0.mk hc2
 clear hr2 hc2
 have HB := Aside0.mk (Below.refl w.heap.size w)
 have H : ((plenumlaw36_few.f a1_0 a1_1 a1_2 a1_3 a1_4 l2).bind fun t287 => (if t287 = true then ((optimal_Curve.f k a0_0 a0_1 a1_0 a1_1 a1_2 a1_3 a1_4 l2 a3).bind fun bt289 => ((optimal_Reach.f k a0_0 a0_1 a1_0 a1_1 a1_2 a1_3 a1_4 l2 a3).bind fun bt293 => ((plenumref36_Check.f k a0_0 a0_1 a1_0 a1_1 a1_2 a1_3 a1_4 l2).bind fun t295 => (if t295 = 0 then (if a3 < a1_2 then (plenumlaw36_OptimalCurves.j0 k l2 a3 bt289.1 bt289.2 bt293.1 bt293.2 t295 true a0_0 a0_1 a1_0 a1_1 a1_2 a1_3 a1_4) else (plenumlaw36_OptimalCurves.j0 k l2 a3 bt289.1 bt289.2 bt293.1 bt293.2 t295 (decide (a3 > a1_3)) a0_0 a0_1 a1_0 a1_1 a1_2 a1_3 a1_4)) else (plenumlaw36_OptimalCurves.j0 k l2 a3 bt289.1 bt289.2 bt293.1 bt293.2 t295 false a0_0 a0_1 a1_0 a1_1 a1_2 a1_3 a1_4))))) else ((plenumlaw36_awake.f).bind fun t288 => (some t288)))) = some r := h
 clear h
 replace H := Option.bind_eq_some_iff.mp H
 obtain ⟨t287, A50, H⟩ := H
 replace H : (if t287 = true then ((optimal_Curve.f k a0_0 a0_1 a1_0 a1_1 a1_2 a1_3 a1_4 l2 a3).bind fun bt289 => ((optimal_Reach.f k a0_0 a0_1 a1_0 a1_1 a1_2 a1_3 a1_4 l2 a3).bind fun bt293 => ((plenumref36_Check.f k a0_0 a0_1 a1_0 a1_1 a1_2 a1_3 a1_4 l2).bind fun t295 => (if t295 = 0 then (if a3 < a1_2 then (plenumlaw36_OptimalCurves.j0 k l2 a3 bt289.1 bt289.2 bt293.1 bt293.2 t295 true a0_0 a0_1 a1_0 a1_1 a1_2 a1_3 a1_4) else (plenumlaw36_OptimalCurves.j0 k l2 a3 bt289.1 bt289.2 bt293.1 bt293.2 t295 (decide (a3 > a1_3)) a0_0 a0_1 a1_0 a1_1 a1_2 a1_3 a1_4)) else (plenumlaw36_OptimalCurves.j0 k l2 a3 bt289.1 bt289.2 bt293.1 bt293.2 t295 false a0_0 a0_1 a1_0 a1_1 a1_2 a1_3 a1_4))))) else ((plenumlaw36_awake.f).bind fun t288 => (some t288))) = some r := H
 have A5 := Aside0.mk A50
 clear A50
 by_cases c6 : t287 = true
 ·
  subst c6
  have H1 : ((optimal_Curve.f k a0_0 a0_1 a1_0 a1_1 a1_2 a1_3 a1_4 l2 a3).bind fun bt289 => ((optimal_Reach.f k a0_0 a0_1 a1_0 a1_1 a1_2 a1_3 a1_4 l2 a3).bind fun bt293 => ((plenumref36_Check.f k a0_0 a0_1 a1_0 a1_1 a1_2 a1_3 a1_4 l2).bind fun t295 => (if t295 = 0 then (if a3 < a1_2 then (plenumlaw36_OptimalCurves.j0 k l2 a3 bt289.1 bt289.2 bt293.1 bt293.2 t295 true a0_0 a0_1 a1_0 a1_1 a1_2 a1_3 a1_4) else (plenumlaw36_OptimalCurves.j0 k l2 a3 bt289.1 bt289.2 bt293.1 bt293.2 t295 (decide (a3 > a1_3)) a0_0 a0_1 a1_0 a1_1 a1_2 a1_3 a1_4)) else (plenumlaw36_OptimalCurves.j0 k l2 a3 bt289.1 bt289.2 bt293.1 bt293.2 t295 false a0_0 a0_1 a1_0 a1_1 a1_2 a1_3 a1_4))))) = some r := by rw [if_pos rfl] at H; exact H
  clear H
  have H := H1
  clear H1
  replace H := Option.bind_eq_some_iff.mp H
  obtain ⟨⟨t289, t292⟩, A70, H⟩ := H
  replace H : ((optimal_Reach.f k a0_0 a0_1 a1_0 a1_1 a1_2 a1_3 a1_4 l2 a3).bind fun bt293 => ((plenumref36_Check.f k a0_0 a0_1 a1_0 a1_1 a1_2 a1_3 a1_4 l2).bind fun t295 => (if t295 = 0 then (if a3 < a1_2 then (plenumlaw36_OptimalCurves.j0 k l2 a3 t289 t292 bt293.1 bt293.2 t295 true a0_0 a0_1 a1_0 a1_1 a1_2 a1_3 a1_4) else (plenumlaw36_OptimalCurves.j0 k l2 a3 t289 t292 bt293.1 bt293.2 t295 (decide (a3 > a1_3)) a0_0 a0_1 a1_0 a1_1 a1_2 a1_3 a1_4)) else (plenumlaw36_OptimalCurves.j0 k l2 a3 t289 t292 bt293.1 bt293.2 t295 false a0_0 a0_1 a1_0 a1_1 a1_2 a1_3 a1_4)))) = some r := H
  have A7 := Aside0.mk A70
  clear A70
  replace H := Option.bind_eq_some_iff.mp H
  obtain ⟨⟨t293, t294⟩, A80, H⟩ := H
  replace H : ((plenumref36_Check.f k a0_0 a0_1 a1_0 a1_1 a1_2 a1_3 a1_4 l2).bind fun t295 => (if t295 = 0 then (if a3 < a1_2 then (plenumlaw36_OptimalCurves.j0 k l2 a3 t289 t292 t293 t294 t295 true a0_0 a0_1 a1_0 a1_1 a1_2 a1_3 a1_4) else (plenumlaw36_OptimalCurves.j0 k l2 a3 t289 t292 t293 t294 t295 (decide (a3 > a1_3)) a0_0 a0_1 a1_0 a1_1 a1_2 a1_3 a1_4)) else (plenumlaw36_OptimalCurves.j0 k l2 a3 t289 t292 t293 t294 t295 false a0_0 a0_1 a1_0 a1_1 a1_2 a1_3 a1_4))) = some r := H
  have A8 := Aside0.mk A80
  clear A80
  replace H := Option.bind_eq_some_iff.mp H
  obtain ⟨t295, A90, H⟩ := H
  replace H : (if t295 = 0 then (if a3 < a1_2 then (plenumlaw36_OptimalCurves.j0 k l2 a3 t289 t292 t293 t294 t295 true a0_0 a0_1 a1_0 a1_1 a1_2 a1_3 a1_4) else (plenumlaw36_OptimalCurves.j0 k l2 a3 t289 t292 t293 t294 t295 (decide (a3 > a1_3)) a0_0 a0_1 a1_0 a1_1 a1_2 a1_3 a1_4)) else (plenumlaw36_OptimalCurves.j0 k l2 a3 t289 t292 t293 t294 t295 false a0_0 a0_1 a1_0 a1_1 a1_2 a1_3 a1_4)) = some r := H
  have A9 := Aside0.mk A90
  clear A90
  have HC10 := Aside0.mk H
  clear H
  go_enter Try.func5, Try.ntmps5
  go_upto_region 6 with (first | ((with_reducible refine gate_dst (N := 4) rfl ?_); (try (refine gate_guard (by rfl) ?_; dsimp only)); refine box_event ?hg (N := 4) ?hd (cs := #[.int .i64 a0_0, .int .i64 a0_1]) (t := 23) ?hr ?_; (case hd => rfl); (case hg => rfl); (case hr => first | (go_simp; done) | (go_simp; rfl)); intro gb285 hg w11 hbox hb; have n0_ := Aside0.mk (below_step (by repeat (first | (with_reducible first | exact HB.out | apply below_alloc | apply pw_below_drewN | apply below_drew1) | exact HB.out)) hb); have n1_ := Aside0.mk (hbox); have n2_ := Aside0.mk ((by rw [hg]; exact (below_size (by repeat (first | (with_reducible first | exact HB.out | apply below_alloc | apply pw_below_drewN | apply below_drew1) | exact HB.out))) : w.heap.size ≤ gb285)); have n3_ := Aside0.mk ((by rw [hg]; exact (below_size (by repeat (first | (with_reducible first | exact HB.out | apply below_alloc | apply pw_below_drewN | apply below_drew1) | exact HB.out))) : w.heap.size ≤ gb285)); clear HB; have HB := n0_; have BK285 := n1_; have GW285 := n2_; have GE285 := n3_; clear n0_ n1_ n2_ n3_; clear hb hbox hg) | ((with_reducible refine gate_dst (N := 5) rfl ?_); (try (refine gate_guard (by rfl) ?_; dsimp only)); refine box_event ?hg (N := 5) ?hd (cs := #[.int .i64 a1_0, .int .i64 a1_1, .int .i64 a1_2, .int .i64 a1_3, .bool a1_4]) (t := 25) ?hr ?_; (case hd => rfl); (case hg => rfl); (case hr => first | (go_simp; done) | (go_simp; rfl)); intro gb286 hg w12 hbox hb; have n0_ := Aside0.mk (blk_below (g := gb285) (o := .cells #[.int .i64 a0_0, .int .i64 a0_1] 23 (0, 0)) (by (with_reducible repeat (first | refine blk_drewN ?_ _ | refine blk_drew ?_ | refine blk_alloc ?_ _)); exact BK285.out) hb); have n1_ := Aside0.mk (below_step (by repeat (first | (with_reducible first | exact HB.out | apply below_alloc | apply pw_below_drewN | apply below_drew1 | refine below_set ?_ GE285.out) | exact HB.out)) hb); have n2_ := Aside0.mk (hbox); have n3_ := Aside0.mk ((by rw [hg]; exact (below_size (by repeat (first | (with_reducible first | exact HB.out | apply below_alloc | apply pw_below_drewN | apply below_drew1 | refine below_set ?_ GE285.out) | exact HB.out))) : w.heap.size ≤ gb286)); have n4_ := Aside0.mk ((by rw [hg]; exact (below_size (by repeat (first | (with_reducible first | exact HB.out | apply below_alloc | apply pw_below_drewN | apply below_drew1 | refine below_set ?_ GE285.out) | exact HB.out))) : w.heap.size ≤ gb286)); have n5_ := Aside0.mk ((by rw [hg]; exact Nat.ne_of_lt (blk_lt (g := gb285) (o := .cells #[.int .i64 a0_0, .int .i64 a0_1] 23 (0, 0)) (by (with_reducible repeat (first | refine blk_drewN ?_ _ | refine blk_drew ?_ | refine blk_alloc ?_ _)); exact BK285.out)) : gb285 ≠ gb286)); have n6_ := Aside0.mk ((by rw [hg]; exact Nat.ne_of_gt (blk_lt (g := gb285) (o := .cells #[.int .i64 a0_0, .int .i64 a0_1] 23 (0, 0)) (by (with_reducible repeat (first | refine blk_drewN ?_ _ | refine blk_drew ?_ | refine blk_alloc ?_ _)); exact BK285.out)) : gb286 ≠ gb285)); clear BK285; clear HB; have BK285 := n0_; have HB := n1_; have BK286 := n2_; have GW286 := n3_; have GE286 := n4_; have NB285_286 := n5_; have NB286_285 := n6_; clear n0_ n1_ n2_ n3_ n4_ n5_ n6_; clear hb hbox hg; have hnb13 := NB286_285.out; have hnc13 := NB285_286.out; have hcz14_0 : w12.cell? ⟨gb286, 0, none⟩ = some (.int .i64 a1_0) := (blk_cell BK286.out 0).trans rfl; have hcz14_1 : w12.cell? ⟨gb286, 1, none⟩ = some (.int .i64 a1_1) := (blk_cell BK286.out 1).trans rfl; have hcz14_2 : w12.cell? ⟨gb286, 2, none⟩ = some (.int .i64 a1_2) := (blk_cell BK286.out 2).trans rfl; have hcz14_3 : w12.cell? ⟨gb286, 3, none⟩ = some (.int .i64 a1_3) := (blk_cell BK286.out 3).trans rfl; have hcz14_4 : w12.cell? ⟨gb286, 4, none⟩ = some (.bool a1_4) := (blk_cell BK286.out 4).trans rfl; have hfz14_0 := blk_frozen BK286.out 0; have hfz14_1 := blk_frozen BK286.out 1; have hfz14_2 := blk_frozen BK286.out 2; have hfz14_3 := blk_frozen BK286.out 3; have hfz14_4 := blk_frozen BK286.out 4) | ((with_reducible refine gate_callee (f := 8) rfl ?_); refine goesL_ (some 17) rfl rfl Try.func8 (by kernel_rfl) rfl #[.agg #[.int .i64 a1_0, .int .i64 a1_1, .int .i64 a1_2, .int .i64 a1_3, .bool a1_4], .slice A2 l2.length c2] rfl (by (try simp only [List.map_toArray, List.map_cons, List.map_nil]); first | done | rfl | (simp only [List.length_drop, List.length_take]; rfl)) ?_; (with_reducible refine (plenumlaw36_few.calls a1_0 a1_1 a1_2 a1_3 a1_4 _ _ l2 true _ ?side1 ?side2 A5.out).mono ?_); (case side1 => repeat (first | exact (Kd.C_below HR2.out HB.out) | (with_reducible refine Kd.C_alloc ?_ _) | (with_reducible refine Kd.C_drewN ?_ _) | (with_reducible refine Kd.C_drew ?_))); (case side2 => exact HC2.out); rintro e w15 ⟨rfl, hb⟩; refine ⟨_, rfl, ?_⟩; have n0_ := Aside0.mk (blk_below (g := gb285) (o := .cells #[.int .i64 a0_0, .int .i64 a0_1] 23 (0, 0)) (by (with_reducible repeat (first | refine blk_drewN ?_ _ | refine blk_drew ?_ | refine blk_alloc ?_ _)); exact BK285.out) hb); have n1_ := Aside0.mk (blk_below (g := gb286) (o := .cells #[.int .i64 a1_0, .int .i64 a1_1, .int .i64 a1_2, .int .i64 a1_3, .bool a1_4] 25 (0, 0)) (by (with_reducible repeat (first | refine blk_drewN ?_ _ | refine blk_drew ?_ | refine blk_alloc ?_ _)); exact BK286.out) hb); have n2_ := Aside0.mk (below_step (by repeat (first | (with_reducible first | exact HB.out | apply below_alloc | apply pw_below_drewN | apply below_drew1 | refine below_set ?_ GE285.out | refine below_set ?_ GE286.out) | exact HB.out)) hb); clear BK285; clear BK286; clear HB; have BK285 := n0_; have BK286 := n1_; have HB := n2_; clear n0_ n1_ n2_; (try clear hb); (try clear hb2); (try clear hk); (try clear hi); have hcz16_0 : w15.cell? ⟨gb285, 0, none⟩ = some (.int .i64 a0_0) := (blk_cell BK285.out 0).trans rfl; have hcz16_1 : w15.cell? ⟨gb285, 1, none⟩ = some (.int .i64 a0_1) := (blk_cell BK285.out 1).trans rfl; have hfz16_0 := blk_frozen BK285.out 0; have hfz16_1 := blk_frozen BK285.out 1; have hcz17_0 : w15.cell? ⟨gb286, 0, none⟩ = some (.int .i64 a1_0) := (blk_cell BK286.out 0).trans rfl; have hcz17_1 : w15.cell? ⟨gb286, 1, none⟩ = some (.int .i64 a1_1) := (blk_cell BK286.out 1).trans rfl; have hcz17_2 : w15.cell? ⟨gb286, 2, none⟩ = some (.int .i64 a1_2) := (blk_cell BK286.out 2).trans rfl; have hcz17_3 : w15.cell? ⟨gb286, 3, none⟩ = some (.int .i64 a1_3) := (blk_cell BK286.out 3).trans rfl; have hcz17_4 : w15.cell? ⟨gb286, 4, none⟩ = some (.bool a1_4) := (blk_cell BK286.out 4).trans rfl; have hfz17_0 := blk_frozen BK286.out 0; have hfz17_1 := blk_frozen BK286.out 1; have hfz17_2 := blk_frozen BK286.out 2; have hfz17_3 := blk_frozen BK286.out 3; have hfz17_4 := blk_frozen BK286.out 4) | ((with_reducible refine gate_callee (f := 18) rfl ?_); refine goesL_ (some 25) rfl rfl Try.func18 (by kernel_rfl) rfl #[.agg #[.int .i64 a0_0, .int .i64 a0_1], .agg #[.int .i64 a1_0, .int .i64 a1_1, .int .i64 a1_2, .int .i64 a1_3, .bool a1_4], .slice A2 l2.length c2, .int .i64 a3] rfl (by (try simp only [List.map_toArray, List.map_cons, List.map_nil]); first | done | rfl | (simp only [List.length_drop, List.length_take]; rfl)) ?_; (with_reducible refine (optimal_Curve.calls k a0_0 a0_1 a1_0 a1_1 a1_2 a1_3 a1_4 _ _ l2 a3 t289 t292 _ ?side1 ?side2 A7.out).mono ?_); (case side1 => repeat (first | exact (Kd.C_below HR2.out HB.out) | (with_reducible refine Kd.C_alloc ?_ _) | (with_reducible refine Kd.C_drewN ?_ _) | (with_reducible refine Kd.C_drew ?_))); (case side2 => exact HC2.out); rintro e w18 ⟨v290, rfl, ho0, hb⟩; refine ⟨_, rfl, ?_⟩; have n0_ := Aside0.mk (Kd.R_lower ho0 (below_size (by repeat (first | (with_reducible first | exact HB.out | apply below_alloc | apply pw_below_drewN | apply below_drew1 | refine below_set ?_ GE285.out | refine below_set ?_ GE286.out) | exact HB.out)))); have n1_ := Aside0.mk (blk_below (g := gb285) (o := .cells #[.int .i64 a0_0, .int .i64 a0_1] 23 (0, 0)) (by (with_reducible repeat (first | refine blk_drewN ?_ _ | refine blk_drew ?_ | refine blk_alloc ?_ _)); exact BK285.out) hb); have n2_ := Aside0.mk (blk_below (g := gb286) (o := .cells #[.int .i64 a1_0, .int .i64 a1_1, .int .i64 a1_2, .int .i64 a1_3, .bool a1_4] 25 (0, 0)) (by (with_reducible repeat (first | refine blk_drewN ?_ _ | refine blk_drew ?_ | refine blk_alloc ?_ _)); exact BK286.out) hb); have n3_ := Aside0.mk (below_step (by repeat (first | (with_reducible first | exact HB.out | apply below_alloc | apply pw_below_drewN | apply below_drew1 | refine below_set ?_ GE285.out | refine below_set ?_ GE286.out) | exact HB.out)) hb); clear BK285; clear BK286; clear HB; have HO291 := n0_; have BK285 := n1_; have BK286 := n2_; have HB := n3_; clear n0_ n1_ n2_ n3_; (try clear hb); (try clear hb2); (try clear hk); (try clear hi); (try clear ho0); have hcz19_0 : w18.cell? ⟨gb285, 0, none⟩ = some (.int .i64 a0_0) := (blk_cell BK285.out 0).trans rfl; have hcz19_1 : w18.cell? ⟨gb285, 1, none⟩ = some (.int .i64 a0_1) := (blk_cell BK285.out 1).trans rfl; have hfz19_0 := blk_frozen BK285.out 0; have hfz19_1 := blk_frozen BK285.out 1; have hcz20_0 : w18.cell? ⟨gb286, 0, none⟩ = some (.int .i64 a1_0) := (blk_cell BK286.out 0).trans rfl; have hcz20_1 : w18.cell? ⟨gb286, 1, none⟩ = some (.int .i64 a1_1) := (blk_cell BK286.out 1).trans rfl; have hcz20_2 : w18.cell? ⟨gb286, 2, none⟩ = some (.int .i64 a1_2) := (blk_cell BK286.out 2).trans rfl; have hcz20_3 : w18.cell? ⟨gb286, 3, none⟩ = some (.int .i64 a1_3) := (blk_cell BK286.out 3).trans rfl; have hcz20_4 : w18.cell? ⟨gb286, 4, none⟩ = some (.bool a1_4) := (blk_cell BK286.out 4).trans rfl; have hfz20_0 := blk_frozen BK286.out 0; have hfz20_1 := blk_frozen BK286.out 1; have hfz20_2 := blk_frozen BK286.out 2; have hfz20_3 := blk_frozen BK286.out 3; have hfz20_4 := blk_frozen BK286.out 4) | ((with_reducible refine gate_callee (f := 11) rfl ?_); refine goesL_ (some 33) rfl rfl Try.func11 (by kernel_rfl) rfl #[.agg #[.int .i64 a0_0, .int .i64 a0_1], .agg #[.int .i64 a1_0, .int .i64 a1_1, .int .i64 a1_2, .int .i64 a1_3, .bool a1_4], .slice A2 l2.length c2, .int .i64 a3] rfl (by (try simp only [List.map_toArray, List.map_cons, List.map_nil]); first | done | rfl | (simp only [List.length_drop, List.length_take]; rfl)) ?_; (with_reducible refine (optimal_Reach.calls k a0_0 a0_1 a1_0 a1_1 a1_2 a1_3 a1_4 _ _ l2 a3 t293 t294 _ ?side1 ?side2 A8.out).mono ?_); (case side1 => repeat (first | exact (Kd.C_below HR2.out HB.out) | (with_reducible refine Kd.C_alloc ?_ _) | (with_reducible refine Kd.C_drewN ?_ _) | (with_reducible refine Kd.C_drew ?_))); (case side2 => exact HC2.out); rintro e w21 ⟨rfl, hb⟩; refine ⟨_, rfl, ?_⟩; have n0_ := Aside0.mk (Kd.R_below (by (with_reducible repeat (first | apply Kd.R_alloc | apply Kd.R_drewN | apply Kd.R_drew)); exact HO291.out) hb); have n1_ := Aside0.mk (blk_below (g := gb285) (o := .cells #[.int .i64 a0_0, .int .i64 a0_1] 23 (0, 0)) (by (with_reducible repeat (first | refine blk_drewN ?_ _ | refine blk_drew ?_ | refine blk_alloc ?_ _)); exact BK285.out) hb); have n2_ := Aside0.mk (blk_below (g := gb286) (o := .cells #[.int .i64 a1_0, .int .i64 a1_1, .int .i64 a1_2, .int .i64 a1_3, .bool a1_4] 25 (0, 0)) (by (with_reducible repeat (first | refine blk_drewN ?_ _ | refine blk_drew ?_ | refine blk_alloc ?_ _)); exact BK286.out) hb); have n3_ := Aside0.mk (below_step (by repeat (first | (with_reducible first | exact HB.out | apply below_alloc | apply pw_below_drewN | apply below_drew1 | refine below_set ?_ GE285.out | refine below_set ?_ GE286.out) | exact HB.out)) hb); clear HO291; clear BK285; clear BK286; clear HB; have HO291 := n0_; have BK285 := n1_; have BK286 := n2_; have HB := n3_; clear n0_ n1_ n2_ n3_; (try clear hb); (try clear hb2); (try clear hk); (try clear hi); have hcz22_0 : w21.cell? ⟨gb285, 0, none⟩ = some (.int .i64 a0_0) := (blk_cell BK285.out 0).trans rfl; have hcz22_1 : w21.cell? ⟨gb285, 1, none⟩ = some (.int .i64 a0_1) := (blk_cell BK285.out 1).trans rfl; have hfz22_0 := blk_frozen BK285.out 0; have hfz22_1 := blk_frozen BK285.out 1; have hcz23_0 : w21.cell? ⟨gb286, 0, none⟩ = some (.int .i64 a1_0) := (blk_cell BK286.out 0).trans rfl; have hcz23_1 : w21.cell? ⟨gb286, 1, none⟩ = some (.int .i64 a1_1) := (blk_cell BK286.out 1).trans rfl; have hcz23_2 : w21.cell? ⟨gb286, 2, none⟩ = some (.int .i64 a1_2) := (blk_cell BK286.out 2).trans rfl; have hcz23_3 : w21.cell? ⟨gb286, 3, none⟩ = some (.int .i64 a1_3) := (blk_cell BK286.out 3).trans rfl; have hcz23_4 : w21.cell? ⟨gb286, 4, none⟩ = some (.bool a1_4) := (blk_cell BK286.out 4).trans rfl; have hfz23_0 := blk_frozen BK286.out 0; have hfz23_1 := blk_frozen BK286.out 1; have hfz23_2 := blk_frozen BK286.out 2; have hfz23_3 := blk_frozen BK286.out 3; have hfz23_4 := blk_frozen BK286.out 4) | ((with_reducible refine gate_callee (f := 19) rfl ?_); refine goesL_ (some 39) rfl rfl Try.func19 (by kernel_rfl) rfl #[.agg #[.int .i64 a0_0, .int .i64 a0_1], .agg #[.int .i64 a1_0, .int .i64 a1_1, .int .i64 a1_2, .int .i64 a1_3, .bool a1_4], .slice A2 l2.length c2] rfl (by (try simp only [List.map_toArray, List.map_cons, List.map_nil]); first | done | rfl | (simp only [List.length_drop, List.length_take]; rfl)) ?_; (with_reducible refine (plenumref36_Check.calls k a0_0 a0_1 a1_0 a1_1 a1_2 a1_3 a1_4 _ _ l2 t295 _ ?side1 ?side2 A9.out).mono ?_); (case side1 => repeat (first | exact (Kd.C_below HR2.out HB.out) | (with_reducible refine Kd.C_alloc ?_ _) | (with_reducible refine Kd.C_drewN ?_ _) | (with_reducible refine Kd.C_drew ?_))); (case side2 => exact HC2.out); rintro e w24 ⟨rfl, hb⟩; refine ⟨_, rfl, ?_⟩; have n0_ := Aside0.mk (Kd.R_below (by (with_reducible repeat (first | apply Kd.R_alloc | apply Kd.R_drewN | apply Kd.R_drew)); exact HO291.out) hb); have n1_ := Aside0.mk (blk_below (g := gb285) (o := .cells #[.int .i64 a0_0, .int .i64 a0_1] 23 (0, 0)) (by (with_reducible repeat (first | refine blk_drewN ?_ _ | refine blk_drew ?_ | refine blk_alloc ?_ _)); exact BK285.out) hb); have n2_ := Aside0.mk (blk_below (g := gb286) (o := .cells #[.int .i64 a1_0, .int .i64 a1_1, .int .i64 a1_2, .int .i64 a1_3, .bool a1_4] 25 (0, 0)) (by (with_reducible repeat (first | refine blk_drewN ?_ _ | refine blk_drew ?_ | refine blk_alloc ?_ _)); exact BK286.out) hb); have n3_ := Aside0.mk (below_step (by repeat (first | (with_reducible first | exact HB.out | apply below_alloc | apply pw_below_drewN | apply below_drew1 | refine below_set ?_ GE285.out | refine below_set ?_ GE286.out) | exact HB.out)) hb); clear HO291; clear BK285; clear BK286; clear HB; have HO291 := n0_; have BK285 := n1_; have BK286 := n2_; have HB := n3_; clear n0_ n1_ n2_ n3_; (try clear hb); (try clear hb2); (try clear hk); (try clear hi)))
  (try simp only [Act.put, List.setIfInBounds_toArray, List.set_cons_zero, List.set_cons_succ])
  go_cut [53] (fun v53 wc => ∃ (kq : Nat) (x53_9 : Bool), v53 = .bool x53_9 ∧ Aside0 (plenumlaw36_OptimalCurves.j0 kq l2 a3 t289 t292 t293 t294 t295 x53_9 a0_0 a0_1 a1_0 a1_1 a1_2 a1_3 a1_4 = some r) ∧ Aside0 (kq ≤ k) ∧ Aside0 (Kd.R (Kd.int .i64) 2 wc w.heap.size (fun _ => True) v290 t289) ∧ Aside0 (wc.heap[gb285]? = some (.cells #[.int .i64 a0_0, .int .i64 a0_1] 23 (0, 0))) ∧ Aside0 (wc.heap[gb286]? = some (.cells #[.int .i64 a1_0, .int .i64 a1_1, .int .i64 a1_2, .int .i64 a1_3, .bool a1_4] 25 (0, 0))) ∧ Aside0 (Below w.heap.size w wc))
  case first =>
   have H := HC10.out
   clear HC10
   by_cases c25 : t295 = 0
   ·
    rw [if_pos c25] at H
    have c25b0 : (t295 == 0) = true := beq_iff_eq.mpr c25
    have c25b1 : (t295 != 0) = false := bne_eq_false_iff_eq.mpr c25
    clear c25
    (first | rw [c25b0] | (simp only [i64_w, i32_w]; rw [c25b0]) | skip)
    by_cases c26 : a3 < a1_2
    ·
     rw [if_pos c26] at H
     have c26b0 : decide (a3 < a1_2) = true := decide_eq_true c26
     clear c26
     have H' := Aside0.mk H
     clear H
     have hnb27 := NB286_285.out
     have hnc27 := NB285_286.out
     have hcz28_0 : w24.cell? ⟨gb286, 0, none⟩ = some (.int .i64 a1_0) := (blk_cell BK286.out 0).trans rfl
     have hcz28_1 : w24.cell? ⟨gb286, 1, none⟩ = some (.int .i64 a1_1) := (blk_cell BK286.out 1).trans rfl
     have hcz28_2 : w24.cell? ⟨gb286, 2, none⟩ = some (.int .i64 a1_2) := (blk_cell BK286.out 2).trans rfl
     have hcz28_3 : w24.cell? ⟨gb286, 3, none⟩ = some (.int .i64 a1_3) := (blk_cell BK286.out 3).trans rfl
     have hcz28_4 : w24.cell? ⟨gb286, 4, none⟩ = some (.bool a1_4) := (blk_cell BK286.out 4).trans rfl
     have hfz28_0 := blk_frozen BK286.out 0
     have hfz28_1 := blk_frozen BK286.out 1
     have hfz28_2 := blk_frozen BK286.out 2
     have hfz28_3 := blk_frozen BK286.out 3
     have hfz28_4 := blk_frozen BK286.out 4
     go_wp2
     go_meet
     case rel => exact ⟨_, (true), (by first | rfl | (simp; done) | (simp [*]; done)), H', ⟨by first | omega | exact Nat.le_refl _⟩, ⟨by (with_reducible repeat (first | apply Kd.R_alloc | apply Kd.R_drewN | apply Kd.R_drew)); exact HO291.out⟩, ⟨by (with_reducible repeat (first | refine blk_drewN ?_ _ | refine blk_drew ?_ | refine blk_alloc ?_ _)); exact BK285.out⟩, ⟨by (with_reducible repeat (first | refine blk_drewN ?_ _ | refine blk_drew ?_ | refine blk_alloc ?_ _)); exact BK286.out⟩, ⟨by repeat (first | (with_reducible first | exact HB.out | apply below_alloc | apply pw_below_drewN | apply below_drew1 | refine below_set ?_ GE285.out | refine below_set ?_ GE286.out) | exact HB.out)⟩⟩
    ·
     rw [if_neg c26] at H
     have c26b0 : decide (a3 < a1_2) = false := decide_eq_false c26
     clear c26
     have H' := Aside0.mk H
     clear H
     have hnb29 := NB286_285.out
     have hnc29 := NB285_286.out
     have hcz30_0 : w24.cell? ⟨gb286, 0, none⟩ = some (.int .i64 a1_0) := (blk_cell BK286.out 0).trans rfl
     have hcz30_1 : w24.cell? ⟨gb286, 1, none⟩ = some (.int .i64 a1_1) := (blk_cell BK286.out 1).trans rfl
     have hcz30_2 : w24.cell? ⟨gb286, 2, none⟩ = some (.int .i64 a1_2) := (blk_cell BK286.out 2).trans rfl
     have hcz30_3 : w24.cell? ⟨gb286, 3, none⟩ = some (.int .i64 a1_3) := (blk_cell BK286.out 3).trans rfl
     have hcz30_4 : w24.cell? ⟨gb286, 4, none⟩ = some (.bool a1_4) := (blk_cell BK286.out 4).trans rfl
     have hfz30_0 := blk_frozen BK286.out 0
     have hfz30_1 := blk_frozen BK286.out 1
     have hfz30_2 := blk_frozen BK286.out 2
     have hfz30_3 := blk_frozen BK286.out 3
     have hfz30_4 := blk_frozen BK286.out 4
     go_wp2
     go_meet
     case rel => exact ⟨_, (decide (a3 > a1_3)), (by first | rfl | (simp; done) | (simp [*]; done)), H', ⟨by first | omega | exact Nat.le_refl _⟩, ⟨by (with_reducible repeat (first | apply Kd.R_alloc | apply Kd.R_drewN | apply Kd.R_drew)); exact HO291.out⟩, ⟨by (with_reducible repeat (first | refine blk_drewN ?_ _ | refine blk_drew ?_ | refine blk_alloc ?_ _)); exact BK285.out⟩, ⟨by (with_reducible repeat (first | refine blk_drewN ?_ _ | refine blk_drew ?_ | refine blk_alloc ?_ _)); exact BK286.out⟩, ⟨by repeat (first | (with_reducible first | exact HB.out | apply below_alloc | apply pw_below_drewN | apply below_drew1 | refine below_set ?_ GE285.out | refine below_set ?_ GE286.out) | exact HB.out)⟩⟩
   ·
    rw [if_neg c25] at H
    have c25b0 : (t295 == 0) = false := beq_eq_false_iff_ne.mpr c25
    have c25b1 : (t295 != 0) = true := bne_iff_ne.mpr c25
    (first | rw [c25b0] | (simp only [i64_w, i32_w]; rw [c25b0]) | skip)
    have H' := Aside0.mk H
    clear H
    go_wp2
    go_meet
    case rel => exact ⟨_, (false), (by first | rfl | (simp; done) | (simp [*]; done)), H', ⟨by first | omega | exact Nat.le_refl _⟩, ⟨by (with_reducible repeat (first | apply Kd.R_alloc | apply Kd.R_drewN | apply Kd.R_drew)); exact HO291.out⟩, ⟨by (with_reducible repeat (first | refine blk_drewN ?_ _ | refine blk_drew ?_ | refine blk_alloc ?_ _)); exact BK285.out⟩, ⟨by (with_reducible repeat (first | refine blk_drewN ?_ _ | refine blk_drew ?_ | refine blk_alloc ?_ _)); exact BK286.out⟩, ⟨by repeat (first | (with_reducible first | exact HB.out | apply below_alloc | apply pw_below_drewN | apply below_drew1 | refine below_set ?_ GE285.out | refine below_set ?_ GE286.out) | exact HB.out)⟩⟩
  case rest =>
   clear HC10
   try clear c1
   try clear c2
   try clear p2
   try clear c5
   try clear c6
   try clear c8
   try clear c11
   try clear c13
   try clear c18
   try clear c19
   try clear c25
   try clear c25b0
   try clear c25b1
   try clear c26
   try clear c26b0
   try clear c27
   try clear c29
   try clear hcz14_0
   try clear hcz14_1
   try clear hcz14_2
   try clear hcz14_3
   try clear hcz14_4
   try clear hcz16_0
   try clear hcz16_1
   try clear hcz17_0
   try clear hcz17_1
   try clear hcz17_2
   try clear hcz17_3
   try clear hcz17_4
   try clear hcz19_0
   try clear hcz19_1
   try clear hcz20_0
   try clear hcz20_1
   try clear hcz20_2
   try clear hcz20_3
   try clear hcz20_4
   try clear hcz22_0
   try clear hcz22_1
   try clear hcz23_0
   try clear hcz23_1
   try clear hcz23_2
   try clear hcz23_3
   try clear hcz23_4
   try clear hcz28_0
   try clear hcz28_1
   try clear hcz28_2
   try clear hcz28_3
   try clear hcz28_4
   try clear hcz30_0
   try clear hcz30_1
   try clear hcz30_2
   try clear hcz30_3
   try clear hcz30_4
   try clear hfz14_0
   try clear hfz14_1
   try clear hfz14_2
   try clear hfz14_3
   try clear hfz14_4
   try clear hfz16_0
   try clear hfz16_1
   try clear hfz17_0
   try clear hfz17_1
   try clear hfz17_2
   try clear hfz17_3
   try clear hfz17_4
   try clear hfz19_0
   try clear hfz19_1
   try clear hfz20_0
   try clear hfz20_1
   try clear hfz20_2
   try clear hfz20_3
   try clear hfz20_4
   try clear hfz22_0
   try clear hfz22_1
   try clear hfz23_0
   try clear hfz23_1
   try clear hfz23_2
   try clear hfz23_3
   try clear hfz23_4
   try clear hfz28_0
   try clear hfz28_1
   try clear hfz28_2
   try clear hfz28_3
   try clear hfz28_4
   try clear hfz30_0
   try clear hfz30_1
   try clear hfz30_2
   try clear hfz30_3
   try clear hfz30_4
   obtain ⟨kq, x53_9, rfl, HA, HJ9, HO_9, BK285, BK286, HB⟩ := hcut
   cases kq with
   | zero => exact absurd HA.out (by simp [plenumlaw36_OptimalCurves.j0])
   | succ kj9 =>
    have H := HA.out
    clear HA
    simp only [plenumlaw36_OptimalCurves.j0] at H
    have HC31 := Aside0.mk H
    clear H
    go_upto_if 53 with (fail)
    go_cut [13] (fun v13 wc => ∃ (kq : Nat) (x13_30 : Int), v13 = .int .i64 x13_30 ∧ Aside0 (plenumlaw36_OptimalCurves.j1 kq l2 a3 t289 t292 t293 t294 x13_30 a0_0 a0_1 a1_0 a1_1 a1_2 a1_3 a1_4 = some r) ∧ Aside0 (kq ≤ kj9) ∧ Aside0 (Kd.R (Kd.int .i64) 2 wc w.heap.size (fun _ => True) v290 t289) ∧ Aside0 (wc.heap[gb285]? = some (.cells #[.int .i64 a0_0, .int .i64 a0_1] 23 (0, 0))) ∧ Aside0 (wc.heap[gb286]? = some (.cells #[.int .i64 a1_0, .int .i64 a1_1, .int .i64 a1_2, .int .i64 a1_3, .bool a1_4] 25 (0, 0))) ∧ Aside0 (Below w.heap.size w wc))
    case first =>
     have H := HC31.out
     clear HC31
     by_cases c32 : x53_9 = true
     ·
      subst c32
      have H1 : (plenumlaw36_OptimalCurves.j1 kj9 l2 a3 t289 t292 t293 t294 1 a0_0 a0_1 a1_0 a1_1 a1_2 a1_3 a1_4) = some r := by rw [if_pos rfl] at H; exact H
      clear H
      have H := H1
      clear H1
      have H' := Aside0.mk H
      clear H
      go_wp2
      go_meet
      case rel => exact ⟨_, (1), (by first | rfl | (simp; done) | (simp [*]; done)), H', ⟨by have := HJ9.out; first | omega | exact Nat.le_refl _⟩, ⟨by (with_reducible repeat (first | apply Kd.R_alloc | apply Kd.R_drewN | apply Kd.R_drew)); exact HO_9.out⟩, ⟨by (with_reducible repeat (first | refine blk_drewN ?_ _ | refine blk_drew ?_ | refine blk_alloc ?_ _)); exact BK285.out⟩, ⟨by (with_reducible repeat (first | refine blk_drewN ?_ _ | refine blk_drew ?_ | refine blk_alloc ?_ _)); exact BK286.out⟩, ⟨by repeat (first | (with_reducible first | exact HB.out | apply below_alloc | apply pw_below_drewN | apply below_drew1 | refine below_set ?_ GE285.out | refine below_set ?_ GE286.out) | exact HB.out)⟩⟩
     ·
      replace c32 := Bool.eq_false_iff.mpr c32
      subst c32
      have H1 : (plenumlaw36_OptimalCurves.j1 kj9 l2 a3 t289 t292 t293 t294 t295 a0_0 a0_1 a1_0 a1_1 a1_2 a1_3 a1_4) = some r := by rw [if_neg (show ¬ (false = true) by decide)] at H; exact H
      clear H
      have H := H1
      clear H1
      have H' := Aside0.mk H
      clear H
      go_wp2
      go_meet
      case rel => exact ⟨_, (t295), (by first | rfl | (simp; done) | (simp [*]; done)), H', ⟨by have := HJ9.out; first | omega | exact Nat.le_refl _⟩, ⟨by (with_reducible repeat (first | apply Kd.R_alloc | apply Kd.R_drewN | apply Kd.R_drew)); exact HO_9.out⟩, ⟨by (with_reducible repeat (first | refine blk_drewN ?_ _ | refine blk_drew ?_ | refine blk_alloc ?_ _)); exact BK285.out⟩, ⟨by (with_reducible repeat (first | refine blk_drewN ?_ _ | refine blk_drew ?_ | refine blk_alloc ?_ _)); exact BK286.out⟩, ⟨by repeat (first | (with_reducible first | exact HB.out | apply below_alloc | apply pw_below_drewN | apply below_drew1 | refine below_set ?_ GE285.out | refine below_set ?_ GE286.out) | exact HB.out)⟩⟩
    case rest =>
     clear HC31
     try clear c1
     try clear c2
     try clear p2
     try clear c3
     try clear c5
     try clear c6
     try clear c8
     try clear c11
     try clear c13
     try clear c18
     try clear c19
     try clear c25
     try clear c25b0
     try clear c25b1
     try clear c26
     try clear c26b0
     try clear c27
     try clear c29
     try clear c32
     try clear hcz14_0
     try clear hcz14_1
     try clear hcz14_2
     try clear hcz14_3
     try clear hcz14_4
     try clear hcz16_0
     try clear hcz16_1
     try clear hcz17_0
     try clear hcz17_1
     try clear hcz17_2
     try clear hcz17_3
     try clear hcz17_4
     try clear hcz19_0
     try clear hcz19_1
     try clear hcz20_0
     try clear hcz20_1
     try clear hcz20_2
     try clear hcz20_3
     try clear hcz20_4
     try clear hcz22_0
     try clear hcz22_1
     try clear hcz23_0
     try clear hcz23_1
     try clear hcz23_2
     try clear hcz23_3
     try clear hcz23_4
     try clear hcz28_0
     try clear hcz28_1
     try clear hcz28_2
     try clear hcz28_3
     try clear hcz28_4
     try clear hcz30_0
     try clear hcz30_1
     try clear hcz30_2
     try clear hcz30_3
     try clear hcz30_4
     try clear hfz14_0
     try clear hfz14_1
     try clear hfz14_2
     try clear hfz14_3
     try clear hfz14_4
     try clear hfz16_0
     try clear hfz16_1
     try clear hfz17_0
     try clear hfz17_1
     try clear hfz17_2
     try clear hfz17_3
     try clear hfz17_4
     try clear hfz19_0
     try clear hfz19_1
     try clear hfz20_0
     try clear hfz20_1
     try clear hfz20_2
     try clear hfz20_3
     try clear hfz20_4
     try clear hfz22_0
     try clear hfz22_1
     try clear hfz23_0
     try clear hfz23_1
     try clear hfz23_2
     try clear hfz23_3
     try clear hfz23_4
     try clear hfz28_0
     try clear hfz28_1
     try clear hfz28_2
     try clear hfz28_3
     try clear hfz28_4
     try clear hfz30_0
     try clear hfz30_1
     try clear hfz30_2
     try clear hfz30_3
     try clear hfz30_4
     try clear p2
     obtain ⟨kq, x13_30, rfl, HA, HJ30, HO_9, BK285, BK286, HB⟩ := hcut
     cases kq with
     | zero => exact absurd HA.out (by simp [plenumlaw36_OptimalCurves.j1])
     | succ kj30 =>
      have H := HA.out
      clear HA
      simp only [plenumlaw36_OptimalCurves.j1] at H
      by_cases c33 : x13_30 = 0
      ·
       rw [if_pos c33] at H
       have c33b0 : (x13_30 == 0) = true := beq_iff_eq.mpr c33
       have c33b1 : (x13_30 != 0) = false := bne_eq_false_iff_eq.mpr c33
       clear c33
       replace H := Option.bind_eq_some_iff.mp H
       obtain ⟨t296, A340, H⟩ := H
       replace H : ((plenumlaw36_awake.f).bind fun t299 => (if t299 = true then (if t292 = 0 then (if t294 = 0 then ((plenumref36_Same.f kj30 t289 t296).bind fun t300 => (if t300 = true then (if 0 ≤ (wrap64 ((t296.length : Int) - 1)) then (if (wrap64 ((t296.length : Int) - 1)) < (t296.length : Int) then (some (t293 == (rd t296 (wrap64 ((t296.length : Int) - 1))))) else (none)) else (none)) else (some false))) else (some false)) else (some false)) else (some false))) = some r := H
       have A34 := Aside0.mk A340
       clear A340
       replace H := Option.bind_eq_some_iff.mp H
       obtain ⟨t299, A350, H⟩ := H
       replace H : (if t299 = true then (if t292 = 0 then (if t294 = 0 then ((plenumref36_Same.f kj30 t289 t296).bind fun t300 => (if t300 = true then (if 0 ≤ (wrap64 ((t296.length : Int) - 1)) then (if (wrap64 ((t296.length : Int) - 1)) < (t296.length : Int) then (some (t293 == (rd t296 (wrap64 ((t296.length : Int) - 1))))) else (none)) else (none)) else (some false))) else (some false)) else (some false)) else (some false)) = some r := H
       have A35 := Aside0.mk A350
       clear A350
       by_cases c36 : t299 = true
       ·
        subst c36
        have H1 : (if t292 = 0 then (if t294 = 0 then ((plenumref36_Same.f kj30 t289 t296).bind fun t300 => (if t300 = true then (if 0 ≤ (wrap64 ((t296.length : Int) - 1)) then (if (wrap64 ((t296.length : Int) - 1)) < (t296.length : Int) then (some (t293 == (rd t296 (wrap64 ((t296.length : Int) - 1))))) else (none)) else (none)) else (some false))) else (some false)) else (some false)) = some r := by rw [if_pos rfl] at H; exact H
        clear H
        have H := H1
        clear H1
        by_cases c37 : t292 = 0
        ·
         rw [if_pos c37] at H
         have c37b0 : (t292 == 0) = true := beq_iff_eq.mpr c37
         have c37b1 : (t292 != 0) = false := bne_eq_false_iff_eq.mpr c37
         clear c37
         by_cases c38 : t294 = 0
         ·
          rw [if_pos c38] at H
          have c38b0 : (t294 == 0) = true := beq_iff_eq.mpr c38
          have c38b1 : (t294 != 0) = false := bne_eq_false_iff_eq.mpr c38
          clear c38
          replace H := Option.bind_eq_some_iff.mp H
          obtain ⟨t300, A390, H⟩ := H
          replace H : (if t300 = true then (if 0 ≤ (wrap64 ((t296.length : Int) - 1)) then (if (wrap64 ((t296.length : Int) - 1)) < (t296.length : Int) then (some (t293 == (rd t296 (wrap64 ((t296.length : Int) - 1))))) else (none)) else (none)) else (some false)) = some r := H
          have A39 := Aside0.mk A390
          clear A390
          by_cases c40 : t300 = true
          ·
           subst c40
           have H1 : (if 0 ≤ (wrap64 ((t296.length : Int) - 1)) then (if (wrap64 ((t296.length : Int) - 1)) < (t296.length : Int) then (some (t293 == (rd t296 (wrap64 ((t296.length : Int) - 1))))) else (none)) else (none)) = some r := by rw [if_pos rfl] at H; exact H
           clear H
           have H := H1
           clear H1
           obtain ⟨ji41, hji41⟩ : ∃ j_ : Int, (wrap64 ((t296.length : Int) - 1)) = j_ := ⟨_, rfl⟩
           replace H : (if 0 ≤ (ji41) then (if (ji41) < (t296.length : Int) then (some (t293 == (rd t296 (ji41)))) else (none)) else (none)) = some r := by first | (rw [hji41] at H; exact H) | (simp only [hji41] at H ⊢; exact H)
           (try rw [hji41] at A34)
           (try rw [hji41] at A35)
           (try rw [hji41] at A39)
           have hji41w : (IntKind.i64.wrap ((t296.length : Int) - 1)) = ji41 := (i64_w _).trans hji41
           by_cases c42 : 0 ≤ (ji41)
           ·
            rw [if_pos c42] at H
            have c42b0 : decide (0 ≤ (ji41)) = true := decide_eq_true c42
            clear c42
            by_cases c43 : (ji41) < (t296.length : Int)
            ·
             rw [if_pos c43] at H
             have c43b0 : decide ((ji41) < (t296.length : Int)) = true := decide_eq_true c43
             clear c43
             obtain rfl := Option.some.inj H
             have hnb44 := NB285_286.out
             have hnc44 := NB286_285.out
             have hcz45_0 : wc.cell? ⟨gb285, 0, none⟩ = some (.int .i64 a0_0) := (blk_cell BK285.out 0).trans rfl
             have hcz45_1 : wc.cell? ⟨gb285, 1, none⟩ = some (.int .i64 a0_1) := (blk_cell BK285.out 1).trans rfl
             have hfz45_0 := blk_frozen BK285.out 0
             have hfz45_1 := blk_frozen BK285.out 1
             have hcz46_0 : wc.cell? ⟨gb286, 0, none⟩ = some (.int .i64 a1_0) := (blk_cell BK286.out 0).trans rfl
             have hcz46_1 : wc.cell? ⟨gb286, 1, none⟩ = some (.int .i64 a1_1) := (blk_cell BK286.out 1).trans rfl
             have hcz46_2 : wc.cell? ⟨gb286, 2, none⟩ = some (.int .i64 a1_2) := (blk_cell BK286.out 2).trans rfl
             have hcz46_3 : wc.cell? ⟨gb286, 3, none⟩ = some (.int .i64 a1_3) := (blk_cell BK286.out 3).trans rfl
             have hcz46_4 : wc.cell? ⟨gb286, 4, none⟩ = some (.bool a1_4) := (blk_cell BK286.out 4).trans rfl
             have hfz46_0 := blk_frozen BK286.out 0
             have hfz46_1 := blk_frozen BK286.out 1
             have hfz46_2 := blk_frozen BK286.out 2
             have hfz46_3 := blk_frozen BK286.out 3
             have hfz46_4 := blk_frozen BK286.out 4
             go_wp2_with (first | ((with_reducible refine gate_callee (f := 20) rfl ?_); refine goesL_ (some 80) rfl rfl Try.func20 (by kernel_rfl) rfl #[.agg #[.int .i64 a0_0, .int .i64 a0_1], .agg #[.int .i64 a1_0, .int .i64 a1_1, .int .i64 a1_2, .int .i64 a1_3, .bool a1_4], .slice A2 l2.length c2, .int .i64 a3] rfl (by (try simp only [List.map_toArray, List.map_cons, List.map_nil]); first | done | rfl | (simp only [List.length_drop, List.length_take]; rfl)) ?_; (with_reducible refine (plenumref36_Curve.calls kj30 a0_0 a0_1 a1_0 a1_1 a1_2 a1_3 a1_4 _ _ l2 a3 t296 _ ?side1 ?side2 A34.out).mono ?_); (case side1 => repeat (first | exact (Kd.C_below HR2.out HB.out) | (with_reducible refine Kd.C_alloc ?_ _) | (with_reducible refine Kd.C_drewN ?_ _) | (with_reducible refine Kd.C_drew ?_))); (case side2 => exact HC2.out); rintro e w47 ⟨v297, rfl, ho0, hb⟩; refine ⟨_, rfl, ?_⟩; have n0_ := Aside0.mk (Kd.R_elder' (by (with_reducible repeat (first | apply Kd.R_alloc | apply Kd.R_drewN | apply Kd.R_drew)); exact HO_9.out) (Kd.R_base ho0) hb); have n1_ := Aside0.mk (Kd.R_lower (Kd.R_new' ho0 (Kd.R_lt (by (with_reducible repeat (first | apply Kd.R_alloc | apply Kd.R_drewN | apply Kd.R_drew)); exact HO_9.out))) (below_size (by repeat (first | (with_reducible first | exact HB.out | apply below_alloc | apply pw_below_drewN | apply below_drew1 | refine below_set ?_ GE285.out | refine below_set ?_ GE286.out) | exact HB.out)))); have n2_ := Aside0.mk (blk_below (g := gb285) (o := .cells #[.int .i64 a0_0, .int .i64 a0_1] 23 (0, 0)) (by (with_reducible repeat (first | refine blk_drewN ?_ _ | refine blk_drew ?_ | refine blk_alloc ?_ _)); exact BK285.out) hb); have n3_ := Aside0.mk (blk_below (g := gb286) (o := .cells #[.int .i64 a1_0, .int .i64 a1_1, .int .i64 a1_2, .int .i64 a1_3, .bool a1_4] 25 (0, 0)) (by (with_reducible repeat (first | refine blk_drewN ?_ _ | refine blk_drew ?_ | refine blk_alloc ?_ _)); exact BK286.out) hb); have n4_ := Aside0.mk (below_step (by repeat (first | (with_reducible first | exact HB.out | apply below_alloc | apply pw_below_drewN | apply below_drew1 | refine below_set ?_ GE285.out | refine below_set ?_ GE286.out) | exact HB.out)) hb); clear HO_9; clear BK285; clear BK286; clear HB; have HO_9 := n0_; have HO298 := n1_; have BK285 := n2_; have BK286 := n3_; have HB := n4_; clear n0_ n1_ n2_ n3_ n4_; (try clear hb); (try clear hb2); (try clear hk); (try clear hi); (try clear ho0)) | ((with_reducible refine gate_callee (f := 9) rfl ?_); refine goesL_ (some 81) rfl rfl Try.func9 (by kernel_rfl) rfl #[] rfl (by (try simp only [List.map_toArray, List.map_cons, List.map_nil]); first | done | rfl | (simp only [List.length_drop, List.length_take]; rfl)) ?_; (with_reducible refine (plenumlaw36_awake.calls  true _ A35.out).mono ?_); rintro e w48 ⟨rfl, hb⟩; refine ⟨_, rfl, ?_⟩; have n0_ := Aside0.mk (Kd.R_below (by (with_reducible repeat (first | apply Kd.R_alloc | apply Kd.R_drewN | apply Kd.R_drew)); exact HO_9.out) hb); have n1_ := Aside0.mk (Kd.R_below (by (with_reducible repeat (first | apply Kd.R_alloc | apply Kd.R_drewN | apply Kd.R_drew)); exact HO298.out) hb); have n2_ := Aside0.mk (blk_below (g := gb285) (o := .cells #[.int .i64 a0_0, .int .i64 a0_1] 23 (0, 0)) (by (with_reducible repeat (first | refine blk_drewN ?_ _ | refine blk_drew ?_ | refine blk_alloc ?_ _)); exact BK285.out) hb); have n3_ := Aside0.mk (blk_below (g := gb286) (o := .cells #[.int .i64 a1_0, .int .i64 a1_1, .int .i64 a1_2, .int .i64 a1_3, .bool a1_4] 25 (0, 0)) (by (with_reducible repeat (first | refine blk_drewN ?_ _ | refine blk_drew ?_ | refine blk_alloc ?_ _)); exact BK286.out) hb); have n4_ := Aside0.mk (below_step (by repeat (first | (with_reducible first | exact HB.out | apply below_alloc | apply pw_below_drewN | apply below_drew1 | refine below_set ?_ GE285.out | refine below_set ?_ GE286.out) | exact HB.out)) hb); clear HO_9; clear HO298; clear BK285; clear BK286; clear HB; have HO_9 := n0_; have HO298 := n1_; have BK285 := n2_; have BK286 := n3_; have HB := n4_; clear n0_ n1_ n2_ n3_ n4_; (try clear hb); (try clear hb2); (try clear hk); (try clear hi); obtain ⟨Ao49, co49, eo49⟩ := Kd.R_slice HO_9.out; subst eo49; obtain ⟨Ao50, co50, eo50⟩ := Kd.R_slice HO298.out; subst eo50) | (go_at_call 21; (with_reducible refine (plenumref36_Same.calls kj30 _ _ t289 _ _ t296 true _ ?side1 ?side2 ?side3 ?side4 A39.out).mono ?_); (case side1 => repeat (first | exact (Kd.R_reads' HO_9.out).2.2 | (with_reducible refine Kd.C_alloc ?_ _) | (with_reducible refine Kd.C_drewN ?_ _) | (with_reducible refine Kd.C_drew ?_))); (case side2 => exact (Kd.R_reads' HO_9.out).2.1); (case side3 => repeat (first | exact (Kd.R_reads' HO298.out).2.2 | (with_reducible refine Kd.C_alloc ?_ _) | (with_reducible refine Kd.C_drewN ?_ _) | (with_reducible refine Kd.C_drew ?_))); (case side4 => exact (Kd.R_reads' HO298.out).2.1); rintro e w' ⟨rfl, ⟨nd, rfl⟩⟩; have p301 : 0 ≤ ((ji41) : Int) := of_decide_eq_true (by first | (with_reducible assumption) | assumption); have q301 : (ji41) < (t296.length : Int) := of_decide_eq_true (by first | (with_reducible assumption) | assumption); obtain ⟨ad301, e301, hx301_0⟩ := Kd.at_int (Kd.R_reads' HO298.out).2.2 (ji41) p301 q301; cases e301; replace p301 := eq_true p301; replace q301 := eq_true q301))
             go_ret
             exact ⟨by first | rfl | (simp [errW_none, errW_some] <;> rfl) | (simp only [← hji41]; first | rfl | (simp [errW_none, errW_some] <;> rfl)) | (simp [*, errW_none, errW_some] <;> rfl), by repeat (first | (with_reducible first | exact HB.out | apply below_alloc | apply pw_below_drewN | apply below_drew1 | refine below_set ?_ GE285.out | refine below_set ?_ GE286.out) | exact HB.out)⟩
            ·
             rw [if_neg c43] at H
             exact absurd H (by simp)
           ·
            rw [if_neg c42] at H
            exact absurd H (by simp)
          ·
           replace c40 := Bool.eq_false_iff.mpr c40
           subst c40
           have H1 : (some false) = some r := by rw [if_neg (show ¬ (false = true) by decide)] at H; exact H
           clear H
           have H := H1
           clear H1
           obtain rfl := Option.some.inj H
           have hnb51 := NB285_286.out
           have hnc51 := NB286_285.out
           have hcz52_0 : wc.cell? ⟨gb285, 0, none⟩ = some (.int .i64 a0_0) := (blk_cell BK285.out 0).trans rfl
           have hcz52_1 : wc.cell? ⟨gb285, 1, none⟩ = some (.int .i64 a0_1) := (blk_cell BK285.out 1).trans rfl
           have hfz52_0 := blk_frozen BK285.out 0
           have hfz52_1 := blk_frozen BK285.out 1
           have hcz53_0 : wc.cell? ⟨gb286, 0, none⟩ = some (.int .i64 a1_0) := (blk_cell BK286.out 0).trans rfl
           have hcz53_1 : wc.cell? ⟨gb286, 1, none⟩ = some (.int .i64 a1_1) := (blk_cell BK286.out 1).trans rfl
           have hcz53_2 : wc.cell? ⟨gb286, 2, none⟩ = some (.int .i64 a1_2) := (blk_cell BK286.out 2).trans rfl
           have hcz53_3 : wc.cell? ⟨gb286, 3, none⟩ = some (.int .i64 a1_3) := (blk_cell BK286.out 3).trans rfl
           have hcz53_4 : wc.cell? ⟨gb286, 4, none⟩ = some (.bool a1_4) := (blk_cell BK286.out 4).trans rfl
           have hfz53_0 := blk_frozen BK286.out 0
           have hfz53_1 := blk_frozen BK286.out 1
           have hfz53_2 := blk_frozen BK286.out 2
           have hfz53_3 := blk_frozen BK286.out 3
           have hfz53_4 := blk_frozen BK286.out 4
           go_wp2_with (first | ((with_reducible refine gate_callee (f := 20) rfl ?_); refine goesL_ (some 80) rfl rfl Try.func20 (by kernel_rfl) rfl #[.agg #[.int .i64 a0_0, .int .i64 a0_1], .agg #[.int .i64 a1_0, .int .i64 a1_1, .int .i64 a1_2, .int .i64 a1_3, .bool a1_4], .slice A2 l2.length c2, .int .i64 a3] rfl (by (try simp only [List.map_toArray, List.map_cons, List.map_nil]); first | done | rfl | (simp only [List.length_drop, List.length_take]; rfl)) ?_; (with_reducible refine (plenumref36_Curve.calls kj30 a0_0 a0_1 a1_0 a1_1 a1_2 a1_3 a1_4 _ _ l2 a3 t296 _ ?side1 ?side2 A34.out).mono ?_); (case side1 => repeat (first | exact (Kd.C_below HR2.out HB.out) | (with_reducible refine Kd.C_alloc ?_ _) | (with_reducible refine Kd.C_drewN ?_ _) | (with_reducible refine Kd.C_drew ?_))); (case side2 => exact HC2.out); rintro e w54 ⟨v297, rfl, ho0, hb⟩; refine ⟨_, rfl, ?_⟩; have n0_ := Aside0.mk (Kd.R_elder' (by (with_reducible repeat (first | apply Kd.R_alloc | apply Kd.R_drewN | apply Kd.R_drew)); exact HO_9.out) (Kd.R_base ho0) hb); have n1_ := Aside0.mk (Kd.R_lower (Kd.R_new' ho0 (Kd.R_lt (by (with_reducible repeat (first | apply Kd.R_alloc | apply Kd.R_drewN | apply Kd.R_drew)); exact HO_9.out))) (below_size (by repeat (first | (with_reducible first | exact HB.out | apply below_alloc | apply pw_below_drewN | apply below_drew1 | refine below_set ?_ GE285.out | refine below_set ?_ GE286.out) | exact HB.out)))); have n2_ := Aside0.mk (blk_below (g := gb285) (o := .cells #[.int .i64 a0_0, .int .i64 a0_1] 23 (0, 0)) (by (with_reducible repeat (first | refine blk_drewN ?_ _ | refine blk_drew ?_ | refine blk_alloc ?_ _)); exact BK285.out) hb); have n3_ := Aside0.mk (blk_below (g := gb286) (o := .cells #[.int .i64 a1_0, .int .i64 a1_1, .int .i64 a1_2, .int .i64 a1_3, .bool a1_4] 25 (0, 0)) (by (with_reducible repeat (first | refine blk_drewN ?_ _ | refine blk_drew ?_ | refine blk_alloc ?_ _)); exact BK286.out) hb); have n4_ := Aside0.mk (below_step (by repeat (first | (with_reducible first | exact HB.out | apply below_alloc | apply pw_below_drewN | apply below_drew1 | refine below_set ?_ GE285.out | refine below_set ?_ GE286.out) | exact HB.out)) hb); clear HO_9; clear BK285; clear BK286; clear HB; have HO_9 := n0_; have HO298 := n1_; have BK285 := n2_; have BK286 := n3_; have HB := n4_; clear n0_ n1_ n2_ n3_ n4_; (try clear hb); (try clear hb2); (try clear hk); (try clear hi); (try clear ho0)) | ((with_reducible refine gate_callee (f := 9) rfl ?_); refine goesL_ (some 81) rfl rfl Try.func9 (by kernel_rfl) rfl #[] rfl (by (try simp only [List.map_toArray, List.map_cons, List.map_nil]); first | done | rfl | (simp only [List.length_drop, List.length_take]; rfl)) ?_; (with_reducible refine (plenumlaw36_awake.calls  true _ A35.out).mono ?_); rintro e w55 ⟨rfl, hb⟩; refine ⟨_, rfl, ?_⟩; have n0_ := Aside0.mk (Kd.R_below (by (with_reducible repeat (first | apply Kd.R_alloc | apply Kd.R_drewN | apply Kd.R_drew)); exact HO_9.out) hb); have n1_ := Aside0.mk (Kd.R_below (by (with_reducible repeat (first | apply Kd.R_alloc | apply Kd.R_drewN | apply Kd.R_drew)); exact HO298.out) hb); have n2_ := Aside0.mk (blk_below (g := gb285) (o := .cells #[.int .i64 a0_0, .int .i64 a0_1] 23 (0, 0)) (by (with_reducible repeat (first | refine blk_drewN ?_ _ | refine blk_drew ?_ | refine blk_alloc ?_ _)); exact BK285.out) hb); have n3_ := Aside0.mk (blk_below (g := gb286) (o := .cells #[.int .i64 a1_0, .int .i64 a1_1, .int .i64 a1_2, .int .i64 a1_3, .bool a1_4] 25 (0, 0)) (by (with_reducible repeat (first | refine blk_drewN ?_ _ | refine blk_drew ?_ | refine blk_alloc ?_ _)); exact BK286.out) hb); have n4_ := Aside0.mk (below_step (by repeat (first | (with_reducible first | exact HB.out | apply below_alloc | apply pw_below_drewN | apply below_drew1 | refine below_set ?_ GE285.out | refine below_set ?_ GE286.out) | exact HB.out)) hb); clear HO_9; clear HO298; clear BK285; clear BK286; clear HB; have HO_9 := n0_; have HO298 := n1_; have BK285 := n2_; have BK286 := n3_; have HB := n4_; clear n0_ n1_ n2_ n3_ n4_; (try clear hb); (try clear hb2); (try clear hk); (try clear hi); obtain ⟨Ao56, co56, eo56⟩ := Kd.R_slice HO_9.out; subst eo56; obtain ⟨Ao57, co57, eo57⟩ := Kd.R_slice HO298.out; subst eo57) | (go_at_call 21; (with_reducible refine (plenumref36_Same.calls kj30 _ _ t289 _ _ t296 false _ ?side1 ?side2 ?side3 ?side4 A39.out).mono ?_); (case side1 => repeat (first | exact (Kd.R_reads' HO_9.out).2.2 | (with_reducible refine Kd.C_alloc ?_ _) | (with_reducible refine Kd.C_drewN ?_ _) | (with_reducible refine Kd.C_drew ?_))); (case side2 => exact (Kd.R_reads' HO_9.out).2.1); (case side3 => repeat (first | exact (Kd.R_reads' HO298.out).2.2 | (with_reducible refine Kd.C_alloc ?_ _) | (with_reducible refine Kd.C_drewN ?_ _) | (with_reducible refine Kd.C_drew ?_))); (case side4 => exact (Kd.R_reads' HO298.out).2.1); rintro e w' ⟨rfl, ⟨nd, rfl⟩⟩))
           go_ret
           exact ⟨by first | rfl | (simp [errW_none, errW_some] <;> rfl) | (simp [*, errW_none, errW_some] <;> rfl), by repeat (first | (with_reducible first | exact HB.out | apply below_alloc | apply pw_below_drewN | apply below_drew1 | refine below_set ?_ GE285.out | refine below_set ?_ GE286.out) | exact HB.out)⟩
         ·
          rw [if_neg c38] at H
          have c38b0 : (t294 == 0) = false := beq_eq_false_iff_ne.mpr c38
          have c38b1 : (t294 != 0) = true := bne_iff_ne.mpr c38
          obtain rfl := Option.some.inj H
          have hnb58 := NB285_286.out
          have hnc58 := NB286_285.out
          have hcz59_0 : wc.cell? ⟨gb285, 0, none⟩ = some (.int .i64 a0_0) := (blk_cell BK285.out 0).trans rfl
          have hcz59_1 : wc.cell? ⟨gb285, 1, none⟩ = some (.int .i64 a0_1) := (blk_cell BK285.out 1).trans rfl
          have hfz59_0 := blk_frozen BK285.out 0
          have hfz59_1 := blk_frozen BK285.out 1
          have hcz60_0 : wc.cell? ⟨gb286, 0, none⟩ = some (.int .i64 a1_0) := (blk_cell BK286.out 0).trans rfl
          have hcz60_1 : wc.cell? ⟨gb286, 1, none⟩ = some (.int .i64 a1_1) := (blk_cell BK286.out 1).trans rfl
          have hcz60_2 : wc.cell? ⟨gb286, 2, none⟩ = some (.int .i64 a1_2) := (blk_cell BK286.out 2).trans rfl
          have hcz60_3 : wc.cell? ⟨gb286, 3, none⟩ = some (.int .i64 a1_3) := (blk_cell BK286.out 3).trans rfl
          have hcz60_4 : wc.cell? ⟨gb286, 4, none⟩ = some (.bool a1_4) := (blk_cell BK286.out 4).trans rfl
          have hfz60_0 := blk_frozen BK286.out 0
          have hfz60_1 := blk_frozen BK286.out 1
          have hfz60_2 := blk_frozen BK286.out 2
          have hfz60_3 := blk_frozen BK286.out 3
          have hfz60_4 := blk_frozen BK286.out 4
          go_wp2_with (first | ((with_reducible refine gate_callee (f := 20) rfl ?_); refine goesL_ (some 80) rfl rfl Try.func20 (by kernel_rfl) rfl #[.agg #[.int .i64 a0_0, .int .i64 a0_1], .agg #[.int .i64 a1_0, .int .i64 a1_1, .int .i64 a1_2, .int .i64 a1_3, .bool a1_4], .slice A2 l2.length c2, .int .i64 a3] rfl (by (try simp only [List.map_toArray, List.map_cons, List.map_nil]); first | done | rfl | (simp only [List.length_drop, List.length_take]; rfl)) ?_; (with_reducible refine (plenumref36_Curve.calls kj30 a0_0 a0_1 a1_0 a1_1 a1_2 a1_3 a1_4 _ _ l2 a3 t296 _ ?side1 ?side2 A34.out).mono ?_); (case side1 => repeat (first | exact (Kd.C_below HR2.out HB.out) | (with_reducible refine Kd.C_alloc ?_ _) | (with_reducible refine Kd.C_drewN ?_ _) | (with_reducible refine Kd.C_drew ?_))); (case side2 => exact HC2.out); rintro e w61 ⟨v297, rfl, ho0, hb⟩; refine ⟨_, rfl, ?_⟩; have n0_ := Aside0.mk (Kd.R_elder' (by (with_reducible repeat (first | apply Kd.R_alloc | apply Kd.R_drewN | apply Kd.R_drew)); exact HO_9.out) (Kd.R_base ho0) hb); have n1_ := Aside0.mk (Kd.R_lower (Kd.R_new' ho0 (Kd.R_lt (by (with_reducible repeat (first | apply Kd.R_alloc | apply Kd.R_drewN | apply Kd.R_drew)); exact HO_9.out))) (below_size (by repeat (first | (with_reducible first | exact HB.out | apply below_alloc | apply pw_below_drewN | apply below_drew1 | refine below_set ?_ GE285.out | refine below_set ?_ GE286.out) | exact HB.out)))); have n2_ := Aside0.mk (blk_below (g := gb285) (o := .cells #[.int .i64 a0_0, .int .i64 a0_1] 23 (0, 0)) (by (with_reducible repeat (first | refine blk_drewN ?_ _ | refine blk_drew ?_ | refine blk_alloc ?_ _)); exact BK285.out) hb); have n3_ := Aside0.mk (blk_below (g := gb286) (o := .cells #[.int .i64 a1_0, .int .i64 a1_1, .int .i64 a1_2, .int .i64 a1_3, .bool a1_4] 25 (0, 0)) (by (with_reducible repeat (first | refine blk_drewN ?_ _ | refine blk_drew ?_ | refine blk_alloc ?_ _)); exact BK286.out) hb); have n4_ := Aside0.mk (below_step (by repeat (first | (with_reducible first | exact HB.out | apply below_alloc | apply pw_below_drewN | apply below_drew1 | refine below_set ?_ GE285.out | refine below_set ?_ GE286.out) | exact HB.out)) hb); clear HO_9; clear BK285; clear BK286; clear HB; have HO_9 := n0_; have HO298 := n1_; have BK285 := n2_; have BK286 := n3_; have HB := n4_; clear n0_ n1_ n2_ n3_ n4_; (try clear hb); (try clear hb2); (try clear hk); (try clear hi); (try clear ho0)) | ((with_reducible refine gate_callee (f := 9) rfl ?_); refine goesL_ (some 81) rfl rfl Try.func9 (by kernel_rfl) rfl #[] rfl (by (try simp only [List.map_toArray, List.map_cons, List.map_nil]); first | done | rfl | (simp only [List.length_drop, List.length_take]; rfl)) ?_; (with_reducible refine (plenumlaw36_awake.calls  true _ A35.out).mono ?_); rintro e w62 ⟨rfl, hb⟩; refine ⟨_, rfl, ?_⟩; have n0_ := Aside0.mk (Kd.R_below (by (with_reducible repeat (first | apply Kd.R_alloc | apply Kd.R_drewN | apply Kd.R_drew)); exact HO_9.out) hb); have n1_ := Aside0.mk (Kd.R_below (by (with_reducible repeat (first | apply Kd.R_alloc | apply Kd.R_drewN | apply Kd.R_drew)); exact HO298.out) hb); have n2_ := Aside0.mk (blk_below (g := gb285) (o := .cells #[.int .i64 a0_0, .int .i64 a0_1] 23 (0, 0)) (by (with_reducible repeat (first | refine blk_drewN ?_ _ | refine blk_drew ?_ | refine blk_alloc ?_ _)); exact BK285.out) hb); have n3_ := Aside0.mk (blk_below (g := gb286) (o := .cells #[.int .i64 a1_0, .int .i64 a1_1, .int .i64 a1_2, .int .i64 a1_3, .bool a1_4] 25 (0, 0)) (by (with_reducible repeat (first | refine blk_drewN ?_ _ | refine blk_drew ?_ | refine blk_alloc ?_ _)); exact BK286.out) hb); have n4_ := Aside0.mk (below_step (by repeat (first | (with_reducible first | exact HB.out | apply below_alloc | apply pw_below_drewN | apply below_drew1 | refine below_set ?_ GE285.out | refine below_set ?_ GE286.out) | exact HB.out)) hb); clear HO_9; clear HO298; clear BK285; clear BK286; clear HB; have HO_9 := n0_; have HO298 := n1_; have BK285 := n2_; have BK286 := n3_; have HB := n4_; clear n0_ n1_ n2_ n3_ n4_; (try clear hb); (try clear hb2); (try clear hk); (try clear hi)))
          go_ret
          exact ⟨by first | rfl | (simp [errW_none, errW_some] <;> rfl) | (simp [*, errW_none, errW_some] <;> rfl), by repeat (first | (with_reducible first | exact HB.out | apply below_alloc | apply pw_below_drewN | apply below_drew1 | refine below_set ?_ GE285.out | refine below_set ?_ GE286.out) | exact HB.out)⟩
        ·
         rw [if_neg c37] at H
         have c37b0 : (t292 == 0) = false := beq_eq_false_iff_ne.mpr c37
         have c37b1 : (t292 != 0) = true := bne_iff_ne.mpr c37
         obtain rfl := Option.some.inj H
         have hnb63 := NB285_286.out
         have hnc63 := NB286_285.out
         have hcz64_0 : wc.cell? ⟨gb285, 0, none⟩ = some (.int .i64 a0_0) := (blk_cell BK285.out 0).trans rfl
         have hcz64_1 : wc.cell? ⟨gb285, 1, none⟩ = some (.int .i64 a0_1) := (blk_cell BK285.out 1).trans rfl
         have hfz64_0 := blk_frozen BK285.out 0
         have hfz64_1 := blk_frozen BK285.out 1
         have hcz65_0 : wc.cell? ⟨gb286, 0, none⟩ = some (.int .i64 a1_0) := (blk_cell BK286.out 0).trans rfl
         have hcz65_1 : wc.cell? ⟨gb286, 1, none⟩ = some (.int .i64 a1_1) := (blk_cell BK286.out 1).trans rfl
         have hcz65_2 : wc.cell? ⟨gb286, 2, none⟩ = some (.int .i64 a1_2) := (blk_cell BK286.out 2).trans rfl
         have hcz65_3 : wc.cell? ⟨gb286, 3, none⟩ = some (.int .i64 a1_3) := (blk_cell BK286.out 3).trans rfl
         have hcz65_4 : wc.cell? ⟨gb286, 4, none⟩ = some (.bool a1_4) := (blk_cell BK286.out 4).trans rfl
         have hfz65_0 := blk_frozen BK286.out 0
         have hfz65_1 := blk_frozen BK286.out 1
         have hfz65_2 := blk_frozen BK286.out 2
         have hfz65_3 := blk_frozen BK286.out 3
         have hfz65_4 := blk_frozen BK286.out 4
         go_wp2_with (first | ((with_reducible refine gate_callee (f := 20) rfl ?_); refine goesL_ (some 80) rfl rfl Try.func20 (by kernel_rfl) rfl #[.agg #[.int .i64 a0_0, .int .i64 a0_1], .agg #[.int .i64 a1_0, .int .i64 a1_1, .int .i64 a1_2, .int .i64 a1_3, .bool a1_4], .slice A2 l2.length c2, .int .i64 a3] rfl (by (try simp only [List.map_toArray, List.map_cons, List.map_nil]); first | done | rfl | (simp only [List.length_drop, List.length_take]; rfl)) ?_; (with_reducible refine (plenumref36_Curve.calls kj30 a0_0 a0_1 a1_0 a1_1 a1_2 a1_3 a1_4 _ _ l2 a3 t296 _ ?side1 ?side2 A34.out).mono ?_); (case side1 => repeat (first | exact (Kd.C_below HR2.out HB.out) | (with_reducible refine Kd.C_alloc ?_ _) | (with_reducible refine Kd.C_drewN ?_ _) | (with_reducible refine Kd.C_drew ?_))); (case side2 => exact HC2.out); rintro e w66 ⟨v297, rfl, ho0, hb⟩; refine ⟨_, rfl, ?_⟩; have n0_ := Aside0.mk (Kd.R_elder' (by (with_reducible repeat (first | apply Kd.R_alloc | apply Kd.R_drewN | apply Kd.R_drew)); exact HO_9.out) (Kd.R_base ho0) hb); have n1_ := Aside0.mk (Kd.R_lower (Kd.R_new' ho0 (Kd.R_lt (by (with_reducible repeat (first | apply Kd.R_alloc | apply Kd.R_drewN | apply Kd.R_drew)); exact HO_9.out))) (below_size (by repeat (first | (with_reducible first | exact HB.out | apply below_alloc | apply pw_below_drewN | apply below_drew1 | refine below_set ?_ GE285.out | refine below_set ?_ GE286.out) | exact HB.out)))); have n2_ := Aside0.mk (blk_below (g := gb285) (o := .cells #[.int .i64 a0_0, .int .i64 a0_1] 23 (0, 0)) (by (with_reducible repeat (first | refine blk_drewN ?_ _ | refine blk_drew ?_ | refine blk_alloc ?_ _)); exact BK285.out) hb); have n3_ := Aside0.mk (blk_below (g := gb286) (o := .cells #[.int .i64 a1_0, .int .i64 a1_1, .int .i64 a1_2, .int .i64 a1_3, .bool a1_4] 25 (0, 0)) (by (with_reducible repeat (first | refine blk_drewN ?_ _ | refine blk_drew ?_ | refine blk_alloc ?_ _)); exact BK286.out) hb); have n4_ := Aside0.mk (below_step (by repeat (first | (with_reducible first | exact HB.out | apply below_alloc | apply pw_below_drewN | apply below_drew1 | refine below_set ?_ GE285.out | refine below_set ?_ GE286.out) | exact HB.out)) hb); clear HO_9; clear BK285; clear BK286; clear HB; have HO_9 := n0_; have HO298 := n1_; have BK285 := n2_; have BK286 := n3_; have HB := n4_; clear n0_ n1_ n2_ n3_ n4_; (try clear hb); (try clear hb2); (try clear hk); (try clear hi); (try clear ho0)) | ((with_reducible refine gate_callee (f := 9) rfl ?_); refine goesL_ (some 81) rfl rfl Try.func9 (by kernel_rfl) rfl #[] rfl (by (try simp only [List.map_toArray, List.map_cons, List.map_nil]); first | done | rfl | (simp only [List.length_drop, List.length_take]; rfl)) ?_; (with_reducible refine (plenumlaw36_awake.calls  true _ A35.out).mono ?_); rintro e w67 ⟨rfl, hb⟩; refine ⟨_, rfl, ?_⟩; have n0_ := Aside0.mk (Kd.R_below (by (with_reducible repeat (first | apply Kd.R_alloc | apply Kd.R_drewN | apply Kd.R_drew)); exact HO_9.out) hb); have n1_ := Aside0.mk (Kd.R_below (by (with_reducible repeat (first | apply Kd.R_alloc | apply Kd.R_drewN | apply Kd.R_drew)); exact HO298.out) hb); have n2_ := Aside0.mk (blk_below (g := gb285) (o := .cells #[.int .i64 a0_0, .int .i64 a0_1] 23 (0, 0)) (by (with_reducible repeat (first | refine blk_drewN ?_ _ | refine blk_drew ?_ | refine blk_alloc ?_ _)); exact BK285.out) hb); have n3_ := Aside0.mk (blk_below (g := gb286) (o := .cells #[.int .i64 a1_0, .int .i64 a1_1, .int .i64 a1_2, .int .i64 a1_3, .bool a1_4] 25 (0, 0)) (by (with_reducible repeat (first | refine blk_drewN ?_ _ | refine blk_drew ?_ | refine blk_alloc ?_ _)); exact BK286.out) hb); have n4_ := Aside0.mk (below_step (by repeat (first | (with_reducible first | exact HB.out | apply below_alloc | apply pw_below_drewN | apply below_drew1 | refine below_set ?_ GE285.out | refine below_set ?_ GE286.out) | exact HB.out)) hb); clear HO_9; clear HO298; clear BK285; clear BK286; clear HB; have HO_9 := n0_; have HO298 := n1_; have BK285 := n2_; have BK286 := n3_; have HB := n4_; clear n0_ n1_ n2_ n3_ n4_; (try clear hb); (try clear hb2); (try clear hk); (try clear hi)))
         go_ret
         exact ⟨by first | rfl | (simp [errW_none, errW_some] <;> rfl) | (simp [*, errW_none, errW_some] <;> rfl), by repeat (first | (with_reducible first | exact HB.out | apply below_alloc | apply pw_below_drewN | apply below_drew1 | refine below_set ?_ GE285.out | refine below_set ?_ GE286.out) | exact HB.out)⟩
       ·
        replace c36 := Bool.eq_false_iff.mpr c36
        subst c36
        have H1 : (some false) = some r := by rw [if_neg (show ¬ (false = true) by decide)] at H; exact H
        clear H
        have H := H1
        clear H1
        obtain rfl := Option.some.inj H
        have hnb68 := NB285_286.out
        have hnc68 := NB286_285.out
        have hcz69_0 : wc.cell? ⟨gb285, 0, none⟩ = some (.int .i64 a0_0) := (blk_cell BK285.out 0).trans rfl
        have hcz69_1 : wc.cell? ⟨gb285, 1, none⟩ = some (.int .i64 a0_1) := (blk_cell BK285.out 1).trans rfl
        have hfz69_0 := blk_frozen BK285.out 0
        have hfz69_1 := blk_frozen BK285.out 1
        have hcz70_0 : wc.cell? ⟨gb286, 0, none⟩ = some (.int .i64 a1_0) := (blk_cell BK286.out 0).trans rfl
        have hcz70_1 : wc.cell? ⟨gb286, 1, none⟩ = some (.int .i64 a1_1) := (blk_cell BK286.out 1).trans rfl
        have hcz70_2 : wc.cell? ⟨gb286, 2, none⟩ = some (.int .i64 a1_2) := (blk_cell BK286.out 2).trans rfl
        have hcz70_3 : wc.cell? ⟨gb286, 3, none⟩ = some (.int .i64 a1_3) := (blk_cell BK286.out 3).trans rfl
        have hcz70_4 : wc.cell? ⟨gb286, 4, none⟩ = some (.bool a1_4) := (blk_cell BK286.out 4).trans rfl
        have hfz70_0 := blk_frozen BK286.out 0
        have hfz70_1 := blk_frozen BK286.out 1
        have hfz70_2 := blk_frozen BK286.out 2
        have hfz70_3 := blk_frozen BK286.out 3
        have hfz70_4 := blk_frozen BK286.out 4
        go_wp2_with (first | ((with_reducible refine gate_callee (f := 20) rfl ?_); refine goesL_ (some 80) rfl rfl Try.func20 (by kernel_rfl) rfl #[.agg #[.int .i64 a0_0, .int .i64 a0_1], .agg #[.int .i64 a1_0, .int .i64 a1_1, .int .i64 a1_2, .int .i64 a1_3, .bool a1_4], .slice A2 l2.length c2, .int .i64 a3] rfl (by (try simp only [List.map_toArray, List.map_cons, List.map_nil]); first | done | rfl | (simp only [List.length_drop, List.length_take]; rfl)) ?_; (with_reducible refine (plenumref36_Curve.calls kj30 a0_0 a0_1 a1_0 a1_1 a1_2 a1_3 a1_4 _ _ l2 a3 t296 _ ?side1 ?side2 A34.out).mono ?_); (case side1 => repeat (first | exact (Kd.C_below HR2.out HB.out) | (with_reducible refine Kd.C_alloc ?_ _) | (with_reducible refine Kd.C_drewN ?_ _) | (with_reducible refine Kd.C_drew ?_))); (case side2 => exact HC2.out); rintro e w71 ⟨v297, rfl, ho0, hb⟩; refine ⟨_, rfl, ?_⟩; have n0_ := Aside0.mk (Kd.R_elder' (by (with_reducible repeat (first | apply Kd.R_alloc | apply Kd.R_drewN | apply Kd.R_drew)); exact HO_9.out) (Kd.R_base ho0) hb); have n1_ := Aside0.mk (Kd.R_lower (Kd.R_new' ho0 (Kd.R_lt (by (with_reducible repeat (first | apply Kd.R_alloc | apply Kd.R_drewN | apply Kd.R_drew)); exact HO_9.out))) (below_size (by repeat (first | (with_reducible first | exact HB.out | apply below_alloc | apply pw_below_drewN | apply below_drew1 | refine below_set ?_ GE285.out | refine below_set ?_ GE286.out) | exact HB.out)))); have n2_ := Aside0.mk (blk_below (g := gb285) (o := .cells #[.int .i64 a0_0, .int .i64 a0_1] 23 (0, 0)) (by (with_reducible repeat (first | refine blk_drewN ?_ _ | refine blk_drew ?_ | refine blk_alloc ?_ _)); exact BK285.out) hb); have n3_ := Aside0.mk (blk_below (g := gb286) (o := .cells #[.int .i64 a1_0, .int .i64 a1_1, .int .i64 a1_2, .int .i64 a1_3, .bool a1_4] 25 (0, 0)) (by (with_reducible repeat (first | refine blk_drewN ?_ _ | refine blk_drew ?_ | refine blk_alloc ?_ _)); exact BK286.out) hb); have n4_ := Aside0.mk (below_step (by repeat (first | (with_reducible first | exact HB.out | apply below_alloc | apply pw_below_drewN | apply below_drew1 | refine below_set ?_ GE285.out | refine below_set ?_ GE286.out) | exact HB.out)) hb); clear HO_9; clear BK285; clear BK286; clear HB; have HO_9 := n0_; have HO298 := n1_; have BK285 := n2_; have BK286 := n3_; have HB := n4_; clear n0_ n1_ n2_ n3_ n4_; (try clear hb); (try clear hb2); (try clear hk); (try clear hi); (try clear ho0)) | ((with_reducible refine gate_callee (f := 9) rfl ?_); refine goesL_ (some 81) rfl rfl Try.func9 (by kernel_rfl) rfl #[] rfl (by (try simp only [List.map_toArray, List.map_cons, List.map_nil]); first | done | rfl | (simp only [List.length_drop, List.length_take]; rfl)) ?_; (with_reducible refine (plenumlaw36_awake.calls  false _ A35.out).mono ?_); rintro e w72 ⟨rfl, hb⟩; refine ⟨_, rfl, ?_⟩; have n0_ := Aside0.mk (Kd.R_below (by (with_reducible repeat (first | apply Kd.R_alloc | apply Kd.R_drewN | apply Kd.R_drew)); exact HO_9.out) hb); have n1_ := Aside0.mk (Kd.R_below (by (with_reducible repeat (first | apply Kd.R_alloc | apply Kd.R_drewN | apply Kd.R_drew)); exact HO298.out) hb); have n2_ := Aside0.mk (blk_below (g := gb285) (o := .cells #[.int .i64 a0_0, .int .i64 a0_1] 23 (0, 0)) (by (with_reducible repeat (first | refine blk_drewN ?_ _ | refine blk_drew ?_ | refine blk_alloc ?_ _)); exact BK285.out) hb); have n3_ := Aside0.mk (blk_below (g := gb286) (o := .cells #[.int .i64 a1_0, .int .i64 a1_1, .int .i64 a1_2, .int .i64 a1_3, .bool a1_4] 25 (0, 0)) (by (with_reducible repeat (first | refine blk_drewN ?_ _ | refine blk_drew ?_ | refine blk_alloc ?_ _)); exact BK286.out) hb); have n4_ := Aside0.mk (below_step (by repeat (first | (with_reducible first | exact HB.out | apply below_alloc | apply pw_below_drewN | apply below_drew1 | refine below_set ?_ GE285.out | refine below_set ?_ GE286.out) | exact HB.out)) hb); clear HO_9; clear HO298; clear BK285; clear BK286; clear HB; have HO_9 := n0_; have HO298 := n1_; have BK285 := n2_; have BK286 := n3_; have HB := n4_; clear n0_ n1_ n2_ n3_ n4_; (try clear hb); (try clear hb2); (try clear hk); (try clear hi)))
        go_ret
        exact ⟨by first | rfl | (simp [errW_none, errW_some] <;> rfl) | (simp [*, errW_none, errW_some] <;> rfl), by repeat (first | (with_reducible first | exact HB.out | apply below_alloc | apply pw_below_drewN | apply below_drew1 | refine below_set ?_ GE285.out | refine below_set ?_ GE286.out) | exact HB.out)⟩
      ·
       rw [if_neg c33] at H
       have c33b0 : (x13_30 == 0) = false := beq_eq_false_iff_ne.mpr c33
       have c33b1 : (x13_30 != 0) = true := bne_iff_ne.mpr c33
       replace H := Option.bind_eq_some_iff.mp H
       obtain ⟨t302, A730, H⟩ := H
       replace H : (if t302 = true then (if t292 = x13_30 then (if t294 = x13_30 then (if (t289.length : Int) = 0 then (some (t293 == 0)) else (some false)) else (some false)) else (some false)) else (some false)) = some r := H
       have A73 := Aside0.mk A730
       clear A730
       by_cases c74 : t302 = true
       ·
        subst c74
        have H1 : (if t292 = x13_30 then (if t294 = x13_30 then (if (t289.length : Int) = 0 then (some (t293 == 0)) else (some false)) else (some false)) else (some false)) = some r := by rw [if_pos rfl] at H; exact H
        clear H
        have H := H1
        clear H1
        by_cases c75 : t292 = x13_30
        ·
         rw [if_pos c75] at H
         have c75b0 : (t292 == x13_30) = true := beq_iff_eq.mpr c75
         have c75b1 : (t292 != x13_30) = false := bne_eq_false_iff_eq.mpr c75
         clear c75
         by_cases c76 : t294 = x13_30
         ·
          rw [if_pos c76] at H
          have c76b0 : (t294 == x13_30) = true := beq_iff_eq.mpr c76
          have c76b1 : (t294 != x13_30) = false := bne_eq_false_iff_eq.mpr c76
          clear c76
          by_cases c77 : (t289.length : Int) = 0
          ·
           rw [if_pos c77] at H
           have c77b0 : ((t289.length : Int) == 0) = true := beq_iff_eq.mpr c77
           have c77b1 : ((t289.length : Int) != 0) = false := bne_eq_false_iff_eq.mpr c77
           clear c77
           obtain rfl := Option.some.inj H
           go_wp2_with (first | ((with_reducible refine gate_callee (f := 9) rfl ?_); refine goesL_ (some 56) rfl rfl Try.func9 (by kernel_rfl) rfl #[] rfl (by (try simp only [List.map_toArray, List.map_cons, List.map_nil]); first | done | rfl | (simp only [List.length_drop, List.length_take]; rfl)) ?_; (with_reducible refine (plenumlaw36_awake.calls  true _ A73.out).mono ?_); rintro e w78 ⟨rfl, hb⟩; refine ⟨_, rfl, ?_⟩; have n0_ := Aside0.mk (Kd.R_below (by (with_reducible repeat (first | apply Kd.R_alloc | apply Kd.R_drewN | apply Kd.R_drew)); exact HO_9.out) hb); have n1_ := Aside0.mk (blk_below (g := gb285) (o := .cells #[.int .i64 a0_0, .int .i64 a0_1] 23 (0, 0)) (by (with_reducible repeat (first | refine blk_drewN ?_ _ | refine blk_drew ?_ | refine blk_alloc ?_ _)); exact BK285.out) hb); have n2_ := Aside0.mk (blk_below (g := gb286) (o := .cells #[.int .i64 a1_0, .int .i64 a1_1, .int .i64 a1_2, .int .i64 a1_3, .bool a1_4] 25 (0, 0)) (by (with_reducible repeat (first | refine blk_drewN ?_ _ | refine blk_drew ?_ | refine blk_alloc ?_ _)); exact BK286.out) hb); have n3_ := Aside0.mk (below_step (by repeat (first | (with_reducible first | exact HB.out | apply below_alloc | apply pw_below_drewN | apply below_drew1 | refine below_set ?_ GE285.out | refine below_set ?_ GE286.out) | exact HB.out)) hb); clear HO_9; clear BK285; clear BK286; clear HB; have HO_9 := n0_; have BK285 := n1_; have BK286 := n2_; have HB := n3_; clear n0_ n1_ n2_ n3_; (try clear hb); (try clear hb2); (try clear hk); (try clear hi); obtain ⟨Ao79, co79, eo79⟩ := Kd.R_slice HO_9.out; subst eo79))
           go_ret
           exact ⟨by first | rfl | (simp [errW_none, errW_some] <;> rfl) | (simp [*, errW_none, errW_some] <;> rfl), by repeat (first | (with_reducible first | exact HB.out | apply below_alloc | apply pw_below_drewN | apply below_drew1 | refine below_set ?_ GE285.out | refine below_set ?_ GE286.out) | exact HB.out)⟩
          ·
           rw [if_neg c77] at H
           have c77b0 : ((t289.length : Int) == 0) = false := beq_eq_false_iff_ne.mpr c77
           have c77b1 : ((t289.length : Int) != 0) = true := bne_iff_ne.mpr c77
           have c77b2 : ¬ (t289 = []) := fun h_ => c77 (by rw [h_]; rfl)
           obtain rfl := Option.some.inj H
           go_wp2_with (first | ((with_reducible refine gate_callee (f := 9) rfl ?_); refine goesL_ (some 56) rfl rfl Try.func9 (by kernel_rfl) rfl #[] rfl (by (try simp only [List.map_toArray, List.map_cons, List.map_nil]); first | done | rfl | (simp only [List.length_drop, List.length_take]; rfl)) ?_; (with_reducible refine (plenumlaw36_awake.calls  true _ A73.out).mono ?_); rintro e w80 ⟨rfl, hb⟩; refine ⟨_, rfl, ?_⟩; have n0_ := Aside0.mk (Kd.R_below (by (with_reducible repeat (first | apply Kd.R_alloc | apply Kd.R_drewN | apply Kd.R_drew)); exact HO_9.out) hb); have n1_ := Aside0.mk (blk_below (g := gb285) (o := .cells #[.int .i64 a0_0, .int .i64 a0_1] 23 (0, 0)) (by (with_reducible repeat (first | refine blk_drewN ?_ _ | refine blk_drew ?_ | refine blk_alloc ?_ _)); exact BK285.out) hb); have n2_ := Aside0.mk (blk_below (g := gb286) (o := .cells #[.int .i64 a1_0, .int .i64 a1_1, .int .i64 a1_2, .int .i64 a1_3, .bool a1_4] 25 (0, 0)) (by (with_reducible repeat (first | refine blk_drewN ?_ _ | refine blk_drew ?_ | refine blk_alloc ?_ _)); exact BK286.out) hb); have n3_ := Aside0.mk (below_step (by repeat (first | (with_reducible first | exact HB.out | apply below_alloc | apply pw_below_drewN | apply below_drew1 | refine below_set ?_ GE285.out | refine below_set ?_ GE286.out) | exact HB.out)) hb); clear HO_9; clear BK285; clear BK286; clear HB; have HO_9 := n0_; have BK285 := n1_; have BK286 := n2_; have HB := n3_; clear n0_ n1_ n2_ n3_; (try clear hb); (try clear hb2); (try clear hk); (try clear hi); obtain ⟨Ao81, co81, eo81⟩ := Kd.R_slice HO_9.out; subst eo81))
           go_ret
           exact ⟨by first | rfl | (simp [errW_none, errW_some] <;> rfl) | (simp [*, errW_none, errW_some] <;> rfl), by repeat (first | (with_reducible first | exact HB.out | apply below_alloc | apply pw_below_drewN | apply below_drew1 | refine below_set ?_ GE285.out | refine below_set ?_ GE286.out) | exact HB.out)⟩
         ·
          rw [if_neg c76] at H
          have c76b0 : (t294 == x13_30) = false := beq_eq_false_iff_ne.mpr c76
          have c76b1 : (t294 != x13_30) = true := bne_iff_ne.mpr c76
          obtain rfl := Option.some.inj H
          go_wp2_with (first | ((with_reducible refine gate_callee (f := 9) rfl ?_); refine goesL_ (some 56) rfl rfl Try.func9 (by kernel_rfl) rfl #[] rfl (by (try simp only [List.map_toArray, List.map_cons, List.map_nil]); first | done | rfl | (simp only [List.length_drop, List.length_take]; rfl)) ?_; (with_reducible refine (plenumlaw36_awake.calls  true _ A73.out).mono ?_); rintro e w82 ⟨rfl, hb⟩; refine ⟨_, rfl, ?_⟩; have n0_ := Aside0.mk (Kd.R_below (by (with_reducible repeat (first | apply Kd.R_alloc | apply Kd.R_drewN | apply Kd.R_drew)); exact HO_9.out) hb); have n1_ := Aside0.mk (blk_below (g := gb285) (o := .cells #[.int .i64 a0_0, .int .i64 a0_1] 23 (0, 0)) (by (with_reducible repeat (first | refine blk_drewN ?_ _ | refine blk_drew ?_ | refine blk_alloc ?_ _)); exact BK285.out) hb); have n2_ := Aside0.mk (blk_below (g := gb286) (o := .cells #[.int .i64 a1_0, .int .i64 a1_1, .int .i64 a1_2, .int .i64 a1_3, .bool a1_4] 25 (0, 0)) (by (with_reducible repeat (first | refine blk_drewN ?_ _ | refine blk_drew ?_ | refine blk_alloc ?_ _)); exact BK286.out) hb); have n3_ := Aside0.mk (below_step (by repeat (first | (with_reducible first | exact HB.out | apply below_alloc | apply pw_below_drewN | apply below_drew1 | refine below_set ?_ GE285.out | refine below_set ?_ GE286.out) | exact HB.out)) hb); clear HO_9; clear BK285; clear BK286; clear HB; have HO_9 := n0_; have BK285 := n1_; have BK286 := n2_; have HB := n3_; clear n0_ n1_ n2_ n3_; (try clear hb); (try clear hb2); (try clear hk); (try clear hi)))
          go_ret
          exact ⟨by first | rfl | (simp [errW_none, errW_some] <;> rfl) | (simp [*, errW_none, errW_some] <;> rfl), by repeat (first | (with_reducible first | exact HB.out | apply below_alloc | apply pw_below_drewN | apply below_drew1 | refine below_set ?_ GE285.out | refine below_set ?_ GE286.out) | exact HB.out)⟩
        ·
         rw [if_neg c75] at H
         have c75b0 : (t292 == x13_30) = false := beq_eq_false_iff_ne.mpr c75
         have c75b1 : (t292 != x13_30) = true := bne_iff_ne.mpr c75
         obtain rfl := Option.some.inj H
         go_wp2_with (first | ((with_reducible refine gate_callee (f := 9) rfl ?_); refine goesL_ (some 56) rfl rfl Try.func9 (by kernel_rfl) rfl #[] rfl (by (try simp only [List.map_toArray, List.map_cons, List.map_nil]); first | done | rfl | (simp only [List.length_drop, List.length_take]; rfl)) ?_; (with_reducible refine (plenumlaw36_awake.calls  true _ A73.out).mono ?_); rintro e w83 ⟨rfl, hb⟩; refine ⟨_, rfl, ?_⟩; have n0_ := Aside0.mk (Kd.R_below (by (with_reducible repeat (first | apply Kd.R_alloc | apply Kd.R_drewN | apply Kd.R_drew)); exact HO_9.out) hb); have n1_ := Aside0.mk (blk_below (g := gb285) (o := .cells #[.int .i64 a0_0, .int .i64 a0_1] 23 (0, 0)) (by (with_reducible repeat (first | refine blk_drewN ?_ _ | refine blk_drew ?_ | refine blk_alloc ?_ _)); exact BK285.out) hb); have n2_ := Aside0.mk (blk_below (g := gb286) (o := .cells #[.int .i64 a1_0, .int .i64 a1_1, .int .i64 a1_2, .int .i64 a1_3, .bool a1_4] 25 (0, 0)) (by (with_reducible repeat (first | refine blk_drewN ?_ _ | refine blk_drew ?_ | refine blk_alloc ?_ _)); exact BK286.out) hb); have n3_ := Aside0.mk (below_step (by repeat (first | (with_reducible first | exact HB.out | apply below_alloc | apply pw_below_drewN | apply below_drew1 | refine below_set ?_ GE285.out | refine below_set ?_ GE286.out) | exact HB.out)) hb); clear HO_9; clear BK285; clear BK286; clear HB; have HO_9 := n0_; have BK285 := n1_; have BK286 := n2_; have HB := n3_; clear n0_ n1_ n2_ n3_; (try clear hb); (try clear hb2); (try clear hk); (try clear hi)))
         go_ret
         exact ⟨by first | rfl | (simp [errW_none, errW_some] <;> rfl) | (simp [*, errW_none, errW_some] <;> rfl), by repeat (first | (with_reducible first | exact HB.out | apply below_alloc | apply pw_below_drewN | apply below_drew1 | refine below_set ?_ GE285.out | refine below_set ?_ GE286.out) | exact HB.out)⟩
       ·
        replace c74 := Bool.eq_false_iff.mpr c74
        subst c74
        have H1 : (some false) = some r := by rw [if_neg (show ¬ (false = true) by decide)] at H; exact H
        clear H
        have H := H1
        clear H1
        obtain rfl := Option.some.inj H
        go_wp2_with (first | ((with_reducible refine gate_callee (f := 9) rfl ?_); refine goesL_ (some 56) rfl rfl Try.func9 (by kernel_rfl) rfl #[] rfl (by (try simp only [List.map_toArray, List.map_cons, List.map_nil]); first | done | rfl | (simp only [List.length_drop, List.length_take]; rfl)) ?_; (with_reducible refine (plenumlaw36_awake.calls  false _ A73.out).mono ?_); rintro e w84 ⟨rfl, hb⟩; refine ⟨_, rfl, ?_⟩; have n0_ := Aside0.mk (Kd.R_below (by (with_reducible repeat (first | apply Kd.R_alloc | apply Kd.R_drewN | apply Kd.R_drew)); exact HO_9.out) hb); have n1_ := Aside0.mk (blk_below (g := gb285) (o := .cells #[.int .i64 a0_0, .int .i64 a0_1] 23 (0, 0)) (by (with_reducible repeat (first | refine blk_drewN ?_ _ | refine blk_drew ?_ | refine blk_alloc ?_ _)); exact BK285.out) hb); have n2_ := Aside0.mk (blk_below (g := gb286) (o := .cells #[.int .i64 a1_0, .int .i64 a1_1, .int .i64 a1_2, .int .i64 a1_3, .bool a1_4] 25 (0, 0)) (by (with_reducible repeat (first | refine blk_drewN ?_ _ | refine blk_drew ?_ | refine blk_alloc ?_ _)); exact BK286.out) hb); have n3_ := Aside0.mk (below_step (by repeat (first | (with_reducible first | exact HB.out | apply below_alloc | apply pw_below_drewN | apply below_drew1 | refine below_set ?_ GE285.out | refine below_set ?_ GE286.out) | exact HB.out)) hb); clear HO_9; clear BK285; clear BK286; clear HB; have HO_9 := n0_; have BK285 := n1_; have BK286 := n2_; have HB := n3_; clear n0_ n1_ n2_ n3_; (try clear hb); (try clear hb2); (try clear hk); (try clear hi)))
        go_ret
        exact ⟨by first | rfl | (simp [errW_none, errW_some] <;> rfl) | (simp [*, errW_none, errW_some] <;> rfl), by repeat (first | (with_reducible first | exact HB.out | apply below_alloc | apply pw_below_drewN | apply below_drew1 | refine below_set ?_ GE285.out | refine below_set ?_ GE286.out) | exact HB.out)⟩
 ·
  replace c6 := Bool.eq_false_iff.mpr c6
  subst c6
  have H1 : ((plenumlaw36_awake.f).bind fun t288 => (some t288)) = some r := by rw [if_neg (show ¬ (false = true) by decide)] at H; exact H
  clear H
  have H := H1
  clear H1
  replace H := Option.bind_eq_some_iff.mp H
  obtain ⟨t288, A850, H⟩ := H
  replace H : (some t288) = some r := H
  have A85 := Aside0.mk A850
  clear A850
  obtain rfl := Option.some.inj H
  go_enter Try.func5, Try.ntmps5
  go_wp2_with (first | ((with_reducible refine gate_dst (N := 4) rfl ?_); (try (refine gate_guard (by rfl) ?_; dsimp only)); refine box_event ?hg (N := 4) ?hd (cs := #[.int .i64 a0_0, .int .i64 a0_1]) (t := 23) ?hr ?_; (case hd => rfl); (case hg => rfl); (case hr => first | (go_simp; done) | (go_simp; rfl)); intro gb285 hg w86 hbox hb; have n0_ := Aside0.mk (below_step (by repeat (first | (with_reducible first | exact HB.out | apply below_alloc | apply pw_below_drewN | apply below_drew1) | exact HB.out)) hb); have n1_ := Aside0.mk (hbox); have n2_ := Aside0.mk ((by rw [hg]; exact (below_size (by repeat (first | (with_reducible first | exact HB.out | apply below_alloc | apply pw_below_drewN | apply below_drew1) | exact HB.out))) : w.heap.size ≤ gb285)); have n3_ := Aside0.mk ((by rw [hg]; exact (below_size (by repeat (first | (with_reducible first | exact HB.out | apply below_alloc | apply pw_below_drewN | apply below_drew1) | exact HB.out))) : w.heap.size ≤ gb285)); clear HB; have HB := n0_; have BK285 := n1_; have GW285 := n2_; have GE285 := n3_; clear n0_ n1_ n2_ n3_; clear hb hbox hg) | ((with_reducible refine gate_dst (N := 5) rfl ?_); (try (refine gate_guard (by rfl) ?_; dsimp only)); refine box_event ?hg (N := 5) ?hd (cs := #[.int .i64 a1_0, .int .i64 a1_1, .int .i64 a1_2, .int .i64 a1_3, .bool a1_4]) (t := 25) ?hr ?_; (case hd => rfl); (case hg => rfl); (case hr => first | (go_simp; done) | (go_simp; rfl)); intro gb286 hg w87 hbox hb; have n0_ := Aside0.mk (blk_below (g := gb285) (o := .cells #[.int .i64 a0_0, .int .i64 a0_1] 23 (0, 0)) (by (with_reducible repeat (first | refine blk_drewN ?_ _ | refine blk_drew ?_ | refine blk_alloc ?_ _)); exact BK285.out) hb); have n1_ := Aside0.mk (below_step (by repeat (first | (with_reducible first | exact HB.out | apply below_alloc | apply pw_below_drewN | apply below_drew1 | refine below_set ?_ GE285.out) | exact HB.out)) hb); have n2_ := Aside0.mk (hbox); have n3_ := Aside0.mk ((by rw [hg]; exact (below_size (by repeat (first | (with_reducible first | exact HB.out | apply below_alloc | apply pw_below_drewN | apply below_drew1 | refine below_set ?_ GE285.out) | exact HB.out))) : w.heap.size ≤ gb286)); have n4_ := Aside0.mk ((by rw [hg]; exact (below_size (by repeat (first | (with_reducible first | exact HB.out | apply below_alloc | apply pw_below_drewN | apply below_drew1 | refine below_set ?_ GE285.out) | exact HB.out))) : w.heap.size ≤ gb286)); have n5_ := Aside0.mk ((by rw [hg]; exact Nat.ne_of_lt (blk_lt (g := gb285) (o := .cells #[.int .i64 a0_0, .int .i64 a0_1] 23 (0, 0)) (by (with_reducible repeat (first | refine blk_drewN ?_ _ | refine blk_drew ?_ | refine blk_alloc ?_ _)); exact BK285.out)) : gb285 ≠ gb286)); have n6_ := Aside0.mk ((by rw [hg]; exact Nat.ne_of_gt (blk_lt (g := gb285) (o := .cells #[.int .i64 a0_0, .int .i64 a0_1] 23 (0, 0)) (by (with_reducible repeat (first | refine blk_drewN ?_ _ | refine blk_drew ?_ | refine blk_alloc ?_ _)); exact BK285.out)) : gb286 ≠ gb285)); clear BK285; clear HB; have BK285 := n0_; have HB := n1_; have BK286 := n2_; have GW286 := n3_; have GE286 := n4_; have NB285_286 := n5_; have NB286_285 := n6_; clear n0_ n1_ n2_ n3_ n4_ n5_ n6_; clear hb hbox hg; have hnb88 := NB286_285.out; have hnc88 := NB285_286.out; have hcz89_0 : w87.cell? ⟨gb286, 0, none⟩ = some (.int .i64 a1_0) := (blk_cell BK286.out 0).trans rfl; have hcz89_1 : w87.cell? ⟨gb286, 1, none⟩ = some (.int .i64 a1_1) := (blk_cell BK286.out 1).trans rfl; have hcz89_2 : w87.cell? ⟨gb286, 2, none⟩ = some (.int .i64 a1_2) := (blk_cell BK286.out 2).trans rfl; have hcz89_3 : w87.cell? ⟨gb286, 3, none⟩ = some (.int .i64 a1_3) := (blk_cell BK286.out 3).trans rfl; have hcz89_4 : w87.cell? ⟨gb286, 4, none⟩ = some (.bool a1_4) := (blk_cell BK286.out 4).trans rfl; have hfz89_0 := blk_frozen BK286.out 0; have hfz89_1 := blk_frozen BK286.out 1; have hfz89_2 := blk_frozen BK286.out 2; have hfz89_3 := blk_frozen BK286.out 3; have hfz89_4 := blk_frozen BK286.out 4) | ((with_reducible refine gate_callee (f := 8) rfl ?_); refine goesL_ (some 17) rfl rfl Try.func8 (by kernel_rfl) rfl #[.agg #[.int .i64 a1_0, .int .i64 a1_1, .int .i64 a1_2, .int .i64 a1_3, .bool a1_4], .slice A2 l2.length c2] rfl (by (try simp only [List.map_toArray, List.map_cons, List.map_nil]); first | done | rfl | (simp only [List.length_drop, List.length_take]; rfl)) ?_; (with_reducible refine (plenumlaw36_few.calls a1_0 a1_1 a1_2 a1_3 a1_4 _ _ l2 false _ ?side1 ?side2 A5.out).mono ?_); (case side1 => repeat (first | exact (Kd.C_below HR2.out HB.out) | (with_reducible refine Kd.C_alloc ?_ _) | (with_reducible refine Kd.C_drewN ?_ _) | (with_reducible refine Kd.C_drew ?_))); (case side2 => exact HC2.out); rintro e w90 ⟨rfl, hb⟩; refine ⟨_, rfl, ?_⟩; have n0_ := Aside0.mk (blk_below (g := gb285) (o := .cells #[.int .i64 a0_0, .int .i64 a0_1] 23 (0, 0)) (by (with_reducible repeat (first | refine blk_drewN ?_ _ | refine blk_drew ?_ | refine blk_alloc ?_ _)); exact BK285.out) hb); have n1_ := Aside0.mk (blk_below (g := gb286) (o := .cells #[.int .i64 a1_0, .int .i64 a1_1, .int .i64 a1_2, .int .i64 a1_3, .bool a1_4] 25 (0, 0)) (by (with_reducible repeat (first | refine blk_drewN ?_ _ | refine blk_drew ?_ | refine blk_alloc ?_ _)); exact BK286.out) hb); have n2_ := Aside0.mk (below_step (by repeat (first | (with_reducible first | exact HB.out | apply below_alloc | apply pw_below_drewN | apply below_drew1 | refine below_set ?_ GE285.out | refine below_set ?_ GE286.out) | exact HB.out)) hb); clear BK285; clear BK286; clear HB; have BK285 := n0_; have BK286 := n1_; have HB := n2_; clear n0_ n1_ n2_; (try clear hb); (try clear hb2); (try clear hk); (try clear hi)) | ((with_reducible refine gate_callee (f := 9) rfl ?_); refine goesL_ (some 19) rfl rfl Try.func9 (by kernel_rfl) rfl #[] rfl (by (try simp only [List.map_toArray, List.map_cons, List.map_nil]); first | done | rfl | (simp only [List.length_drop, List.length_take]; rfl)) ?_; (with_reducible refine (plenumlaw36_awake.calls  t288 _ A85.out).mono ?_); rintro e w91 ⟨rfl, hb⟩; refine ⟨_, rfl, ?_⟩; have n0_ := Aside0.mk (blk_below (g := gb285) (o := .cells #[.int .i64 a0_0, .int .i64 a0_1] 23 (0, 0)) (by (with_reducible repeat (first | refine blk_drewN ?_ _ | refine blk_drew ?_ | refine blk_alloc ?_ _)); exact BK285.out) hb); have n1_ := Aside0.mk (blk_below (g := gb286) (o := .cells #[.int .i64 a1_0, .int .i64 a1_1, .int .i64 a1_2, .int .i64 a1_3, .bool a1_4] 25 (0, 0)) (by (with_reducible repeat (first | refine blk_drewN ?_ _ | refine blk_drew ?_ | refine blk_alloc ?_ _)); exact BK286.out) hb); have n2_ := Aside0.mk (below_step (by repeat (first | (with_reducible first | exact HB.out | apply below_alloc | apply pw_below_drewN | apply below_drew1 | refine below_set ?_ GE285.out | refine below_set ?_ GE286.out) | exact HB.out)) hb); clear BK285; clear BK286; clear HB; have BK285 := n0_; have BK286 := n1_; have HB := n2_; clear n0_ n1_ n2_; (try clear hb); (try clear hb2); (try clear hk); (try clear hi)))
  go_ret
  exact ⟨by first | rfl | (simp [errW_none, errW_some] <;> rfl) | (simp [*, errW_none, errW_some] <;> rfl), by repeat (first | (with_reducible first | exact HB.out | apply below_alloc | apply pw_below_drewN | apply below_drew1 | refine below_set ?_ GE285.out | refine below_set ?_ GE286.out) | exact HB.out)⟩
/-- THE ONE PURE STATEMENT of plenumlaw36_OptimalCurves. -/
def plenumlaw36_OptimalCurves.Pure : Prop := ∀ (a0_0 : Int) (a0_1 : Int) (a1_0 : Int) (a1_1 : Int) (a1_2 : Int) (a1_3 : Int) (a1_4 : Bool) (l2 : List Int) (a3 : Int), (Lit.int .i64 a0_0).wf = true → (Lit.int .i64 a0_1).wf = true → (Lit.int .i64 a1_0).wf = true → (Lit.int .i64 a1_1).wf = true → (Lit.int .i64 a1_2).wf = true → (Lit.int .i64 a1_3).wf = true → l2.length ≤ maxLen → l2.length * 8 ≤ 140737488351232 → (∀ x ∈ l2, (Lit.int .i64 x).wf = true) → (Lit.int .i64 a3).wf = true → ∃ k, plenumlaw36_OptimalCurves.f k a0_0 a0_1 a1_0 a1_1 a1_2 a1_3 a1_4 l2 a3 = some true
theorem plenumlaw36_OptimalCurves.walk (P : plenumlaw36_OptimalCurves.Pure) (a0_0 : Int) (a0_1 : Int) (a1_0 : Int) (a1_1 : Int) (a1_2 : Int) (a1_3 : Int) (a1_4 : Bool) (A2 : Option Addr) (c2 : Nat) (l2 : List Int) (a3 : Int) (w : World) (wa0_0 : (Lit.int .i64 a0_0).wf = true) (wa0_1 : (Lit.int .i64 a0_1).wf = true) (wa1_0 : (Lit.int .i64 a1_0).wf = true) (wa1_1 : (Lit.int .i64 a1_1).wf = true) (wa1_2 : (Lit.int .i64 a1_2).wf = true) (wa1_3 : (Lit.int .i64 a1_3).wf = true) (hr2 : Kd.C (Kd.int .i64) w A2 l2.length l2) (hc2 : l2.length ≤ c2) (hm2 : l2.length ≤ maxLen) (y2 : l2.length * 8 ≤ 140737488351232) (hw2 : ∀ x ∈ l2, (Lit.int .i64 x).wf = true) (wa3 : (Lit.int .i64 a3).wf = true) :
 Calls Try.prog 5 #[.agg #[.int .i64 a0_0, .int .i64 a0_1], .agg #[.int .i64 a1_0, .int .i64 a1_1, .int .i64 a1_2, .int .i64 a1_3, .bool a1_4], .slice A2 l2.length c2, .int .i64 a3] w fun e w' => e = .returned (.bool true) ∧ Below w.heap.size w w' := by
 obtain ⟨k, h⟩ := P a0_0 a0_1 a1_0 a1_1 a1_2 a1_3 a1_4 l2 a3 wa0_0 wa0_1 wa1_0 wa1_1 wa1_2 wa1_3 hm2 y2 hw2 wa3
 refine (plenumlaw36_OptimalCurves.calls k a0_0 a0_1 a1_0 a1_1 a1_2 a1_3 a1_4 A2 c2 l2 a3 true w hr2 hc2 h).mono ?_
 rintro e w' ⟨rfl, hd⟩
 exact ⟨rfl, hd⟩
end Go.Proofs.Ytpehicdglooeaaa.PT
