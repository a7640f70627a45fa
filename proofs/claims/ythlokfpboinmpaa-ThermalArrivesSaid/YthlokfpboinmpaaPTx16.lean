-- Laid by hp.py (a program of this session's) through the kit's printer.
import Derived.Test.YthlokfpboinmpaaPTx0
import Derived.Test.YthlokfpboinmpaaPTx2
import Derived.Test.YthlokfpboinmpaaPTx4
import Derived.Test.YthlokfpboinmpaaPTx6
namespace Go.Proofs.Ythlokfpboinmpaa.PT
open Go.RowKit Go.Proofs.YthlokfpboinmpaaW.PrintWords Go.Proofs.YthlokfpboinmpaaW.PrintLast Go.Proofs.YthlokfpboinmpaaW.PrintMore
attribute [local go_sem] max2_int min2_int max_two min_two max_three min_three max_four min_four   -- for this text's walks alone
set_option linter.unusedVariables false
set_option linter.unusedSimpArgs false

/-! ### plenumlaw35_ThermalArrives: function 10 -/
mutual
def plenumlaw35_ThermalArrives.j0 : Nat → Int → Int → Int → Int → Int → Int → Int → Int → Bool → Int → Int → Option (Bool)
  | 0, _, _, _, _, _, _, _, _, _, _, _ => none
  | k + 1, x1, x2, x3, x4, x5, x6, x15, x16, x43, x329000, x329001 => if x43 = true then (some (x15 == 0)) else (if x16 = 9 then (plenumlaw35_ThermalArrives.j1 k x1 x2 x3 x4 x5 x6 x15 (wrap64 (x6 + 1)) x329000 x329001) else (plenumlaw35_ThermalArrives.j1 k x1 x2 x3 x4 x5 x6 x15 x15 x329000 x329001))
def plenumlaw35_ThermalArrives.j1 : Nat → Int → Int → Int → Int → Int → Int → Int → Int → Int → Int → Option (Bool)
  | 0, _, _, _, _, _, _, _, _, _, _ => none
  | k + 1, x1, x2, x3, x4, x5, x6, x15, x17, x329000, x329001 => plenumlaw35_ThermalArrives.l0 k x1 x2 x3 x4 x5 x6 x15 x17 x1 0 x329000 x329001
def plenumlaw35_ThermalArrives.l0 : Nat → Int → Int → Int → Int → Int → Int → Int → Int → Int → Int → Int → Int → Option (Bool)
  | 0, _, _, _, _, _, _, _, _, _, _, _, _ => none
  | k + 1, x1, x2, x3, x4, x5, x6, x15, x17, x18, x19, x329000, x329001 => if x19 ≤ x6 then (plenumlaw35_ThermalArrives.j3 k x1 x2 x3 x4 x5 x6 x15 x17 x18 x19 (decide (x19 ≤ x17)) x329000 x329001) else (plenumlaw35_ThermalArrives.j3 k x1 x2 x3 x4 x5 x6 x15 x17 x18 x19 false x329000 x329001)
def plenumlaw35_ThermalArrives.j3 : Nat → Int → Int → Int → Int → Int → Int → Int → Int → Int → Int → Bool → Int → Int → Option (Bool)
  | 0, _, _, _, _, _, _, _, _, _, _, _, _, _ => none
  | k + 1, x1, x2, x3, x4, x5, x6, x15, x17, x18, x19, x59, x329000, x329001 => if x59 = true then (if x18 = x4 then (plenumlaw35_ThermalArrives.j4 k x1 x2 x3 x4 x5 x6 x15 x17 x18 x19 true x329000 x329001) else (plenumlaw35_ThermalArrives.j4 k x1 x2 x3 x4 x5 x6 x15 x17 x18 x19 ((decide (x18 > x4)) != (decide (x1 > x4))) x329000 x329001)) else (some (decide (x15 ≤ x6)))
def plenumlaw35_ThermalArrives.j4 : Nat → Int → Int → Int → Int → Int → Int → Int → Int → Int → Int → Bool → Int → Int → Option (Bool)
  | 0, _, _, _, _, _, _, _, _, _, _, _, _, _ => none
  | k + 1, x1, x2, x3, x4, x5, x6, x15, x17, x18, x19, x20, x329000, x329001 => if (x20 != (x19 == x17)) = true then (some false) else ((thermal_Step.f k x329000 x329001 x18 x2 x3 x5).bind fun bt332 => (if bt332.2 = 0 then (plenumlaw35_ThermalArrives.l0 k x1 x2 x3 x4 x5 x6 x15 x17 bt332.1 (wrap64 (x19 + 1)) x329000 x329001) else (some false)))
end
def plenumlaw35_ThermalArrives.f (k : Nat) (a0_0 : Int) (a0_1 : Int) (a1 : Int) (a2 : Int) (a3 : Int) (a4 : Int) (a5 : Int) (a6 : Int) : Option (Bool) := (plenumlaw35_awake.f).bind fun t329 => (if t329 = true then (if a6 > 200 then (some true) else ((thermal_Reaches.f k a0_0 a0_1 a1 a2 a3 a4 a5 a6).bind fun bt330 => (if bt330.2 = 0 then (plenumlaw35_ThermalArrives.j0 k a1 a2 a3 a4 a5 a6 bt330.1 bt330.2 false a0_0 a0_1) else (plenumlaw35_ThermalArrives.j0 k a1 a2 a3 a4 a5 a6 bt330.1 bt330.2 (bt330.2 != 9) a0_0 a0_1)))) else (some false))
theorem plenumlaw35_ThermalArrives.mono_l : ∀ k, (∀ y0 y1 y2 y3 y4 y5 y6 y7 y8 y9 y10, LeO (plenumlaw35_ThermalArrives.j0 k y0 y1 y2 y3 y4 y5 y6 y7 y8 y9 y10) (plenumlaw35_ThermalArrives.j0 (k + 1) y0 y1 y2 y3 y4 y5 y6 y7 y8 y9 y10)) ∧ (∀ y0 y1 y2 y3 y4 y5 y6 y7 y8 y9, LeO (plenumlaw35_ThermalArrives.j1 k y0 y1 y2 y3 y4 y5 y6 y7 y8 y9) (plenumlaw35_ThermalArrives.j1 (k + 1) y0 y1 y2 y3 y4 y5 y6 y7 y8 y9)) ∧ (∀ y0 y1 y2 y3 y4 y5 y6 y7 y8 y9 y10 y11, LeO (plenumlaw35_ThermalArrives.l0 k y0 y1 y2 y3 y4 y5 y6 y7 y8 y9 y10 y11) (plenumlaw35_ThermalArrives.l0 (k + 1) y0 y1 y2 y3 y4 y5 y6 y7 y8 y9 y10 y11)) ∧ (∀ y0 y1 y2 y3 y4 y5 y6 y7 y8 y9 y10 y11 y12, LeO (plenumlaw35_ThermalArrives.j3 k y0 y1 y2 y3 y4 y5 y6 y7 y8 y9 y10 y11 y12) (plenumlaw35_ThermalArrives.j3 (k + 1) y0 y1 y2 y3 y4 y5 y6 y7 y8 y9 y10 y11 y12)) ∧ (∀ y0 y1 y2 y3 y4 y5 y6 y7 y8 y9 y10 y11 y12, LeO (plenumlaw35_ThermalArrives.j4 k y0 y1 y2 y3 y4 y5 y6 y7 y8 y9 y10 y11 y12) (plenumlaw35_ThermalArrives.j4 (k + 1) y0 y1 y2 y3 y4 y5 y6 y7 y8 y9 y10 y11 y12))
  | 0 => ⟨fun _ _ _ _ _ _ _ _ _ _ _ r h => by simp [plenumlaw35_ThermalArrives.j0] at h, fun _ _ _ _ _ _ _ _ _ _ r h => by simp [plenumlaw35_ThermalArrives.j1] at h, fun _ _ _ _ _ _ _ _ _ _ _ _ r h => by simp [plenumlaw35_ThermalArrives.l0] at h, fun _ _ _ _ _ _ _ _ _ _ _ _ _ r h => by simp [plenumlaw35_ThermalArrives.j3] at h, fun _ _ _ _ _ _ _ _ _ _ _ _ _ r h => by simp [plenumlaw35_ThermalArrives.j4] at h⟩
  | k + 1 => by
    obtain ⟨ih0, ih1, ih2, ih3, ih4⟩ := plenumlaw35_ThermalArrives.mono_l k
    refine ⟨?_, ?_, ?_, ?_, ?_⟩
    · intro y0 y1 y2 y3 y4 y5 y6 y7 y8 y9 y10
      unfold plenumlaw35_ThermalArrives.j0
      repeat' first
      | (with_reducible exact ih0 _ _ _ _ _ _ _ _ _ _ _)
      | (with_reducible exact ih1 _ _ _ _ _ _ _ _ _ _)
      | (with_reducible exact ih2 _ _ _ _ _ _ _ _ _ _ _ _)
      | (with_reducible exact ih3 _ _ _ _ _ _ _ _ _ _ _ _ _)
      | (with_reducible exact ih4 _ _ _ _ _ _ _ _ _ _ _ _ _)
      | (with_reducible exact thermal_Reaches.mono _ _ _ _ _ _ _ _ _)
      | (with_reducible exact thermal_Step.mono _ _ _ _ _ _ _)
      | (with_reducible exact LeO.refl _)
      | (with_reducible exact LeO.none _)
      | (with_reducible refine LeO.ite ?_ ?_)
      | (with_reducible refine LeO.bind ?_ (fun _ => ?_))
      | exact ih0 _ _ _ _ _ _ _ _ _ _ _
      | exact ih1 _ _ _ _ _ _ _ _ _ _
      | exact ih2 _ _ _ _ _ _ _ _ _ _ _ _
      | exact ih3 _ _ _ _ _ _ _ _ _ _ _ _ _
      | exact ih4 _ _ _ _ _ _ _ _ _ _ _ _ _
      | exact thermal_Reaches.mono _ _ _ _ _ _ _ _ _
      | exact thermal_Step.mono _ _ _ _ _ _ _
      | exact LeO.none _
      | refine LeO.ite ?_ ?_
      | refine LeO.bind ?_ (fun _ => ?_)
    · intro y0 y1 y2 y3 y4 y5 y6 y7 y8 y9
      unfold plenumlaw35_ThermalArrives.j1
      repeat' first
      | (with_reducible exact ih0 _ _ _ _ _ _ _ _ _ _ _)
      | (with_reducible exact ih1 _ _ _ _ _ _ _ _ _ _)
      | (with_reducible exact ih2 _ _ _ _ _ _ _ _ _ _ _ _)
      | (with_reducible exact ih3 _ _ _ _ _ _ _ _ _ _ _ _ _)
      | (with_reducible exact ih4 _ _ _ _ _ _ _ _ _ _ _ _ _)
      | (with_reducible exact thermal_Reaches.mono _ _ _ _ _ _ _ _ _)
      | (with_reducible exact thermal_Step.mono _ _ _ _ _ _ _)
      | (with_reducible exact LeO.refl _)
      | (with_reducible exact LeO.none _)
      | (with_reducible refine LeO.ite ?_ ?_)
      | (with_reducible refine LeO.bind ?_ (fun _ => ?_))
      | exact ih0 _ _ _ _ _ _ _ _ _ _ _
      | exact ih1 _ _ _ _ _ _ _ _ _ _
      | exact ih2 _ _ _ _ _ _ _ _ _ _ _ _
      | exact ih3 _ _ _ _ _ _ _ _ _ _ _ _ _
      | exact ih4 _ _ _ _ _ _ _ _ _ _ _ _ _
      | exact thermal_Reaches.mono _ _ _ _ _ _ _ _ _
      | exact thermal_Step.mono _ _ _ _ _ _ _
      | exact LeO.none _
      | refine LeO.ite ?_ ?_
      | refine LeO.bind ?_ (fun _ => ?_)
    · intro y0 y1 y2 y3 y4 y5 y6 y7 y8 y9 y10 y11
      unfold plenumlaw35_ThermalArrives.l0
      repeat' first
      | (with_reducible exact ih0 _ _ _ _ _ _ _ _ _ _ _)
      | (with_reducible exact ih1 _ _ _ _ _ _ _ _ _ _)
      | (with_reducible exact ih2 _ _ _ _ _ _ _ _ _ _ _ _)
      | (with_reducible exact ih3 _ _ _ _ _ _ _ _ _ _ _ _ _)
      | (with_reducible exact ih4 _ _ _ _ _ _ _ _ _ _ _ _ _)
      | (with_reducible exact thermal_Reaches.mono _ _ _ _ _ _ _ _ _)
      | (with_reducible exact thermal_Step.mono _ _ _ _ _ _ _)
      | (with_reducible exact LeO.refl _)
      | (with_reducible exact LeO.none _)
      | (with_reducible refine LeO.ite ?_ ?_)
      | (with_reducible refine LeO.bind ?_ (fun _ => ?_))
      | exact ih0 _ _ _ _ _ _ _ _ _ _ _
      | exact ih1 _ _ _ _ _ _ _ _ _ _
      | exact ih2 _ _ _ _ _ _ _ _ _ _ _ _
      | exact ih3 _ _ _ _ _ _ _ _ _ _ _ _ _
      | exact ih4 _ _ _ _ _ _ _ _ _ _ _ _ _
      | exact thermal_Reaches.mono _ _ _ _ _ _ _ _ _
      | exact thermal_Step.mono _ _ _ _ _ _ _
      | exact LeO.none _
      | refine LeO.ite ?_ ?_
      | refine LeO.bind ?_ (fun _ => ?_)
    · intro y0 y1 y2 y3 y4 y5 y6 y7 y8 y9 y10 y11 y12
      unfold plenumlaw35_ThermalArrives.j3
      repeat' first
      | (with_reducible exact ih0 _ _ _ _ _ _ _ _ _ _ _)
      | (with_reducible exact ih1 _ _ _ _ _ _ _ _ _ _)
      | (with_reducible exact ih2 _ _ _ _ _ _ _ _ _ _ _ _)
      | (with_reducible exact ih3 _ _ _ _ _ _ _ _ _ _ _ _ _)
      | (with_reducible exact ih4 _ _ _ _ _ _ _ _ _ _ _ _ _)
      | (with_reducible exact thermal_Reaches.mono _ _ _ _ _ _ _ _ _)
      | (with_reducible exact thermal_Step.mono _ _ _ _ _ _ _)
      | (with_reducible exact LeO.refl _)
      | (with_reducible exact LeO.none _)
      | (with_reducible refine LeO.ite ?_ ?_)
      | (with_reducible refine LeO.bind ?_ (fun _ => ?_))
      | exact ih0 _ _ _ _ _ _ _ _ _ _ _
      | exact ih1 _ _ _ _ _ _ _ _ _ _
      | exact ih2 _ _ _ _ _ _ _ _ _ _ _ _
      | exact ih3 _ _ _ _ _ _ _ _ _ _ _ _ _
      | exact ih4 _ _ _ _ _ _ _ _ _ _ _ _ _
      | exact thermal_Reaches.mono _ _ _ _ _ _ _ _ _
      | exact thermal_Step.mono _ _ _ _ _ _ _
      | exact LeO.none _
      | refine LeO.ite ?_ ?_
      | refine LeO.bind ?_ (fun _ => ?_)
    · intro y0 y1 y2 y3 y4 y5 y6 y7 y8 y9 y10 y11 y12
      unfold plenumlaw35_ThermalArrives.j4
      repeat' first
      | (with_reducible exact ih0 _ _ _ _ _ _ _ _ _ _ _)
      | (with_reducible exact ih1 _ _ _ _ _ _ _ _ _ _)
      | (with_reducible exact ih2 _ _ _ _ _ _ _ _ _ _ _ _)
      | (with_reducible exact ih3 _ _ _ _ _ _ _ _ _ _ _ _ _)
      | (with_reducible exact ih4 _ _ _ _ _ _ _ _ _ _ _ _ _)
      | (with_reducible exact thermal_Reaches.mono _ _ _ _ _ _ _ _ _)
      | (with_reducible exact thermal_Step.mono _ _ _ _ _ _ _)
      | (with_reducible exact LeO.refl _)
      | (with_reducible exact LeO.none _)
      | (with_reducible refine LeO.ite ?_ ?_)
      | (with_reducible refine LeO.bind ?_ (fun _ => ?_))
      | exact ih0 _ _ _ _ _ _ _ _ _ _ _
      | exact ih1 _ _ _ _ _ _ _ _ _ _
      | exact ih2 _ _ _ _ _ _ _ _ _ _ _ _
      | exact ih3 _ _ _ _ _ _ _ _ _ _ _ _ _
      | exact ih4 _ _ _ _ _ _ _ _ _ _ _ _ _
      | exact thermal_Reaches.mono _ _ _ _ _ _ _ _ _
      | exact thermal_Step.mono _ _ _ _ _ _ _
      | exact LeO.none _
      | refine LeO.ite ?_ ?_
      | refine LeO.bind ?_ (fun _ => ?_)
theorem plenumlaw35_ThermalArrives.mono : ∀ a0 a1 a2 a3 a4 a5 a6 a7 k, LeO (plenumlaw35_ThermalArrives.f k a0 a1 a2 a3 a4 a5 a6 a7) (plenumlaw35_ThermalArrives.f (k + 1) a0 a1 a2 a3 a4 a5 a6 a7) := by
  intro a0 a1 a2 a3 a4 a5 a6 a7 k
  obtain ⟨ih0, ih1, ih2, ih3, ih4⟩ := plenumlaw35_ThermalArrives.mono_l k
  unfold plenumlaw35_ThermalArrives.f
  repeat' first
      | (with_reducible exact ih0 _ _ _ _ _ _ _ _ _ _ _)
      | (with_reducible exact ih1 _ _ _ _ _ _ _ _ _ _)
      | (with_reducible exact ih2 _ _ _ _ _ _ _ _ _ _ _ _)
      | (with_reducible exact ih3 _ _ _ _ _ _ _ _ _ _ _ _ _)
      | (with_reducible exact ih4 _ _ _ _ _ _ _ _ _ _ _ _ _)
      | (with_reducible exact thermal_Reaches.mono _ _ _ _ _ _ _ _ _)
      | (with_reducible exact thermal_Step.mono _ _ _ _ _ _ _)
      | (with_reducible exact LeO.refl _)
      | (with_reducible exact LeO.none _)
      | (with_reducible refine LeO.ite ?_ ?_)
      | (with_reducible refine LeO.bind ?_ (fun _ => ?_))
      | exact ih0 _ _ _ _ _ _ _ _ _ _ _
      | exact ih1 _ _ _ _ _ _ _ _ _ _
      | exact ih2 _ _ _ _ _ _ _ _ _ _ _ _
      | exact ih3 _ _ _ _ _ _ _ _ _ _ _ _ _
      | exact ih4 _ _ _ _ _ _ _ _ _ _ _ _ _
      | exact thermal_Reaches.mono _ _ _ _ _ _ _ _ _
      | exact thermal_Step.mono _ _ _ _ _ _ _
      | exact LeO.none _
      | refine LeO.ite ?_ ?_
      | refine LeO.bind ?_ (fun _ => ?_)
set_option maxHeartbeats 8000000 in
set_option maxRecDepth 100000 in
theorem plenumlaw35_ThermalArrives.calls (k : Nat) (a0_0 : Int) (a0_1 : Int) (a1 : Int) (a2 : Int) (a3 : Int) (a4 : Int) (a5 : Int) (a6 : Int) (r : Bool) (w : World) (h : plenumlaw35_ThermalArrives.f k a0_0 a0_1 a1 a2 a3 a4 a5 a6 = some r) :
    Calls Try.prog 10 #[.agg #[.int .i64 a0_0, .int .i64 a0_1], .int .i64 a1, .int .i64 a2, .int .i64 a3, .int .i64 a4, .int .i64 a5, .int .i64 a6] w fun e w' => e = .returned (.bool r) ∧ Below w.heap.size w w' := by
  have hu23 := Try.underlying23
  have HB := Aside0.mk (Below.refl w.heap.size w)
  have H : ((plenumlaw35_awake.f).bind fun t329 => (if t329 = true then (if a6 > 200 then (some true) else ((thermal_Reaches.f k a0_0 a0_1 a1 a2 a3 a4 a5 a6).bind fun bt330 => (if bt330.2 = 0 then (plenumlaw35_ThermalArrives.j0 k a1 a2 a3 a4 a5 a6 bt330.1 bt330.2 false a0_0 a0_1) else (plenumlaw35_ThermalArrives.j0 k a1 a2 a3 a4 a5 a6 bt330.1 bt330.2 (bt330.2 != 9) a0_0 a0_1)))) else (some false))) = some r := h
  clear h
  replace H := Option.bind_eq_some_iff.mp H
  obtain ⟨t329, A80, H⟩ := H
  replace H : (if t329 = true then (if a6 > 200 then (some true) else ((thermal_Reaches.f k a0_0 a0_1 a1 a2 a3 a4 a5 a6).bind fun bt330 => (if bt330.2 = 0 then (plenumlaw35_ThermalArrives.j0 k a1 a2 a3 a4 a5 a6 bt330.1 bt330.2 false a0_0 a0_1) else (plenumlaw35_ThermalArrives.j0 k a1 a2 a3 a4 a5 a6 bt330.1 bt330.2 (bt330.2 != 9) a0_0 a0_1)))) else (some false)) = some r := H
  have A8 := Aside0.mk A80
  clear A80
  by_cases c9 : t329 = true
  · subst c9
    have H1 : (if a6 > 200 then (some true) else ((thermal_Reaches.f k a0_0 a0_1 a1 a2 a3 a4 a5 a6).bind fun bt330 => (if bt330.2 = 0 then (plenumlaw35_ThermalArrives.j0 k a1 a2 a3 a4 a5 a6 bt330.1 bt330.2 false a0_0 a0_1) else (plenumlaw35_ThermalArrives.j0 k a1 a2 a3 a4 a5 a6 bt330.1 bt330.2 (bt330.2 != 9) a0_0 a0_1)))) = some r := by rw [if_pos rfl] at H; exact H
    clear H
    have H := H1
    clear H1
    by_cases c10 : a6 > 200
    · rw [if_pos c10] at H
      have c10b0 : decide (200 < a6) = true := decide_eq_true c10
      clear c10
      obtain rfl := Option.some.inj H
      go_enter Try.func10, Try.ntmps10
      go_wp2_with (first | ((with_reducible refine gate_dst (N := 7) rfl ?_); refine box_event ?hg (N := 7) ?hd (cs := #[.int .i64 a0_0, .int .i64 a0_1]) (t := 23) ?hr ?_; (case hd => rfl); (case hg => rfl); (case hr => first | (go_simp; done) | (go_simp; rfl)); intro gb328 hg w11 hbox hb; have n0_ := Aside0.mk (below_step (by repeat (first | (with_reducible first | exact HB.out | apply below_alloc | apply pw_below_drewN | apply below_drew1) | exact HB.out)) hb); have n1_ := Aside0.mk (hbox); have n2_ := Aside0.mk ((by rw [hg]; exact (below_size (by repeat (first | (with_reducible first | exact HB.out | apply below_alloc | apply pw_below_drewN | apply below_drew1) | exact HB.out))) : w.heap.size ≤ gb328)); have n3_ := Aside0.mk ((by rw [hg]; exact (below_size (by repeat (first | (with_reducible first | exact HB.out | apply below_alloc | apply pw_below_drewN | apply below_drew1) | exact HB.out))) : w.heap.size ≤ gb328)); clear HB; have HB := n0_; have BK328 := n1_; have GW328 := n2_; have GE328 := n3_; clear n0_ n1_ n2_ n3_; clear hb hbox hg) | ((with_reducible refine gate_callee (f := 11) rfl ?_); refine goesL_ (some 23) rfl rfl Try.func11 (by kernel_rfl) rfl #[] rfl (by (try simp only [List.map_toArray, List.map_cons, List.map_nil]); first | done | rfl | (simp only [List.length_drop, List.length_take]; rfl)) ?_; (with_reducible refine (plenumlaw35_awake.calls  true _ A8.out).mono ?_); rintro e w12 ⟨rfl, hb⟩; refine ⟨_, rfl, ?_⟩; have n0_ := Aside0.mk (blk_below (g := gb328) (o := .cells #[.int .i64 a0_0, .int .i64 a0_1] 23 (0, 0)) (by (with_reducible repeat (first | refine blk_drewN ?_ _ | refine blk_drew ?_ | refine blk_alloc ?_ _)); exact BK328.out) hb); have n1_ := Aside0.mk (below_step (by repeat (first | (with_reducible first | exact HB.out | apply below_alloc | apply pw_below_drewN | apply below_drew1 | refine below_set ?_ GE328.out) | exact HB.out)) hb); clear BK328; clear HB; have BK328 := n0_; have HB := n1_; clear n0_ n1_; (try clear hb); (try clear hb2); (try clear hk); (try clear hi)))
      go_ret
      exact ⟨by first | rfl | (simp [errW_none, errW_some] <;> rfl) | (simp [*, errW_none, errW_some] <;> rfl), by repeat (first | (with_reducible first | exact HB.out | apply below_alloc | apply pw_below_drewN | apply below_drew1 | refine below_set ?_ GE328.out) | exact HB.out)⟩
    · rw [if_neg c10] at H
      have c10b0 : decide (200 < a6) = false := decide_eq_false c10
      clear c10
      replace H := Option.bind_eq_some_iff.mp H
      obtain ⟨⟨t330, t331⟩, A130, H⟩ := H
      replace H : (if t331 = 0 then (plenumlaw35_ThermalArrives.j0 k a1 a2 a3 a4 a5 a6 t330 t331 false a0_0 a0_1) else (plenumlaw35_ThermalArrives.j0 k a1 a2 a3 a4 a5 a6 t330 t331 (t331 != 9) a0_0 a0_1)) = some r := H
      have A13 := Aside0.mk A130
      clear A130
      have HC14 := Aside0.mk H
      clear H
      go_enter Try.func10, Try.ntmps10
      go_upto_region 6 with (first | ((with_reducible refine gate_dst (N := 7) rfl ?_); refine box_event ?hg (N := 7) ?hd (cs := #[.int .i64 a0_0, .int .i64 a0_1]) (t := 23) ?hr ?_; (case hd => rfl); (case hg => rfl); (case hr => first | (go_simp; done) | (go_simp; rfl)); intro gb328 hg w15 hbox hb; have n0_ := Aside0.mk (below_step (by repeat (first | (with_reducible first | exact HB.out | apply below_alloc | apply pw_below_drewN | apply below_drew1) | exact HB.out)) hb); have n1_ := Aside0.mk (hbox); have n2_ := Aside0.mk ((by rw [hg]; exact (below_size (by repeat (first | (with_reducible first | exact HB.out | apply below_alloc | apply pw_below_drewN | apply below_drew1) | exact HB.out))) : w.heap.size ≤ gb328)); have n3_ := Aside0.mk ((by rw [hg]; exact (below_size (by repeat (first | (with_reducible first | exact HB.out | apply below_alloc | apply pw_below_drewN | apply below_drew1) | exact HB.out))) : w.heap.size ≤ gb328)); clear HB; have HB := n0_; have BK328 := n1_; have GW328 := n2_; have GE328 := n3_; clear n0_ n1_ n2_ n3_; clear hb hbox hg) | ((with_reducible refine gate_callee (f := 11) rfl ?_); refine goesL_ (some 23) rfl rfl Try.func11 (by kernel_rfl) rfl #[] rfl (by (try simp only [List.map_toArray, List.map_cons, List.map_nil]); first | done | rfl | (simp only [List.length_drop, List.length_take]; rfl)) ?_; (with_reducible refine (plenumlaw35_awake.calls  true _ A8.out).mono ?_); rintro e w16 ⟨rfl, hb⟩; refine ⟨_, rfl, ?_⟩; have n0_ := Aside0.mk (blk_below (g := gb328) (o := .cells #[.int .i64 a0_0, .int .i64 a0_1] 23 (0, 0)) (by (with_reducible repeat (first | refine blk_drewN ?_ _ | refine blk_drew ?_ | refine blk_alloc ?_ _)); exact BK328.out) hb); have n1_ := Aside0.mk (below_step (by repeat (first | (with_reducible first | exact HB.out | apply below_alloc | apply pw_below_drewN | apply below_drew1 | refine below_set ?_ GE328.out) | exact HB.out)) hb); clear BK328; clear HB; have BK328 := n0_; have HB := n1_; clear n0_ n1_; (try clear hb); (try clear hb2); (try clear hk); (try clear hi); have hcz17_0 : w16.cell? ⟨gb328, 0, none⟩ = some (.int .i64 a0_0) := (blk_cell BK328.out 0).trans rfl; have hcz17_1 : w16.cell? ⟨gb328, 1, none⟩ = some (.int .i64 a0_1) := (blk_cell BK328.out 1).trans rfl; have hfz17_0 := blk_frozen BK328.out 0; have hfz17_1 := blk_frozen BK328.out 1) | ((with_reducible refine gate_callee (f := 20) rfl ?_); refine goesL_ (some 35) rfl rfl Try.func20 (by kernel_rfl) rfl #[.agg #[.int .i64 a0_0, .int .i64 a0_1], .int .i64 a1, .int .i64 a2, .int .i64 a3, .int .i64 a4, .int .i64 a5, .int .i64 a6] rfl (by (try simp only [List.map_toArray, List.map_cons, List.map_nil]); first | done | rfl | (simp only [List.length_drop, List.length_take]; rfl)) ?_; (with_reducible refine (thermal_Reaches.calls k a0_0 a0_1 a1 a2 a3 a4 a5 a6 t330 t331 _ A13.out).mono ?_); rintro e w18 ⟨rfl, hb⟩; refine ⟨_, rfl, ?_⟩; have n0_ := Aside0.mk (blk_below (g := gb328) (o := .cells #[.int .i64 a0_0, .int .i64 a0_1] 23 (0, 0)) (by (with_reducible repeat (first | refine blk_drewN ?_ _ | refine blk_drew ?_ | refine blk_alloc ?_ _)); exact BK328.out) hb); have n1_ := Aside0.mk (below_step (by repeat (first | (with_reducible first | exact HB.out | apply below_alloc | apply pw_below_drewN | apply below_drew1 | refine below_set ?_ GE328.out) | exact HB.out)) hb); clear BK328; clear HB; have BK328 := n0_; have HB := n1_; clear n0_ n1_; (try clear hb); (try clear hb2); (try clear hk); (try clear hi)))
      (try simp only [Act.put, List.setIfInBounds_toArray, List.set_cons_zero, List.set_cons_succ])
      go_cut [43] (fun v43 wc => ∃ (kq : Nat) (x43_13 : Bool), v43 = .bool x43_13 ∧ Aside0 (plenumlaw35_ThermalArrives.j0 kq a1 a2 a3 a4 a5 a6 t330 t331 x43_13 a0_0 a0_1 = some r) ∧ Aside0 (kq ≤ k) ∧ Aside0 (wc.heap[gb328]? = some (.cells #[.int .i64 a0_0, .int .i64 a0_1] 23 (0, 0))) ∧ Aside0 (Below w.heap.size w wc))
      case first =>
        have H := HC14.out
        clear HC14
        by_cases c19 : t331 = 0
        · rw [if_pos c19] at H
          have c19b0 : (t331 == 0) = true := beq_iff_eq.mpr c19
          have c19b1 : (t331 != 0) = false := bne_eq_false_iff_eq.mpr c19
          clear c19
          (first | rw [c19b0] | (simp only [i64_w, i32_w]; rw [c19b0]) | skip)
          have H' := Aside0.mk H
          clear H
          go_wp2
          go_meet
          case rel => exact ⟨_, (false), (by first | rfl | (simp; done) | (simp [*]; done)), H', ⟨by first | omega | exact Nat.le_refl _⟩, ⟨by (with_reducible repeat (first | refine blk_drewN ?_ _ | refine blk_drew ?_ | refine blk_alloc ?_ _)); exact BK328.out⟩, ⟨by repeat (first | (with_reducible first | exact HB.out | apply below_alloc | apply pw_below_drewN | apply below_drew1 | refine below_set ?_ GE328.out) | exact HB.out)⟩⟩
        · rw [if_neg c19] at H
          have c19b0 : (t331 == 0) = false := beq_eq_false_iff_ne.mpr c19
          have c19b1 : (t331 != 0) = true := bne_iff_ne.mpr c19
          (first | rw [c19b0] | (simp only [i64_w, i32_w]; rw [c19b0]) | skip)
          have H' := Aside0.mk H
          clear H
          go_wp2
          go_meet
          case rel => exact ⟨_, ((t331 != 9)), (by first | rfl | (simp; done) | (simp [*]; done)), H', ⟨by first | omega | exact Nat.le_refl _⟩, ⟨by (with_reducible repeat (first | refine blk_drewN ?_ _ | refine blk_drew ?_ | refine blk_alloc ?_ _)); exact BK328.out⟩, ⟨by repeat (first | (with_reducible first | exact HB.out | apply below_alloc | apply pw_below_drewN | apply below_drew1 | refine below_set ?_ GE328.out) | exact HB.out)⟩⟩
      case rest =>
        clear HC14
        try clear c1
        try clear c2
        try clear p2
        try clear c9
        try clear c10
        try clear c10b0
        try clear c11
        try clear c19
        try clear c19b0
        try clear c19b1
        try clear hcz17_0
        try clear hcz17_1
        try clear hfz17_0
        try clear hfz17_1
        obtain ⟨kq, x43_13, rfl, HA, HJ13, BK328, HB⟩ := hcut
        cases kq with
        | zero => exact absurd HA.out (by simp [plenumlaw35_ThermalArrives.j0])
        | succ kj13 =>
          have H := HA.out
          clear HA
          simp only [plenumlaw35_ThermalArrives.j0] at H
          by_cases c20 : x43_13 = true
          · subst c20
            have H1 : (some (t330 == 0)) = some r := by rw [if_pos rfl] at H; exact H
            clear H
            have H := H1
            clear H1
            obtain rfl := Option.some.inj H
            go_wp2
            go_ret
            exact ⟨by first | rfl | (simp [errW_none, errW_some] <;> rfl) | (simp [*, errW_none, errW_some] <;> rfl), by repeat (first | (with_reducible first | exact HB.out | apply below_alloc | apply pw_below_drewN | apply below_drew1 | refine below_set ?_ GE328.out) | exact HB.out)⟩
          · replace c20 := Bool.eq_false_iff.mpr c20
            subst c20
            have H1 : (if t331 = 9 then (plenumlaw35_ThermalArrives.j1 kj13 a1 a2 a3 a4 a5 a6 t330 (wrap64 (a6 + 1)) a0_0 a0_1) else (plenumlaw35_ThermalArrives.j1 kj13 a1 a2 a3 a4 a5 a6 t330 t330 a0_0 a0_1)) = some r := by rw [if_neg (show ¬ (false = true) by decide)] at H; exact H
            clear H
            have H := H1
            clear H1
            have HC21 := Aside0.mk H
            clear H
            go_upto_if 48 with (fail)
            go_cut [17] (fun v17 wc => ∃ (kq : Nat) (x17_20 : Int), v17 = .int .i64 x17_20 ∧ Aside0 (plenumlaw35_ThermalArrives.j1 kq a1 a2 a3 a4 a5 a6 t330 x17_20 a0_0 a0_1 = some r) ∧ Aside0 (kq ≤ kj13) ∧ Aside0 (wc.heap[gb328]? = some (.cells #[.int .i64 a0_0, .int .i64 a0_1] 23 (0, 0))) ∧ Aside0 (Below w.heap.size w wc))
            case first =>
              have H := HC21.out
              clear HC21
              by_cases c22 : t331 = 9
              · rw [if_pos c22] at H
                have c22b0 : (t331 == 9) = true := beq_iff_eq.mpr c22
                have c22b1 : (t331 != 9) = false := bne_eq_false_iff_eq.mpr c22
                clear c22
                (first | rw [c22b0] | (simp only [i64_w, i32_w]; rw [c22b0]) | skip)
                have H' := Aside0.mk H
                clear H
                go_wp2
                go_meet
                case rel => exact ⟨_, (wrap64 (a6 + 1)), (by first | rfl | (simp; done) | (simp [*]; done)), H', ⟨by have := HJ13.out; first | omega | exact Nat.le_refl _⟩, ⟨by (with_reducible repeat (first | refine blk_drewN ?_ _ | refine blk_drew ?_ | refine blk_alloc ?_ _)); exact BK328.out⟩, ⟨by repeat (first | (with_reducible first | exact HB.out | apply below_alloc | apply pw_below_drewN | apply below_drew1 | refine below_set ?_ GE328.out) | exact HB.out)⟩⟩
              · rw [if_neg c22] at H
                have c22b0 : (t331 == 9) = false := beq_eq_false_iff_ne.mpr c22
                have c22b1 : (t331 != 9) = true := bne_iff_ne.mpr c22
                (first | rw [c22b0] | (simp only [i64_w, i32_w]; rw [c22b0]) | skip)
                have H' := Aside0.mk H
                clear H
                go_wp2
                go_meet
                case rel => exact ⟨_, (t330), (by first | rfl | (simp; done) | (simp [*]; done)), H', ⟨by have := HJ13.out; first | omega | exact Nat.le_refl _⟩, ⟨by (with_reducible repeat (first | refine blk_drewN ?_ _ | refine blk_drew ?_ | refine blk_alloc ?_ _)); exact BK328.out⟩, ⟨by repeat (first | (with_reducible first | exact HB.out | apply below_alloc | apply pw_below_drewN | apply below_drew1 | refine below_set ?_ GE328.out) | exact HB.out)⟩⟩
            case rest =>
              clear HC21
              try clear c1
              try clear c2
              try clear p2
              try clear p6
              try clear c9
              try clear c10
              try clear c10b0
              try clear c11
              try clear c19
              try clear c19b0
              try clear c19b1
              try clear c20
              try clear c22
              try clear c22b0
              try clear c22b1
              try clear hcz17_0
              try clear hcz17_1
              try clear hfz17_0
              try clear hfz17_1
              try clear p2
              obtain ⟨kq, x17_20, rfl, HA, HJ20, BK328, HB⟩ := hcut
              cases kq with
              | zero => exact absurd HA.out (by simp [plenumlaw35_ThermalArrives.j1])
              | succ kj20 =>
                have H := HA.out
                clear HA
                simp only [plenumlaw35_ThermalArrives.j1] at H
                have H' := Aside0.mk H
                clear H
                go_wp2
                go_loopg [18, 19] kj20 (fun kq v18 v19 w' => ∃ (x18_3 : Int) (x19_3 : Int), v18 = .int .i64 x18_3 ∧ v19 = .int .i64 x19_3 ∧ Aside0 (plenumlaw35_ThermalArrives.l0 kq a1 a2 a3 a4 a5 a6 t330 x17_20 x18_3 x19_3 a0_0 a0_1 = some r) ∧ Aside0 (kq ≤ kj20) ∧ Aside0 (w'.heap[gb328]? = some (.cells #[.int .i64 a0_0, .int .i64 a0_1] 23 (0, 0))) ∧ Aside0 (Below w.heap.size w w'))
                case atStart => exact ⟨(a1), (0), (by first | rfl | (simp; done) | (simp [*]; done)), (by first | rfl | (simp; done) | (simp [*]; done)), H', ⟨Nat.le_refl _⟩, ⟨by (with_reducible repeat (first | refine blk_drewN ?_ _ | refine blk_drew ?_ | refine blk_alloc ?_ _)); exact BK328.out⟩, ⟨by repeat (first | (with_reducible first | exact HB.out | apply below_alloc | apply pw_below_drewN | apply below_drew1 | refine below_set ?_ GE328.out) | exact HB.out)⟩⟩
                case round =>
                  clear H'
                  try clear c1
                  try clear c2
                  try clear p2
                  try clear p6
                  try clear c9
                  try clear c10
                  try clear c10b0
                  try clear c11
                  try clear c19
                  try clear c19b0
                  try clear c19b1
                  try clear c20
                  try clear c22
                  try clear c22b0
                  try clear c22b1
                  try clear hcz17_0
                  try clear hcz17_1
                  try clear hfz17_0
                  try clear hfz17_1
                  try clear p2
                  try clear p6
                  obtain ⟨x18_3, x19_3, rfl, rfl, HA, HK3, BK328, HB⟩ := hrel
                  cases gk with
                  | zero => exact absurd HA.out (by simp [plenumlaw35_ThermalArrives.l0])
                  | succ k3 =>
                    have H := HA.out
                    clear HA
                    simp only [plenumlaw35_ThermalArrives.l0] at H
                    have HC23 := Aside0.mk H
                    clear H
                    go_upto_region 13 with (fail)
                    go_cut [59] (fun v59 wc => ∃ (kq : Nat) (x59_22 : Bool), v59 = .bool x59_22 ∧ Aside0 (plenumlaw35_ThermalArrives.j3 kq a1 a2 a3 a4 a5 a6 t330 x17_20 x18_3 x19_3 x59_22 a0_0 a0_1 = some r) ∧ Aside0 (kq ≤ k3) ∧ Aside0 (wc.heap[gb328]? = some (.cells #[.int .i64 a0_0, .int .i64 a0_1] 23 (0, 0))) ∧ Aside0 (Below w.heap.size w wc))
                    case first =>
                      have H := HC23.out
                      clear HC23
                      by_cases c24 : x19_3 ≤ a6
                      · rw [if_pos c24] at H
                        have c24b0 : decide (x19_3 ≤ a6) = true := decide_eq_true c24
                        clear c24
                        (first | rw [c24b0] | (simp only [i64_w, i32_w]; rw [c24b0]) | skip)
                        have H' := Aside0.mk H
                        clear H
                        go_wp2
                        go_meet
                        case rel => exact ⟨_, (decide (x19_3 ≤ x17_20)), (by first | rfl | (simp; done) | (simp [*]; done)), H', ⟨by have := HJ13.out; have := HJ20.out; have := HK3.out; first | omega | exact Nat.le_refl _⟩, ⟨by (with_reducible repeat (first | refine blk_drewN ?_ _ | refine blk_drew ?_ | refine blk_alloc ?_ _)); exact BK328.out⟩, ⟨by repeat (first | (with_reducible first | exact HB.out | apply below_alloc | apply pw_below_drewN | apply below_drew1 | refine below_set ?_ GE328.out) | exact HB.out)⟩⟩
                      · rw [if_neg c24] at H
                        have c24b0 : decide (x19_3 ≤ a6) = false := decide_eq_false c24
                        clear c24
                        (first | rw [c24b0] | (simp only [i64_w, i32_w]; rw [c24b0]) | skip)
                        have H' := Aside0.mk H
                        clear H
                        go_wp2
                        go_meet
                        case rel => exact ⟨_, (false), (by first | rfl | (simp; done) | (simp [*]; done)), H', ⟨by have := HJ13.out; have := HJ20.out; have := HK3.out; first | omega | exact Nat.le_refl _⟩, ⟨by (with_reducible repeat (first | refine blk_drewN ?_ _ | refine blk_drew ?_ | refine blk_alloc ?_ _)); exact BK328.out⟩, ⟨by repeat (first | (with_reducible first | exact HB.out | apply below_alloc | apply pw_below_drewN | apply below_drew1 | refine below_set ?_ GE328.out) | exact HB.out)⟩⟩
                    case rest =>
                      clear HC23
                      try clear c1
                      try clear c2
                      try clear p2
                      try clear p6
                      try clear c9
                      try clear c10
                      try clear c10b0
                      try clear c11
                      try clear c19
                      try clear c19b0
                      try clear c19b1
                      try clear c20
                      try clear c22
                      try clear c22b0
                      try clear c22b1
                      try clear c24
                      try clear c24b0
                      try clear hcz17_0
                      try clear hcz17_1
                      try clear hfz17_0
                      try clear hfz17_1
                      try clear p2
                      try clear p6
                      obtain ⟨kq, x59_22, rfl, HA, HJ22, BK328, HB⟩ := hcut
                      cases kq with
                      | zero => exact absurd HA.out (by simp [plenumlaw35_ThermalArrives.j3])
                      | succ kj22 =>
                        have H := HA.out
                        clear HA
                        simp only [plenumlaw35_ThermalArrives.j3] at H
                        by_cases c25 : x59_22 = true
                        · subst c25
                          have H1 : (if x18_3 = a4 then (plenumlaw35_ThermalArrives.j4 kj22 a1 a2 a3 a4 a5 a6 t330 x17_20 x18_3 x19_3 true a0_0 a0_1) else (plenumlaw35_ThermalArrives.j4 kj22 a1 a2 a3 a4 a5 a6 t330 x17_20 x18_3 x19_3 ((decide (x18_3 > a4)) != (decide (a1 > a4))) a0_0 a0_1)) = some r := by rw [if_pos rfl] at H; exact H
                          clear H
                          have H := H1
                          clear H1
                          have HC26 := Aside0.mk H
                          clear H
                          go_upto_region 15 with (fail)
                          go_cut [20] (fun v20 wc => ∃ (kq : Nat) (x20_25 : Bool), v20 = .bool x20_25 ∧ Aside0 (plenumlaw35_ThermalArrives.j4 kq a1 a2 a3 a4 a5 a6 t330 x17_20 x18_3 x19_3 x20_25 a0_0 a0_1 = some r) ∧ Aside0 (kq ≤ kj22) ∧ Aside0 (wc.heap[gb328]? = some (.cells #[.int .i64 a0_0, .int .i64 a0_1] 23 (0, 0))) ∧ Aside0 (Below w.heap.size w wc))
                          case first =>
                            have H := HC26.out
                            clear HC26
                            by_cases c27 : x18_3 = a4
                            · rw [if_pos c27] at H
                              have c27b0 : (x18_3 == a4) = true := beq_iff_eq.mpr c27
                              have c27b1 : (x18_3 != a4) = false := bne_eq_false_iff_eq.mpr c27
                              clear c27
                              (first | rw [c27b0] | (simp only [i64_w, i32_w]; rw [c27b0]) | skip)
                              have H' := Aside0.mk H
                              clear H
                              go_wp2
                              go_meet
                              case rel => exact ⟨_, (true), (by first | rfl | (simp; done) | (simp [*]; done)), H', ⟨by have := HJ13.out; have := HJ20.out; have := HK3.out; have := HJ22.out; first | omega | exact Nat.le_refl _⟩, ⟨by (with_reducible repeat (first | refine blk_drewN ?_ _ | refine blk_drew ?_ | refine blk_alloc ?_ _)); exact BK328.out⟩, ⟨by repeat (first | (with_reducible first | exact HB.out | apply below_alloc | apply pw_below_drewN | apply below_drew1 | refine below_set ?_ GE328.out) | exact HB.out)⟩⟩
                            · rw [if_neg c27] at H
                              have c27b0 : (x18_3 == a4) = false := beq_eq_false_iff_ne.mpr c27
                              have c27b1 : (x18_3 != a4) = true := bne_iff_ne.mpr c27
                              (first | rw [c27b0] | (simp only [i64_w, i32_w]; rw [c27b0]) | skip)
                              have H' := Aside0.mk H
                              clear H
                              go_wp2
                              go_meet
                              case rel => exact ⟨_, (((decide (x18_3 > a4)) != (decide (a1 > a4)))), (by first | rfl | (simp; done) | (simp [*]; done)), H', ⟨by have := HJ13.out; have := HJ20.out; have := HK3.out; have := HJ22.out; first | omega | exact Nat.le_refl _⟩, ⟨by (with_reducible repeat (first | refine blk_drewN ?_ _ | refine blk_drew ?_ | refine blk_alloc ?_ _)); exact BK328.out⟩, ⟨by repeat (first | (with_reducible first | exact HB.out | apply below_alloc | apply pw_below_drewN | apply below_drew1 | refine below_set ?_ GE328.out) | exact HB.out)⟩⟩
                          case rest =>
                            clear HC26
                            try clear c1
                            try clear c2
                            try clear p2
                            try clear p6
                            try clear c9
                            try clear c10
                            try clear c10b0
                            try clear c11
                            try clear c19
                            try clear c19b0
                            try clear c19b1
                            try clear c20
                            try clear c22
                            try clear c22b0
                            try clear c22b1
                            try clear c24
                            try clear c24b0
                            try clear c25
                            try clear c27
                            try clear c27b0
                            try clear c27b1
                            try clear hcz17_0
                            try clear hcz17_1
                            try clear hfz17_0
                            try clear hfz17_1
                            try clear p2
                            try clear p6
                            obtain ⟨kq, x20_25, rfl, HA, HJ25, BK328, HB⟩ := hcut
                            cases kq with
                            | zero => exact absurd HA.out (by simp [plenumlaw35_ThermalArrives.j4])
                            | succ kj25 =>
                              have H := HA.out
                              clear HA
                              simp only [plenumlaw35_ThermalArrives.j4] at H
                              by_cases c28 : (x20_25 != (x19_3 == x17_20)) = true
                              · rw [if_pos c28] at H
                                have c28b0 : (x20_25 != (x19_3 == x17_20)) = true := c28
                                (try (have c28b1 : decide (x20_25 = (x19_3 == x17_20)) = false := by simpa using c28))
                                (try (have c28b2 : (x20_25 == (x19_3 == x17_20)) = false := by simpa using c28))
                                (try (have c28b3 : ¬ (x20_25 = (x19_3 == x17_20)) := by simpa using c28))
                                clear c28
                                obtain rfl := Option.some.inj H
                                go_wp2
                                go_ret
                                exact ⟨by first | rfl | (simp [errW_none, errW_some] <;> rfl) | (simp [*, errW_none, errW_some] <;> rfl), by repeat (first | (with_reducible first | exact HB.out | apply below_alloc | apply pw_below_drewN | apply below_drew1 | refine below_set ?_ GE328.out) | exact HB.out)⟩
                              · rw [if_neg c28] at H
                                have c28b0 : (x20_25 != (x19_3 == x17_20)) = false := by simpa using c28
                                (try (have c28b1 : decide (x20_25 = (x19_3 == x17_20)) = true := by simpa using c28))
                                (try (have c28b2 : (x20_25 == (x19_3 == x17_20)) = true := by simpa using c28))
                                clear c28
                                replace H := Option.bind_eq_some_iff.mp H
                                obtain ⟨⟨t332, t333⟩, A290, H⟩ := H
                                replace H : (if t333 = 0 then (plenumlaw35_ThermalArrives.l0 kj25 a1 a2 a3 a4 a5 a6 t330 x17_20 t332 (wrap64 (x19_3 + 1)) a0_0 a0_1) else (some false)) = some r := H
                                have A29 := Aside0.mk A290
                                clear A290
                                by_cases c30 : t333 = 0
                                · rw [if_pos c30] at H
                                  have c30b0 : (t333 == 0) = true := beq_iff_eq.mpr c30
                                  have c30b1 : (t333 != 0) = false := bne_eq_false_iff_eq.mpr c30
                                  clear c30
                                  have H' := Aside0.mk H
                                  clear H
                                  have hcz31_0 : wc.cell? ⟨gb328, 0, none⟩ = some (.int .i64 a0_0) := (blk_cell BK328.out 0).trans rfl
                                  have hcz31_1 : wc.cell? ⟨gb328, 1, none⟩ = some (.int .i64 a0_1) := (blk_cell BK328.out 1).trans rfl
                                  have hfz31_0 := blk_frozen BK328.out 0
                                  have hfz31_1 := blk_frozen BK328.out 1
                                  go_wp2_with (first | ((with_reducible refine gate_callee (f := 12) rfl ?_); refine goesL_ (some 85) rfl rfl Try.func12 (by kernel_rfl) rfl #[.agg #[.int .i64 a0_0, .int .i64 a0_1], .int .i64 x18_3, .int .i64 a2, .int .i64 a3, .int .i64 a5] rfl (by (try simp only [List.map_toArray, List.map_cons, List.map_nil]); first | done | rfl | (simp only [List.length_drop, List.length_take]; rfl)) ?_; (with_reducible refine (thermal_Step.calls kj25 a0_0 a0_1 x18_3 a2 a3 a5 t332 t333 _ A29.out).mono ?_); rintro e w32 ⟨rfl, hb⟩; refine ⟨_, rfl, ?_⟩; have n0_ := Aside0.mk (blk_below (g := gb328) (o := .cells #[.int .i64 a0_0, .int .i64 a0_1] 23 (0, 0)) (by (with_reducible repeat (first | refine blk_drewN ?_ _ | refine blk_drew ?_ | refine blk_alloc ?_ _)); exact BK328.out) hb); have n1_ := Aside0.mk (below_step (by repeat (first | (with_reducible first | exact HB.out | apply below_alloc | apply pw_below_drewN | apply below_drew1 | refine below_set ?_ GE328.out) | exact HB.out)) hb); clear BK328; clear HB; have BK328 := n0_; have HB := n1_; clear n0_ n1_; (try clear hb); (try clear hb2); (try clear hk); (try clear hi)))
                                  go_roundg kj25
                                  case measure => have := HJ13.out; have := HJ20.out; have := HK3.out; have := HJ22.out; have := HJ25.out; omega
                                  case rel => exact ⟨(t332), (wrap64 (x19_3 + 1)), (by first | rfl | (simp; done) | (simp [*]; done)), (by first | rfl | (simp; done) | (simp [*]; done)), H', ⟨by have := HJ13.out; have := HJ20.out; have := HK3.out; have := HJ22.out; have := HJ25.out; omega⟩, ⟨by (with_reducible repeat (first | refine blk_drewN ?_ _ | refine blk_drew ?_ | refine blk_alloc ?_ _)); exact BK328.out⟩, ⟨by repeat (first | (with_reducible first | exact HB.out | apply below_alloc | apply pw_below_drewN | apply below_drew1 | refine below_set ?_ GE328.out) | exact HB.out)⟩⟩
                                · rw [if_neg c30] at H
                                  have c30b0 : (t333 == 0) = false := beq_eq_false_iff_ne.mpr c30
                                  have c30b1 : (t333 != 0) = true := bne_iff_ne.mpr c30
                                  obtain rfl := Option.some.inj H
                                  have hcz33_0 : wc.cell? ⟨gb328, 0, none⟩ = some (.int .i64 a0_0) := (blk_cell BK328.out 0).trans rfl
                                  have hcz33_1 : wc.cell? ⟨gb328, 1, none⟩ = some (.int .i64 a0_1) := (blk_cell BK328.out 1).trans rfl
                                  have hfz33_0 := blk_frozen BK328.out 0
                                  have hfz33_1 := blk_frozen BK328.out 1
                                  go_wp2_with (first | ((with_reducible refine gate_callee (f := 12) rfl ?_); refine goesL_ (some 85) rfl rfl Try.func12 (by kernel_rfl) rfl #[.agg #[.int .i64 a0_0, .int .i64 a0_1], .int .i64 x18_3, .int .i64 a2, .int .i64 a3, .int .i64 a5] rfl (by (try simp only [List.map_toArray, List.map_cons, List.map_nil]); first | done | rfl | (simp only [List.length_drop, List.length_take]; rfl)) ?_; (with_reducible refine (thermal_Step.calls kj25 a0_0 a0_1 x18_3 a2 a3 a5 t332 t333 _ A29.out).mono ?_); rintro e w34 ⟨rfl, hb⟩; refine ⟨_, rfl, ?_⟩; have n0_ := Aside0.mk (blk_below (g := gb328) (o := .cells #[.int .i64 a0_0, .int .i64 a0_1] 23 (0, 0)) (by (with_reducible repeat (first | refine blk_drewN ?_ _ | refine blk_drew ?_ | refine blk_alloc ?_ _)); exact BK328.out) hb); have n1_ := Aside0.mk (below_step (by repeat (first | (with_reducible first | exact HB.out | apply below_alloc | apply pw_below_drewN | apply below_drew1 | refine below_set ?_ GE328.out) | exact HB.out)) hb); clear BK328; clear HB; have BK328 := n0_; have HB := n1_; clear n0_ n1_; (try clear hb); (try clear hb2); (try clear hk); (try clear hi)))
                                  go_ret
                                  exact ⟨by first | rfl | (simp [errW_none, errW_some] <;> rfl) | (simp [*, errW_none, errW_some] <;> rfl), by repeat (first | (with_reducible first | exact HB.out | apply below_alloc | apply pw_below_drewN | apply below_drew1 | refine below_set ?_ GE328.out) | exact HB.out)⟩
                        · replace c25 := Bool.eq_false_iff.mpr c25
                          subst c25
                          have H1 : (some (decide (t330 ≤ a6))) = some r := by rw [if_neg (show ¬ (false = true) by decide)] at H; exact H
                          clear H
                          have H := H1
                          clear H1
                          obtain rfl := Option.some.inj H
                          go_wp2
                          go_ret
                          exact ⟨by first | rfl | (simp [errW_none, errW_some] <;> rfl) | (simp [*, errW_none, errW_some] <;> rfl), by repeat (first | (with_reducible first | exact HB.out | apply below_alloc | apply pw_below_drewN | apply below_drew1 | refine below_set ?_ GE328.out) | exact HB.out)⟩
  · replace c9 := Bool.eq_false_iff.mpr c9
    subst c9
    have H1 : (some false) = some r := by rw [if_neg (show ¬ (false = true) by decide)] at H; exact H
    clear H
    have H := H1
    clear H1
    obtain rfl := Option.some.inj H
    go_enter Try.func10, Try.ntmps10
    go_wp2_with (first | ((with_reducible refine gate_dst (N := 7) rfl ?_); refine box_event ?hg (N := 7) ?hd (cs := #[.int .i64 a0_0, .int .i64 a0_1]) (t := 23) ?hr ?_; (case hd => rfl); (case hg => rfl); (case hr => first | (go_simp; done) | (go_simp; rfl)); intro gb328 hg w35 hbox hb; have n0_ := Aside0.mk (below_step (by repeat (first | (with_reducible first | exact HB.out | apply below_alloc | apply pw_below_drewN | apply below_drew1) | exact HB.out)) hb); have n1_ := Aside0.mk (hbox); have n2_ := Aside0.mk ((by rw [hg]; exact (below_size (by repeat (first | (with_reducible first | exact HB.out | apply below_alloc | apply pw_below_drewN | apply below_drew1) | exact HB.out))) : w.heap.size ≤ gb328)); have n3_ := Aside0.mk ((by rw [hg]; exact (below_size (by repeat (first | (with_reducible first | exact HB.out | apply below_alloc | apply pw_below_drewN | apply below_drew1) | exact HB.out))) : w.heap.size ≤ gb328)); clear HB; have HB := n0_; have BK328 := n1_; have GW328 := n2_; have GE328 := n3_; clear n0_ n1_ n2_ n3_; clear hb hbox hg) | ((with_reducible refine gate_callee (f := 11) rfl ?_); refine goesL_ (some 23) rfl rfl Try.func11 (by kernel_rfl) rfl #[] rfl (by (try simp only [List.map_toArray, List.map_cons, List.map_nil]); first | done | rfl | (simp only [List.length_drop, List.length_take]; rfl)) ?_; (with_reducible refine (plenumlaw35_awake.calls  false _ A8.out).mono ?_); rintro e w36 ⟨rfl, hb⟩; refine ⟨_, rfl, ?_⟩; have n0_ := Aside0.mk (blk_below (g := gb328) (o := .cells #[.int .i64 a0_0, .int .i64 a0_1] 23 (0, 0)) (by (with_reducible repeat (first | refine blk_drewN ?_ _ | refine blk_drew ?_ | refine blk_alloc ?_ _)); exact BK328.out) hb); have n1_ := Aside0.mk (below_step (by repeat (first | (with_reducible first | exact HB.out | apply below_alloc | apply pw_below_drewN | apply below_drew1 | refine below_set ?_ GE328.out) | exact HB.out)) hb); clear BK328; clear HB; have BK328 := n0_; have HB := n1_; clear n0_ n1_; (try clear hb); (try clear hb2); (try clear hk); (try clear hi)))
    go_ret
    exact ⟨by first | rfl | (simp [errW_none, errW_some] <;> rfl) | (simp [*, errW_none, errW_some] <;> rfl), by repeat (first | (with_reducible first | exact HB.out | apply below_alloc | apply pw_below_drewN | apply below_drew1 | refine below_set ?_ GE328.out) | exact HB.out)⟩

/-- THE ONE PURE STATEMENT of plenumlaw35_ThermalArrives. -/
def plenumlaw35_ThermalArrives.Pure : Prop := ∀ (a0_0 : Int) (a0_1 : Int) (a1 : Int) (a2 : Int) (a3 : Int) (a4 : Int) (a5 : Int) (a6 : Int), (Lit.int .i64 a0_0).wf = true → (Lit.int .i64 a0_1).wf = true → (Lit.int .i64 a1).wf = true → (Lit.int .i64 a2).wf = true → (Lit.int .i64 a3).wf = true → (Lit.int .i64 a4).wf = true → (Lit.int .i64 a5).wf = true → (Lit.int .i64 a6).wf = true → ∃ k, plenumlaw35_ThermalArrives.f k a0_0 a0_1 a1 a2 a3 a4 a5 a6 = some true
theorem plenumlaw35_ThermalArrives.walk (P : plenumlaw35_ThermalArrives.Pure) (a0_0 : Int) (a0_1 : Int) (a1 : Int) (a2 : Int) (a3 : Int) (a4 : Int) (a5 : Int) (a6 : Int) (w : World) (wa0_0 : (Lit.int .i64 a0_0).wf = true) (wa0_1 : (Lit.int .i64 a0_1).wf = true) (wa1 : (Lit.int .i64 a1).wf = true) (wa2 : (Lit.int .i64 a2).wf = true) (wa3 : (Lit.int .i64 a3).wf = true) (wa4 : (Lit.int .i64 a4).wf = true) (wa5 : (Lit.int .i64 a5).wf = true) (wa6 : (Lit.int .i64 a6).wf = true) :
    Calls Try.prog 10 #[.agg #[.int .i64 a0_0, .int .i64 a0_1], .int .i64 a1, .int .i64 a2, .int .i64 a3, .int .i64 a4, .int .i64 a5, .int .i64 a6] w fun e w' => e = .returned (.bool true) ∧ Below w.heap.size w w' := by
  obtain ⟨k, h⟩ := P a0_0 a0_1 a1 a2 a3 a4 a5 a6 wa0_0 wa0_1 wa1 wa2 wa3 wa4 wa5 wa6
  refine (plenumlaw35_ThermalArrives.calls k a0_0 a0_1 a1 a2 a3 a4 a5 a6 true w h).mono ?_
  rintro e w' ⟨rfl, hd⟩
  exact ⟨rfl, hd⟩

end Go.Proofs.Ythlokfpboinmpaa.PT
