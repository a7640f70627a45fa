-- Laid by hp.py (a program of this session's) through the kit's printer.
import Derived.Test.YthlokfpboinmpaaPTx0
import Derived.Test.YthlokfpboinmpaaPTx4
import Derived.Test.YthlokfpboinmpaaPTx6
import Derived.Test.YthlokfpboinmpaaPTx9
namespace Go.Proofs.Ythlokfpboinmpaa.PT
open Go.RowKit Go.Proofs.YthlokfpboinmpaaW.PrintWords Go.Proofs.YthlokfpboinmpaaW.PrintLast Go.Proofs.YthlokfpboinmpaaW.PrintMore
attribute [local go_sem] max2_int min2_int max_two min_two max_three min_three max_four min_four   -- for this text's walks alone
set_option linter.unusedVariables false
set_option linter.unusedSimpArgs false

/-! ### plenumlaw35_ThermalRuns: function 4 -/
mutual
def plenumlaw35_ThermalRuns.j0 : Nat → Int → List Int → List Int → Int → Bool → Int → Int → Option (Bool)
  | 0, _, _, _, _, _, _, _ => none
  | k + 1, x1, x2, x3, x4, x35, x242000, x242001 => if x35 = true then (some true) else ((thermal_Run.f k x242000 x242001 x1 x2 x3 x4).bind fun bt243 => ((plenumref35_Run.f k x242000 x242001 x1 x2 x3 x4).bind fun bt247 => (if bt243.2 = bt247.2 then (plenumlaw35_ThermalRuns.j1 k bt243.1 bt247.1 ((bt243.1.length : Int) != (bt247.1.length : Int))) else (plenumlaw35_ThermalRuns.j1 k bt243.1 bt247.1 true))))
def plenumlaw35_ThermalRuns.j1 : Nat → List Int → List Int → Bool → Option (Bool)
  | 0, _, _, _ => none
  | k + 1, x11, x13, x63 => if x63 = true then (some false) else (plenumlaw35_ThermalRuns.l0 k x11 x13 0)
def plenumlaw35_ThermalRuns.l0 : Nat → List Int → List Int → Int → Option (Bool)
  | 0, _, _, _ => none
  | k + 1, x11, x13, x15 => if x15 < (x11.length : Int) then (if 0 ≤ x15 then (if x15 < (x13.length : Int) then (if (rd x11 x15) = (rd x13 x15) then (plenumlaw35_ThermalRuns.l0 k x11 x13 (wrap64 (x15 + 1))) else (some false)) else (none)) else (none)) else (some true)
end
def plenumlaw35_ThermalRuns.f (k : Nat) (a0_0 : Int) (a0_1 : Int) (a1 : Int) (l2 : List Int) (l3 : List Int) (a4 : Int) : Option (Bool) := (plenumlaw35_awake.f).bind fun t242 => (if t242 = true then (if (l2.length : Int) > 100 then (if (l2.length : Int) ≤ 10000 then (plenumlaw35_ThermalRuns.j0 k a1 l2 l3 a4 true a0_0 a0_1) else (if (l3.length : Int) > 100 then (plenumlaw35_ThermalRuns.j0 k a1 l2 l3 a4 (decide ((l3.length : Int) ≤ 10000)) a0_0 a0_1) else (plenumlaw35_ThermalRuns.j0 k a1 l2 l3 a4 false a0_0 a0_1))) else (if (l3.length : Int) > 100 then (plenumlaw35_ThermalRuns.j0 k a1 l2 l3 a4 (decide ((l3.length : Int) ≤ 10000)) a0_0 a0_1) else (plenumlaw35_ThermalRuns.j0 k a1 l2 l3 a4 false a0_0 a0_1))) else (some false))
theorem plenumlaw35_ThermalRuns.mono_l : ∀ k, (∀ y0 y1 y2 y3 y4 y5 y6, LeO (plenumlaw35_ThermalRuns.j0 k y0 y1 y2 y3 y4 y5 y6) (plenumlaw35_ThermalRuns.j0 (k + 1) y0 y1 y2 y3 y4 y5 y6)) ∧ (∀ y0 y1 y2, LeO (plenumlaw35_ThermalRuns.j1 k y0 y1 y2) (plenumlaw35_ThermalRuns.j1 (k + 1) y0 y1 y2)) ∧ (∀ y0 y1 y2, LeO (plenumlaw35_ThermalRuns.l0 k y0 y1 y2) (plenumlaw35_ThermalRuns.l0 (k + 1) y0 y1 y2))
  | 0 => ⟨fun _ _ _ _ _ _ _ r h => by simp [plenumlaw35_ThermalRuns.j0] at h, fun _ _ _ r h => by simp [plenumlaw35_ThermalRuns.j1] at h, fun _ _ _ r h => by simp [plenumlaw35_ThermalRuns.l0] at h⟩
  | k + 1 => by
    obtain ⟨ih0, ih1, ih2⟩ := plenumlaw35_ThermalRuns.mono_l k
    refine ⟨?_, ?_, ?_⟩
    · intro y0 y1 y2 y3 y4 y5 y6
      unfold plenumlaw35_ThermalRuns.j0
      repeat' first
      | (with_reducible exact ih0 _ _ _ _ _ _ _)
      | (with_reducible exact ih1 _ _ _)
      | (with_reducible exact ih2 _ _ _)
      | (with_reducible exact plenumref35_Run.mono _ _ _ _ _ _ _)
      | (with_reducible exact thermal_Run.mono _ _ _ _ _ _ _)
      | (with_reducible exact LeO.refl _)
      | (with_reducible exact LeO.none _)
      | (with_reducible refine LeO.ite ?_ ?_)
      | (with_reducible refine LeO.bind ?_ (fun _ => ?_))
      | exact ih0 _ _ _ _ _ _ _
      | exact ih1 _ _ _
      | exact ih2 _ _ _
      | exact plenumref35_Run.mono _ _ _ _ _ _ _
      | exact thermal_Run.mono _ _ _ _ _ _ _
      | exact LeO.none _
      | refine LeO.ite ?_ ?_
      | refine LeO.bind ?_ (fun _ => ?_)
    · intro y0 y1 y2
      unfold plenumlaw35_ThermalRuns.j1
      repeat' first
      | (with_reducible exact ih0 _ _ _ _ _ _ _)
      | (with_reducible exact ih1 _ _ _)
      | (with_reducible exact ih2 _ _ _)
      | (with_reducible exact plenumref35_Run.mono _ _ _ _ _ _ _)
      | (with_reducible exact thermal_Run.mono _ _ _ _ _ _ _)
      | (with_reducible exact LeO.refl _)
      | (with_reducible exact LeO.none _)
      | (with_reducible refine LeO.ite ?_ ?_)
      | (with_reducible refine LeO.bind ?_ (fun _ => ?_))
      | exact ih0 _ _ _ _ _ _ _
      | exact ih1 _ _ _
      | exact ih2 _ _ _
      | exact plenumref35_Run.mono _ _ _ _ _ _ _
      | exact thermal_Run.mono _ _ _ _ _ _ _
      | exact LeO.none _
      | refine LeO.ite ?_ ?_
      | refine LeO.bind ?_ (fun _ => ?_)
    · intro y0 y1 y2
      unfold plenumlaw35_ThermalRuns.l0
      repeat' first
      | (with_reducible exact ih0 _ _ _ _ _ _ _)
      | (with_reducible exact ih1 _ _ _)
      | (with_reducible exact ih2 _ _ _)
      | (with_reducible exact plenumref35_Run.mono _ _ _ _ _ _ _)
      | (with_reducible exact thermal_Run.mono _ _ _ _ _ _ _)
      | (with_reducible exact LeO.refl _)
      | (with_reducible exact LeO.none _)
      | (with_reducible refine LeO.ite ?_ ?_)
      | (with_reducible refine LeO.bind ?_ (fun _ => ?_))
      | exact ih0 _ _ _ _ _ _ _
      | exact ih1 _ _ _
      | exact ih2 _ _ _
      | exact plenumref35_Run.mono _ _ _ _ _ _ _
      | exact thermal_Run.mono _ _ _ _ _ _ _
      | exact LeO.none _
      | refine LeO.ite ?_ ?_
      | refine LeO.bind ?_ (fun _ => ?_)
theorem plenumlaw35_ThermalRuns.mono : ∀ a0 a1 a2 a3 a4 a5 k, LeO (plenumlaw35_ThermalRuns.f k a0 a1 a2 a3 a4 a5) (plenumlaw35_ThermalRuns.f (k + 1) a0 a1 a2 a3 a4 a5) := by
  intro a0 a1 a2 a3 a4 a5 k
  obtain ⟨ih0, ih1, ih2⟩ := plenumlaw35_ThermalRuns.mono_l k
  unfold plenumlaw35_ThermalRuns.f
  repeat' first
      | (with_reducible exact ih0 _ _ _ _ _ _ _)
      | (with_reducible exact ih1 _ _ _)
      | (with_reducible exact ih2 _ _ _)
      | (with_reducible exact plenumref35_Run.mono _ _ _ _ _ _ _)
      | (with_reducible exact thermal_Run.mono _ _ _ _ _ _ _)
      | (with_reducible exact LeO.refl _)
      | (with_reducible exact LeO.none _)
      | (with_reducible refine LeO.ite ?_ ?_)
      | (with_reducible refine LeO.bind ?_ (fun _ => ?_))
      | exact ih0 _ _ _ _ _ _ _
      | exact ih1 _ _ _
      | exact ih2 _ _ _
      | exact plenumref35_Run.mono _ _ _ _ _ _ _
      | exact thermal_Run.mono _ _ _ _ _ _ _
      | exact LeO.none _
      | refine LeO.ite ?_ ?_
      | refine LeO.bind ?_ (fun _ => ?_)
set_option maxHeartbeats 8000000 in
set_option maxRecDepth 100000 in
theorem plenumlaw35_ThermalRuns.calls (k : Nat) (a0_0 : Int) (a0_1 : Int) (a1 : Int) (A2 : Option Addr) (c2 : Nat) (l2 : List Int) (A3 : Option Addr) (c3 : Nat) (l3 : List Int) (a4 : Int) (r : Bool) (w : World) (hr2 : Kd.C (Kd.int .i64) w A2 l2.length l2) (hc2 : l2.length ≤ c2) (hr3 : Kd.C (Kd.int .i64) w A3 l3.length l3) (hc3 : l3.length ≤ c3) (h : plenumlaw35_ThermalRuns.f k a0_0 a0_1 a1 l2 l3 a4 = some r) :
    Calls Try.prog 4 #[.agg #[.int .i64 a0_0, .int .i64 a0_1], .int .i64 a1, .slice A2 l2.length c2, .slice A3 l3.length c3, .int .i64 a4] w fun e w' => e = .returned (.bool r) ∧ Below w.heap.size w w' := by
  have hu23 := Try.underlying23
  have HR2 := Aside0.mk hr2
  have HC2 := Aside0.mk hc2
  clear hr2 hc2
  have HR3 := Aside0.mk hr3
  have HC3 := Aside0.mk hc3
  clear hr3 hc3
  have HB := Aside0.mk (Below.refl w.heap.size w)
  have H : ((plenumlaw35_awake.f).bind fun t242 => (if t242 = true then (if (l2.length : Int) > 100 then (if (l2.length : Int) ≤ 10000 then (plenumlaw35_ThermalRuns.j0 k a1 l2 l3 a4 true a0_0 a0_1) else (if (l3.length : Int) > 100 then (plenumlaw35_ThermalRuns.j0 k a1 l2 l3 a4 (decide ((l3.length : Int) ≤ 10000)) a0_0 a0_1) else (plenumlaw35_ThermalRuns.j0 k a1 l2 l3 a4 false a0_0 a0_1))) else (if (l3.length : Int) > 100 then (plenumlaw35_ThermalRuns.j0 k a1 l2 l3 a4 (decide ((l3.length : Int) ≤ 10000)) a0_0 a0_1) else (plenumlaw35_ThermalRuns.j0 k a1 l2 l3 a4 false a0_0 a0_1))) else (some false))) = some r := h
  clear h
  replace H := Option.bind_eq_some_iff.mp H
  obtain ⟨t242, A60, H⟩ := H
  replace H : (if t242 = true then (if (l2.length : Int) > 100 then (if (l2.length : Int) ≤ 10000 then (plenumlaw35_ThermalRuns.j0 k a1 l2 l3 a4 true a0_0 a0_1) else (if (l3.length : Int) > 100 then (plenumlaw35_ThermalRuns.j0 k a1 l2 l3 a4 (decide ((l3.length : Int) ≤ 10000)) a0_0 a0_1) else (plenumlaw35_ThermalRuns.j0 k a1 l2 l3 a4 false a0_0 a0_1))) else (if (l3.length : Int) > 100 then (plenumlaw35_ThermalRuns.j0 k a1 l2 l3 a4 (decide ((l3.length : Int) ≤ 10000)) a0_0 a0_1) else (plenumlaw35_ThermalRuns.j0 k a1 l2 l3 a4 false a0_0 a0_1))) else (some false)) = some r := H
  have A6 := Aside0.mk A60
  clear A60
  by_cases c7 : t242 = true
  · subst c7
    have H1 : (if (l2.length : Int) > 100 then (if (l2.length : Int) ≤ 10000 then (plenumlaw35_ThermalRuns.j0 k a1 l2 l3 a4 true a0_0 a0_1) else (if (l3.length : Int) > 100 then (plenumlaw35_ThermalRuns.j0 k a1 l2 l3 a4 (decide ((l3.length : Int) ≤ 10000)) a0_0 a0_1) else (plenumlaw35_ThermalRuns.j0 k a1 l2 l3 a4 false a0_0 a0_1))) else (if (l3.length : Int) > 100 then (plenumlaw35_ThermalRuns.j0 k a1 l2 l3 a4 (decide ((l3.length : Int) ≤ 10000)) a0_0 a0_1) else (plenumlaw35_ThermalRuns.j0 k a1 l2 l3 a4 false a0_0 a0_1))) = some r := by rw [if_pos rfl] at H; exact H
    clear H
    have H := H1
    clear H1
    have HC8 := Aside0.mk H
    clear H
    go_enter Try.func4, Try.ntmps4
    go_upto_region 3 with (first | ((with_reducible refine gate_dst (N := 5) rfl ?_); (try (refine gate_guard (by rfl) ?_; dsimp only)); refine box_event ?hg (N := 5) ?hd (cs := #[.int .i64 a0_0, .int .i64 a0_1]) (t := 23) ?hr ?_; (case hd => rfl); (case hg => rfl); (case hr => first | (go_simp; done) | (go_simp; rfl)); intro gb241 hg w9 hbox hb; have n0_ := Aside0.mk (below_step (by repeat (first | (with_reducible first | exact HB.out | apply below_alloc | apply pw_below_drewN | apply below_drew1) | exact HB.out)) hb); have n1_ := Aside0.mk (hbox); have n2_ := Aside0.mk ((by rw [hg]; exact (below_size (by repeat (first | (with_reducible first | exact HB.out | apply below_alloc | apply pw_below_drewN | apply below_drew1) | exact HB.out))) : w.heap.size ≤ gb241)); have n3_ := Aside0.mk ((by rw [hg]; exact (below_size (by repeat (first | (with_reducible first | exact HB.out | apply below_alloc | apply pw_below_drewN | apply below_drew1) | exact HB.out))) : w.heap.size ≤ gb241)); clear HB; have HB := n0_; have BK241 := n1_; have GW241 := n2_; have GE241 := n3_; clear n0_ n1_ n2_ n3_; clear hb hbox hg) | (go_at_call 11; (with_reducible refine (plenumlaw35_awake.calls  true _ A6.out).mono ?_); rintro e w10 ⟨rfl, hb⟩; have n0_ := Aside0.mk (blk_below (g := gb241) (o := .cells #[.int .i64 a0_0, .int .i64 a0_1] 23 (0, 0)) (by (with_reducible repeat (first | refine blk_drewN ?_ _ | refine blk_drew ?_ | refine blk_alloc ?_ _)); exact BK241.out) hb); have n1_ := Aside0.mk (below_step (by repeat (first | (with_reducible first | exact HB.out | apply below_alloc | apply pw_below_drewN | apply below_drew1 | refine below_set ?_ GE241.out) | exact HB.out)) hb); clear BK241; clear HB; have BK241 := n0_; have HB := n1_; clear n0_ n1_; (try clear hb); (try clear hb2); (try clear hk); (try clear hi)))
    repeat (go_quiet (first | ((with_reducible refine gate_dst (N := 5) rfl ?_); (try (refine gate_guard (by rfl) ?_; dsimp only)); refine box_event ?hg (N := 5) ?hd (cs := #[.int .i64 a0_0, .int .i64 a0_1]) (t := 23) ?hr ?_; (case hd => rfl); (case hg => rfl); (case hr => first | (go_simp; done) | (go_simp; rfl)); intro gb241 hg w9 hbox hb; have n0_ := Aside0.mk (below_step (by repeat (first | (with_reducible first | exact HB.out | apply below_alloc | apply pw_below_drewN | apply below_drew1) | exact HB.out)) hb); have n1_ := Aside0.mk (hbox); have n2_ := Aside0.mk ((by rw [hg]; exact (below_size (by repeat (first | (with_reducible first | exact HB.out | apply below_alloc | apply pw_below_drewN | apply below_drew1) | exact HB.out))) : w.heap.size ≤ gb241)); have n3_ := Aside0.mk ((by rw [hg]; exact (below_size (by repeat (first | (with_reducible first | exact HB.out | apply below_alloc | apply pw_below_drewN | apply below_drew1) | exact HB.out))) : w.heap.size ≤ gb241)); clear HB; have HB := n0_; have BK241 := n1_; have GW241 := n2_; have GE241 := n3_; clear n0_ n1_ n2_ n3_; clear hb hbox hg) | (go_at_call 11; (with_reducible refine (plenumlaw35_awake.calls  true _ A6.out).mono ?_); rintro e w10 ⟨rfl, hb⟩; have n0_ := Aside0.mk (blk_below (g := gb241) (o := .cells #[.int .i64 a0_0, .int .i64 a0_1] 23 (0, 0)) (by (with_reducible repeat (first | refine blk_drewN ?_ _ | refine blk_drew ?_ | refine blk_alloc ?_ _)); exact BK241.out) hb); have n1_ := Aside0.mk (below_step (by repeat (first | (with_reducible first | exact HB.out | apply below_alloc | apply pw_below_drewN | apply below_drew1 | refine below_set ?_ GE241.out) | exact HB.out)) hb); clear BK241; clear HB; have BK241 := n0_; have HB := n1_; clear n0_ n1_; (try clear hb); (try clear hb2); (try clear hk); (try clear hi))); go_upto_region 3 with (first | ((with_reducible refine gate_dst (N := 5) rfl ?_); (try (refine gate_guard (by rfl) ?_; dsimp only)); refine box_event ?hg (N := 5) ?hd (cs := #[.int .i64 a0_0, .int .i64 a0_1]) (t := 23) ?hr ?_; (case hd => rfl); (case hg => rfl); (case hr => first | (go_simp; done) | (go_simp; rfl)); intro gb241 hg w9 hbox hb; have n0_ := Aside0.mk (below_step (by repeat (first | (with_reducible first | exact HB.out | apply below_alloc | apply pw_below_drewN | apply below_drew1) | exact HB.out)) hb); have n1_ := Aside0.mk (hbox); have n2_ := Aside0.mk ((by rw [hg]; exact (below_size (by repeat (first | (with_reducible first | exact HB.out | apply below_alloc | apply pw_below_drewN | apply below_drew1) | exact HB.out))) : w.heap.size ≤ gb241)); have n3_ := Aside0.mk ((by rw [hg]; exact (below_size (by repeat (first | (with_reducible first | exact HB.out | apply below_alloc | apply pw_below_drewN | apply below_drew1) | exact HB.out))) : w.heap.size ≤ gb241)); clear HB; have HB := n0_; have BK241 := n1_; have GW241 := n2_; have GE241 := n3_; clear n0_ n1_ n2_ n3_; clear hb hbox hg) | (go_at_call 11; (with_reducible refine (plenumlaw35_awake.calls  true _ A6.out).mono ?_); rintro e w10 ⟨rfl, hb⟩; have n0_ := Aside0.mk (blk_below (g := gb241) (o := .cells #[.int .i64 a0_0, .int .i64 a0_1] 23 (0, 0)) (by (with_reducible repeat (first | refine blk_drewN ?_ _ | refine blk_drew ?_ | refine blk_alloc ?_ _)); exact BK241.out) hb); have n1_ := Aside0.mk (below_step (by repeat (first | (with_reducible first | exact HB.out | apply below_alloc | apply pw_below_drewN | apply below_drew1 | refine below_set ?_ GE241.out) | exact HB.out)) hb); clear BK241; clear HB; have BK241 := n0_; have HB := n1_; clear n0_ n1_; (try clear hb); (try clear hb2); (try clear hk); (try clear hi))))
    (try simp only [Act.put, List.setIfInBounds_toArray, List.set_cons_zero, List.set_cons_succ])
    go_cut [35] (fun v35 wc => ∃ (kq : Nat) (x35_7 : Bool), v35 = .bool x35_7 ∧ Aside0 (plenumlaw35_ThermalRuns.j0 kq a1 l2 l3 a4 x35_7 a0_0 a0_1 = some r) ∧ Aside0 (kq ≤ k) ∧ Aside0 (wc.heap[gb241]? = some (.cells #[.int .i64 a0_0, .int .i64 a0_1] 23 (0, 0))) ∧ Aside0 (Below w.heap.size w wc))
    case first =>
      have H := HC8.out
      clear HC8
      by_cases c11 : (l2.length : Int) > 100
      · rw [if_pos c11] at H
        have c11b0 : decide (100 < (l2.length : Int)) = true := decide_eq_true c11
        have c11b1 : decide (100 < l2.length) = true := decide_eq_true (by omega)
        clear c11
        (first | rw [c11b0] | (simp only [i64_w, i32_w]; rw [c11b0]) | skip)
        by_cases c12 : (l2.length : Int) ≤ 10000
        · rw [if_pos c12] at H
          have c12b0 : decide ((l2.length : Int) ≤ 10000) = true := decide_eq_true c12
          have c12b1 : decide (l2.length ≤ 10000) = true := decide_eq_true (by omega)
          clear c12
          have H' := Aside0.mk H
          clear H
          go_wp2
          repeat (go_quiet (fail); try go_wp2)
          go_meet
          case rel => exact ⟨_, (true), (by first | rfl | (simp; done) | (simp [*]; done)), H', ⟨by first | omega | exact Nat.le_refl _⟩, ⟨by (with_reducible repeat (first | refine blk_drewN ?_ _ | refine blk_drew ?_ | refine blk_alloc ?_ _)); exact BK241.out⟩, ⟨by repeat (first | (with_reducible first | exact HB.out | apply below_alloc | apply pw_below_drewN | apply below_drew1 | refine below_set ?_ GE241.out) | exact HB.out)⟩⟩
        · rw [if_neg c12] at H
          have c12b0 : decide ((l2.length : Int) ≤ 10000) = false := decide_eq_false c12
          have c12b1 : decide (l2.length ≤ 10000) = false := decide_eq_false (by omega)
          clear c12
          by_cases c13 : (l3.length : Int) > 100
          · rw [if_pos c13] at H
            have c13b0 : decide (100 < (l3.length : Int)) = true := decide_eq_true c13
            have c13b1 : decide (100 < l3.length) = true := decide_eq_true (by omega)
            clear c13
            have H' := Aside0.mk H
            clear H
            go_wp2
            repeat (go_quiet (fail); try go_wp2)
            go_meet
            case rel => exact ⟨_, (decide ((l3.length : Int) ≤ 10000)), (by first | rfl | (simp; done) | (simp [*]; done)), H', ⟨by first | omega | exact Nat.le_refl _⟩, ⟨by (with_reducible repeat (first | refine blk_drewN ?_ _ | refine blk_drew ?_ | refine blk_alloc ?_ _)); exact BK241.out⟩, ⟨by repeat (first | (with_reducible first | exact HB.out | apply below_alloc | apply pw_below_drewN | apply below_drew1 | refine below_set ?_ GE241.out) | exact HB.out)⟩⟩
          · rw [if_neg c13] at H
            have c13b0 : decide (100 < (l3.length : Int)) = false := decide_eq_false c13
            have c13b1 : decide (100 < l3.length) = false := decide_eq_false (by omega)
            clear c13
            have H' := Aside0.mk H
            clear H
            go_wp2
            repeat (go_quiet (fail); try go_wp2)
            go_meet
            case rel => exact ⟨_, (false), (by first | rfl | (simp; done) | (simp [*]; done)), H', ⟨by first | omega | exact Nat.le_refl _⟩, ⟨by (with_reducible repeat (first | refine blk_drewN ?_ _ | refine blk_drew ?_ | refine blk_alloc ?_ _)); exact BK241.out⟩, ⟨by repeat (first | (with_reducible first | exact HB.out | apply below_alloc | apply pw_below_drewN | apply below_drew1 | refine below_set ?_ GE241.out) | exact HB.out)⟩⟩
      · rw [if_neg c11] at H
        have c11b0 : decide (100 < (l2.length : Int)) = false := decide_eq_false c11
        have c11b1 : decide (100 < l2.length) = false := decide_eq_false (by omega)
        clear c11
        (first | rw [c11b0] | (simp only [i64_w, i32_w]; rw [c11b0]) | skip)
        by_cases c14 : (l3.length : Int) > 100
        · rw [if_pos c14] at H
          have c14b0 : decide (100 < (l3.length : Int)) = true := decide_eq_true c14
          have c14b1 : decide (100 < l3.length) = true := decide_eq_true (by omega)
          clear c14
          have H' := Aside0.mk H
          clear H
          go_wp2
          repeat (go_quiet (fail); try go_wp2)
          go_meet
          case rel => exact ⟨_, (decide ((l3.length : Int) ≤ 10000)), (by first | rfl | (simp; done) | (simp [*]; done)), H', ⟨by first | omega | exact Nat.le_refl _⟩, ⟨by (with_reducible repeat (first | refine blk_drewN ?_ _ | refine blk_drew ?_ | refine blk_alloc ?_ _)); exact BK241.out⟩, ⟨by repeat (first | (with_reducible first | exact HB.out | apply below_alloc | apply pw_below_drewN | apply below_drew1 | refine below_set ?_ GE241.out) | exact HB.out)⟩⟩
        · rw [if_neg c14] at H
          have c14b0 : decide (100 < (l3.length : Int)) = false := decide_eq_false c14
          have c14b1 : decide (100 < l3.length) = false := decide_eq_false (by omega)
          clear c14
          have H' := Aside0.mk H
          clear H
          go_wp2
          repeat (go_quiet (fail); try go_wp2)
          go_meet
          case rel => exact ⟨_, (false), (by first | rfl | (simp; done) | (simp [*]; done)), H', ⟨by first | omega | exact Nat.le_refl _⟩, ⟨by (with_reducible repeat (first | refine blk_drewN ?_ _ | refine blk_drew ?_ | refine blk_alloc ?_ _)); exact BK241.out⟩, ⟨by repeat (first | (with_reducible first | exact HB.out | apply below_alloc | apply pw_below_drewN | apply below_drew1 | refine below_set ?_ GE241.out) | exact HB.out)⟩⟩
    case rest =>
      clear HC8
      try clear c1
      try clear c2
      try clear p2
      try clear c3
      try clear c4
      try clear c7
      try clear c11
      try clear c11b0
      try clear c11b1
      try clear c12
      try clear c12b0
      try clear c12b1
      try clear c13
      try clear c13b0
      try clear c13b1
      try clear c14
      try clear c14b0
      try clear c14b1
      obtain ⟨kq, x35_7, rfl, HA, HJ7, BK241, HB⟩ := hcut
      cases kq with
      | zero => exact absurd HA.out (by simp [plenumlaw35_ThermalRuns.j0])
      | succ kj7 =>
        have H := HA.out
        clear HA
        simp only [plenumlaw35_ThermalRuns.j0] at H
        by_cases c15 : x35_7 = true
        · subst c15
          have H1 : (some true) = some r := by rw [if_pos rfl] at H; exact H
          clear H
          have H := H1
          clear H1
          obtain rfl := Option.some.inj H
          go_wp2
          repeat (go_quiet (fail); try go_wp2)
          go_ret
          exact ⟨by first | rfl | (simp [errW_none, errW_some] <;> rfl) | (simp [*, errW_none, errW_some] <;> rfl), by repeat (first | (with_reducible first | exact HB.out | apply below_alloc | apply pw_below_drewN | apply below_drew1 | refine below_set ?_ GE241.out) | exact HB.out)⟩
        · replace c15 := Bool.eq_false_iff.mpr c15
          subst c15
          have H1 : ((thermal_Run.f kj7 a0_0 a0_1 a1 l2 l3 a4).bind fun bt243 => ((plenumref35_Run.f kj7 a0_0 a0_1 a1 l2 l3 a4).bind fun bt247 => (if bt243.2 = bt247.2 then (plenumlaw35_ThermalRuns.j1 kj7 bt243.1 bt247.1 ((bt243.1.length : Int) != (bt247.1.length : Int))) else (plenumlaw35_ThermalRuns.j1 kj7 bt243.1 bt247.1 true)))) = some r := by rw [if_neg (show ¬ (false = true) by decide)] at H; exact H
          clear H
          have H := H1
          clear H1
          replace H := Option.bind_eq_some_iff.mp H
          obtain ⟨⟨t243, t246⟩, A160, H⟩ := H
          replace H : ((plenumref35_Run.f kj7 a0_0 a0_1 a1 l2 l3 a4).bind fun bt247 => (if t246 = bt247.2 then (plenumlaw35_ThermalRuns.j1 kj7 t243 bt247.1 ((t243.length : Int) != (bt247.1.length : Int))) else (plenumlaw35_ThermalRuns.j1 kj7 t243 bt247.1 true))) = some r := H
          have A16 := Aside0.mk A160
          clear A160
          replace H := Option.bind_eq_some_iff.mp H
          obtain ⟨⟨t247, t250⟩, A170, H⟩ := H
          replace H : (if t246 = t250 then (plenumlaw35_ThermalRuns.j1 kj7 t243 t247 ((t243.length : Int) != (t247.length : Int))) else (plenumlaw35_ThermalRuns.j1 kj7 t243 t247 true)) = some r := H
          have A17 := Aside0.mk A170
          clear A170
          have HC18 := Aside0.mk H
          clear H
          have hcz19_0 : wc.cell? ⟨gb241, 0, none⟩ = some (.int .i64 a0_0) := (blk_cell BK241.out 0).trans rfl
          have hcz19_1 : wc.cell? ⟨gb241, 1, none⟩ = some (.int .i64 a0_1) := (blk_cell BK241.out 1).trans rfl
          have hfz19_0 := blk_frozen BK241.out 0
          have hfz19_1 := blk_frozen BK241.out 1
          go_upto_region 7 with (first | (go_at_call 18; (with_reducible refine (thermal_Run.calls kj7 a0_0 a0_1 a1 _ _ l2 _ _ l3 a4 t243 t246 _ ?side1 ?side2 ?side3 ?side4 A16.out).mono ?_); (case side1 => repeat (first | exact (Kd.C_below HR2.out HB.out) | (with_reducible refine Kd.C_alloc ?_ _) | (with_reducible refine Kd.C_drewN ?_ _) | (with_reducible refine Kd.C_drew ?_))); (case side2 => exact HC2.out); (case side3 => repeat (first | exact (Kd.C_below HR3.out HB.out) | (with_reducible refine Kd.C_alloc ?_ _) | (with_reducible refine Kd.C_drewN ?_ _) | (with_reducible refine Kd.C_drew ?_))); (case side4 => exact HC3.out); rintro e w20 ⟨v244, rfl, ho0, hb⟩; have n0_ := Aside0.mk (Kd.R_lower ho0 (below_size (by repeat (first | (with_reducible first | exact HB.out | apply below_alloc | apply pw_below_drewN | apply below_drew1 | refine below_set ?_ GE241.out) | exact HB.out)))); have n1_ := Aside0.mk (blk_below (g := gb241) (o := .cells #[.int .i64 a0_0, .int .i64 a0_1] 23 (0, 0)) (by (with_reducible repeat (first | refine blk_drewN ?_ _ | refine blk_drew ?_ | refine blk_alloc ?_ _)); exact BK241.out) hb); have n2_ := Aside0.mk (below_step (by repeat (first | (with_reducible first | exact HB.out | apply below_alloc | apply pw_below_drewN | apply below_drew1 | refine below_set ?_ GE241.out) | exact HB.out)) hb); clear BK241; clear HB; have HO245 := n0_; have BK241 := n1_; have HB := n2_; clear n0_ n1_ n2_; (try clear hb); (try clear hb2); (try clear hk); (try clear hi); (try clear ho0); have hcz21_0 : w20.cell? ⟨gb241, 0, none⟩ = some (.int .i64 a0_0) := (blk_cell BK241.out 0).trans rfl; have hcz21_1 : w20.cell? ⟨gb241, 1, none⟩ = some (.int .i64 a0_1) := (blk_cell BK241.out 1).trans rfl; have hfz21_0 := blk_frozen BK241.out 0; have hfz21_1 := blk_frozen BK241.out 1) | (go_at_call 19; (with_reducible refine (plenumref35_Run.calls kj7 a0_0 a0_1 a1 _ _ l2 _ _ l3 a4 t247 t250 _ ?side1 ?side2 ?side3 ?side4 A17.out).mono ?_); (case side1 => repeat (first | exact (Kd.C_below HR2.out HB.out) | (with_reducible refine Kd.C_alloc ?_ _) | (with_reducible refine Kd.C_drewN ?_ _) | (with_reducible refine Kd.C_drew ?_))); (case side2 => exact HC2.out); (case side3 => repeat (first | exact (Kd.C_below HR3.out HB.out) | (with_reducible refine Kd.C_alloc ?_ _) | (with_reducible refine Kd.C_drewN ?_ _) | (with_reducible refine Kd.C_drew ?_))); (case side4 => exact HC3.out); rintro e w22 ⟨v248, rfl, ho0, hb⟩; have n0_ := Aside0.mk (Kd.R_elder' (by (with_reducible repeat (first | apply Kd.R_alloc | apply Kd.R_drewN | apply Kd.R_drew)); exact HO245.out) (Kd.R_base ho0) hb); have n1_ := Aside0.mk (Kd.R_lower (Kd.R_new' ho0 (Kd.R_lt (by (with_reducible repeat (first | apply Kd.R_alloc | apply Kd.R_drewN | apply Kd.R_drew)); exact HO245.out))) (below_size (by repeat (first | (with_reducible first | exact HB.out | apply below_alloc | apply pw_below_drewN | apply below_drew1 | refine below_set ?_ GE241.out) | exact HB.out)))); have n2_ := Aside0.mk (blk_below (g := gb241) (o := .cells #[.int .i64 a0_0, .int .i64 a0_1] 23 (0, 0)) (by (with_reducible repeat (first | refine blk_drewN ?_ _ | refine blk_drew ?_ | refine blk_alloc ?_ _)); exact BK241.out) hb); have n3_ := Aside0.mk (below_step (by repeat (first | (with_reducible first | exact HB.out | apply below_alloc | apply pw_below_drewN | apply below_drew1 | refine below_set ?_ GE241.out) | exact HB.out)) hb); clear HO245; clear BK241; clear HB; have HO245 := n0_; have HO249 := n1_; have BK241 := n2_; have HB := n3_; clear n0_ n1_ n2_ n3_; (try clear hb); (try clear hb2); (try clear hk); (try clear hi); (try clear ho0)))
          repeat (go_quiet (first | (go_at_call 18; (with_reducible refine (thermal_Run.calls kj7 a0_0 a0_1 a1 _ _ l2 _ _ l3 a4 t243 t246 _ ?side1 ?side2 ?side3 ?side4 A16.out).mono ?_); (case side1 => repeat (first | exact (Kd.C_below HR2.out HB.out) | (with_reducible refine Kd.C_alloc ?_ _) | (with_reducible refine Kd.C_drewN ?_ _) | (with_reducible refine Kd.C_drew ?_))); (case side2 => exact HC2.out); (case side3 => repeat (first | exact (Kd.C_below HR3.out HB.out) | (with_reducible refine Kd.C_alloc ?_ _) | (with_reducible refine Kd.C_drewN ?_ _) | (with_reducible refine Kd.C_drew ?_))); (case side4 => exact HC3.out); rintro e w20 ⟨v244, rfl, ho0, hb⟩; have n0_ := Aside0.mk (Kd.R_lower ho0 (below_size (by repeat (first | (with_reducible first | exact HB.out | apply below_alloc | apply pw_below_drewN | apply below_drew1 | refine below_set ?_ GE241.out) | exact HB.out)))); have n1_ := Aside0.mk (blk_below (g := gb241) (o := .cells #[.int .i64 a0_0, .int .i64 a0_1] 23 (0, 0)) (by (with_reducible repeat (first | refine blk_drewN ?_ _ | refine blk_drew ?_ | refine blk_alloc ?_ _)); exact BK241.out) hb); have n2_ := Aside0.mk (below_step (by repeat (first | (with_reducible first | exact HB.out | apply below_alloc | apply pw_below_drewN | apply below_drew1 | refine below_set ?_ GE241.out) | exact HB.out)) hb); clear BK241; clear HB; have HO245 := n0_; have BK241 := n1_; have HB := n2_; clear n0_ n1_ n2_; (try clear hb); (try clear hb2); (try clear hk); (try clear hi); (try clear ho0); have hcz21_0 : w20.cell? ⟨gb241, 0, none⟩ = some (.int .i64 a0_0) := (blk_cell BK241.out 0).trans rfl; have hcz21_1 : w20.cell? ⟨gb241, 1, none⟩ = some (.int .i64 a0_1) := (blk_cell BK241.out 1).trans rfl; have hfz21_0 := blk_frozen BK241.out 0; have hfz21_1 := blk_frozen BK241.out 1) | (go_at_call 19; (with_reducible refine (plenumref35_Run.calls kj7 a0_0 a0_1 a1 _ _ l2 _ _ l3 a4 t247 t250 _ ?side1 ?side2 ?side3 ?side4 A17.out).mono ?_); (case side1 => repeat (first | exact (Kd.C_below HR2.out HB.out) | (with_reducible refine Kd.C_alloc ?_ _) | (with_reducible refine Kd.C_drewN ?_ _) | (with_reducible refine Kd.C_drew ?_))); (case side2 => exact HC2.out); (case side3 => repeat (first | exact (Kd.C_below HR3.out HB.out) | (with_reducible refine Kd.C_alloc ?_ _) | (with_reducible refine Kd.C_drewN ?_ _) | (with_reducible refine Kd.C_drew ?_))); (case side4 => exact HC3.out); rintro e w22 ⟨v248, rfl, ho0, hb⟩; have n0_ := Aside0.mk (Kd.R_elder' (by (with_reducible repeat (first | apply Kd.R_alloc | apply Kd.R_drewN | apply Kd.R_drew)); exact HO245.out) (Kd.R_base ho0) hb); have n1_ := Aside0.mk (Kd.R_lower (Kd.R_new' ho0 (Kd.R_lt (by (with_reducible repeat (first | apply Kd.R_alloc | apply Kd.R_drewN | apply Kd.R_drew)); exact HO245.out))) (below_size (by repeat (first | (with_reducible first | exact HB.out | apply below_alloc | apply pw_below_drewN | apply below_drew1 | refine below_set ?_ GE241.out) | exact HB.out)))); have n2_ := Aside0.mk (blk_below (g := gb241) (o := .cells #[.int .i64 a0_0, .int .i64 a0_1] 23 (0, 0)) (by (with_reducible repeat (first | refine blk_drewN ?_ _ | refine blk_drew ?_ | refine blk_alloc ?_ _)); exact BK241.out) hb); have n3_ := Aside0.mk (below_step (by repeat (first | (with_reducible first | exact HB.out | apply below_alloc | apply pw_below_drewN | apply below_drew1 | refine below_set ?_ GE241.out) | exact HB.out)) hb); clear HO245; clear BK241; clear HB; have HO245 := n0_; have HO249 := n1_; have BK241 := n2_; have HB := n3_; clear n0_ n1_ n2_ n3_; (try clear hb); (try clear hb2); (try clear hk); (try clear hi); (try clear ho0))); go_upto_region 7 with (first | (go_at_call 18; (with_reducible refine (thermal_Run.calls kj7 a0_0 a0_1 a1 _ _ l2 _ _ l3 a4 t243 t246 _ ?side1 ?side2 ?side3 ?side4 A16.out).mono ?_); (case side1 => repeat (first | exact (Kd.C_below HR2.out HB.out) | (with_reducible refine Kd.C_alloc ?_ _) | (with_reducible refine Kd.C_drewN ?_ _) | (with_reducible refine Kd.C_drew ?_))); (case side2 => exact HC2.out); (case side3 => repeat (first | exact (Kd.C_below HR3.out HB.out) | (with_reducible refine Kd.C_alloc ?_ _) | (with_reducible refine Kd.C_drewN ?_ _) | (with_reducible refine Kd.C_drew ?_))); (case side4 => exact HC3.out); rintro e w20 ⟨v244, rfl, ho0, hb⟩; have n0_ := Aside0.mk (Kd.R_lower ho0 (below_size (by repeat (first | (with_reducible first | exact HB.out | apply below_alloc | apply pw_below_drewN | apply below_drew1 | refine below_set ?_ GE241.out) | exact HB.out)))); have n1_ := Aside0.mk (blk_below (g := gb241) (o := .cells #[.int .i64 a0_0, .int .i64 a0_1] 23 (0, 0)) (by (with_reducible repeat (first | refine blk_drewN ?_ _ | refine blk_drew ?_ | refine blk_alloc ?_ _)); exact BK241.out) hb); have n2_ := Aside0.mk (below_step (by repeat (first | (with_reducible first | exact HB.out | apply below_alloc | apply pw_below_drewN | apply below_drew1 | refine below_set ?_ GE241.out) | exact HB.out)) hb); clear BK241; clear HB; have HO245 := n0_; have BK241 := n1_; have HB := n2_; clear n0_ n1_ n2_; (try clear hb); (try clear hb2); (try clear hk); (try clear hi); (try clear ho0); have hcz21_0 : w20.cell? ⟨gb241, 0, none⟩ = some (.int .i64 a0_0) := (blk_cell BK241.out 0).trans rfl; have hcz21_1 : w20.cell? ⟨gb241, 1, none⟩ = some (.int .i64 a0_1) := (blk_cell BK241.out 1).trans rfl; have hfz21_0 := blk_frozen BK241.out 0; have hfz21_1 := blk_frozen BK241.out 1) | (go_at_call 19; (with_reducible refine (plenumref35_Run.calls kj7 a0_0 a0_1 a1 _ _ l2 _ _ l3 a4 t247 t250 _ ?side1 ?side2 ?side3 ?side4 A17.out).mono ?_); (case side1 => repeat (first | exact (Kd.C_below HR2.out HB.out) | (with_reducible refine Kd.C_alloc ?_ _) | (with_reducible refine Kd.C_drewN ?_ _) | (with_reducible refine Kd.C_drew ?_))); (case side2 => exact HC2.out); (case side3 => repeat (first | exact (Kd.C_below HR3.out HB.out) | (with_reducible refine Kd.C_alloc ?_ _) | (with_reducible refine Kd.C_drewN ?_ _) | (with_reducible refine Kd.C_drew ?_))); (case side4 => exact HC3.out); rintro e w22 ⟨v248, rfl, ho0, hb⟩; have n0_ := Aside0.mk (Kd.R_elder' (by (with_reducible repeat (first | apply Kd.R_alloc | apply Kd.R_drewN | apply Kd.R_drew)); exact HO245.out) (Kd.R_base ho0) hb); have n1_ := Aside0.mk (Kd.R_lower (Kd.R_new' ho0 (Kd.R_lt (by (with_reducible repeat (first | apply Kd.R_alloc | apply Kd.R_drewN | apply Kd.R_drew)); exact HO245.out))) (below_size (by repeat (first | (with_reducible first | exact HB.out | apply below_alloc | apply pw_below_drewN | apply below_drew1 | refine below_set ?_ GE241.out) | exact HB.out)))); have n2_ := Aside0.mk (blk_below (g := gb241) (o := .cells #[.int .i64 a0_0, .int .i64 a0_1] 23 (0, 0)) (by (with_reducible repeat (first | refine blk_drewN ?_ _ | refine blk_drew ?_ | refine blk_alloc ?_ _)); exact BK241.out) hb); have n3_ := Aside0.mk (below_step (by repeat (first | (with_reducible first | exact HB.out | apply below_alloc | apply pw_below_drewN | apply below_drew1 | refine below_set ?_ GE241.out) | exact HB.out)) hb); clear HO245; clear BK241; clear HB; have HO245 := n0_; have HO249 := n1_; have BK241 := n2_; have HB := n3_; clear n0_ n1_ n2_ n3_; (try clear hb); (try clear hb2); (try clear hk); (try clear hi); (try clear ho0))))
          (try simp only [Act.put, List.setIfInBounds_toArray, List.set_cons_zero, List.set_cons_succ])
          go_cut [63] (fun v63 wc => ∃ (kq : Nat) (x63_17 : Bool), v63 = .bool x63_17 ∧ Aside0 (plenumlaw35_ThermalRuns.j1 kq t243 t247 x63_17 = some r) ∧ Aside0 (kq ≤ kj7) ∧ Aside0 (Kd.R (Kd.int .i64) 2 wc w.heap.size (fun k_ => some k_ ≠ (v248 : Value).ownBlock) v244 t243) ∧ Aside0 (Kd.R (Kd.int .i64) 2 wc w.heap.size (fun k_ => some k_ ≠ (v244 : Value).ownBlock) v248 t247) ∧ Aside0 (wc.heap[gb241]? = some (.cells #[.int .i64 a0_0, .int .i64 a0_1] 23 (0, 0))) ∧ Aside0 (Below w.heap.size w wc))
          case first =>
            have H := HC18.out
            clear HC18
            by_cases c23 : t246 = t250
            · rw [if_pos c23] at H
              have c23b0 : (t246 == t250) = true := beq_iff_eq.mpr c23
              have c23b1 : (t246 != t250) = false := bne_eq_false_iff_eq.mpr c23
              clear c23
              (first | rw [c23b0] | (simp only [i64_w, i32_w]; rw [c23b0]) | skip)
              have H' := Aside0.mk H
              clear H
              obtain ⟨Ao24, co24, eo24⟩ := Kd.R_slice HO245.out
              subst eo24
              obtain ⟨Ao25, co25, eo25⟩ := Kd.R_slice HO249.out
              subst eo25
              go_wp2
              repeat (go_quiet (fail); try go_wp2)
              go_meet
              case rel => exact ⟨_, (((t243.length : Int) != (t247.length : Int))), (by first | rfl | (simp; done) | (simp [*]; done)), H', ⟨by have := HJ7.out; first | omega | exact Nat.le_refl _⟩, ⟨by (with_reducible repeat (first | apply Kd.R_alloc | apply Kd.R_drewN | apply Kd.R_drew)); exact Kd.R_mono HO245.out (fun _ hk => hk.2)⟩, ⟨by (with_reducible repeat (first | apply Kd.R_alloc | apply Kd.R_drewN | apply Kd.R_drew)); exact Kd.R_mono HO249.out (fun _ hk => hk.2)⟩, ⟨by (with_reducible repeat (first | refine blk_drewN ?_ _ | refine blk_drew ?_ | refine blk_alloc ?_ _)); exact BK241.out⟩, ⟨by repeat (first | (with_reducible first | exact HB.out | apply below_alloc | apply pw_below_drewN | apply below_drew1 | refine below_set ?_ GE241.out) | exact HB.out)⟩⟩
            · rw [if_neg c23] at H
              have c23b0 : (t246 == t250) = false := beq_eq_false_iff_ne.mpr c23
              have c23b1 : (t246 != t250) = true := bne_iff_ne.mpr c23
              (first | rw [c23b0] | (simp only [i64_w, i32_w]; rw [c23b0]) | skip)
              have H' := Aside0.mk H
              clear H
              go_wp2
              repeat (go_quiet (fail); try go_wp2)
              go_meet
              case rel => exact ⟨_, (true), (by first | rfl | (simp; done) | (simp [*]; done)), H', ⟨by have := HJ7.out; first | omega | exact Nat.le_refl _⟩, ⟨by (with_reducible repeat (first | apply Kd.R_alloc | apply Kd.R_drewN | apply Kd.R_drew)); exact Kd.R_mono HO245.out (fun _ hk => hk.2)⟩, ⟨by (with_reducible repeat (first | apply Kd.R_alloc | apply Kd.R_drewN | apply Kd.R_drew)); exact Kd.R_mono HO249.out (fun _ hk => hk.2)⟩, ⟨by (with_reducible repeat (first | refine blk_drewN ?_ _ | refine blk_drew ?_ | refine blk_alloc ?_ _)); exact BK241.out⟩, ⟨by repeat (first | (with_reducible first | exact HB.out | apply below_alloc | apply pw_below_drewN | apply below_drew1 | refine below_set ?_ GE241.out) | exact HB.out)⟩⟩
          case rest =>
            clear HC18
            try clear c1
            try clear c2
            try clear p2
            try clear c3
            try clear c4
            try clear c7
            try clear c11
            try clear c11b0
            try clear c11b1
            try clear c12
            try clear c12b0
            try clear c12b1
            try clear c13
            try clear c13b0
            try clear c13b1
            try clear c14
            try clear c14b0
            try clear c14b1
            try clear c15
            try clear c23
            try clear c23b0
            try clear c23b1
            try clear hcz19_0
            try clear hcz19_1
            try clear hcz21_0
            try clear hcz21_1
            try clear hfz19_0
            try clear hfz19_1
            try clear hfz21_0
            try clear hfz21_1
            try clear p2
            obtain ⟨kq, x63_17, rfl, HA, HJ17, HO_11, HO_13, BK241, HB⟩ := hcut
            cases kq with
            | zero => exact absurd HA.out (by simp [plenumlaw35_ThermalRuns.j1])
            | succ kj17 =>
              have H := HA.out
              clear HA
              simp only [plenumlaw35_ThermalRuns.j1] at H
              by_cases c26 : x63_17 = true
              · subst c26
                have H1 : (some false) = some r := by rw [if_pos rfl] at H; exact H
                clear H
                have H := H1
                clear H1
                obtain rfl := Option.some.inj H
                go_wp2
                repeat (go_quiet (fail); try go_wp2)
                go_ret
                exact ⟨by first | rfl | (simp [errW_none, errW_some] <;> rfl) | (simp [*, errW_none, errW_some] <;> rfl), by repeat (first | (with_reducible first | exact HB.out | apply below_alloc | apply pw_below_drewN | apply below_drew1 | refine below_set ?_ GE241.out) | exact HB.out)⟩
              · replace c26 := Bool.eq_false_iff.mpr c26
                subst c26
                have H1 : (plenumlaw35_ThermalRuns.l0 kj17 t243 t247 0) = some r := by rw [if_neg (show ¬ (false = true) by decide)] at H; exact H
                clear H
                have H := H1
                clear H1
                have H' := Aside0.mk H
                clear H
                go_wp2
                repeat (go_quiet (fail); try go_wp2)
                go_loopg [15] kj17 (fun kq v15 w' => ∃ (x15_3 : Int), v15 = .int .i64 x15_3 ∧ Aside0 (plenumlaw35_ThermalRuns.l0 kq t243 t247 x15_3 = some r) ∧ Aside0 (kq ≤ kj17) ∧ Aside0 (Kd.R (Kd.int .i64) 2 w' w.heap.size (fun k_ => some k_ ≠ (v248 : Value).ownBlock) v244 t243) ∧ Aside0 (Kd.R (Kd.int .i64) 2 w' w.heap.size (fun k_ => some k_ ≠ (v244 : Value).ownBlock) v248 t247) ∧ Aside0 (w'.heap[gb241]? = some (.cells #[.int .i64 a0_0, .int .i64 a0_1] 23 (0, 0))) ∧ Aside0 (Below w.heap.size w w'))
                case atStart => exact ⟨(0), (by first | rfl | (simp; done) | (simp [*]; done)), H', ⟨Nat.le_refl _⟩, ⟨by (with_reducible repeat (first | apply Kd.R_alloc | apply Kd.R_drewN | apply Kd.R_drew)); exact HO_11.out⟩, ⟨by (with_reducible repeat (first | apply Kd.R_alloc | apply Kd.R_drewN | apply Kd.R_drew)); exact HO_13.out⟩, ⟨by (with_reducible repeat (first | refine blk_drewN ?_ _ | refine blk_drew ?_ | refine blk_alloc ?_ _)); exact BK241.out⟩, ⟨by repeat (first | (with_reducible first | exact HB.out | apply below_alloc | apply pw_below_drewN | apply below_drew1 | refine below_set ?_ GE241.out) | exact HB.out)⟩⟩
                case round =>
                  clear H'
                  try clear c1
                  try clear c2
                  try clear p2
                  try clear c3
                  try clear c4
                  try clear c7
                  try clear c11
                  try clear c11b0
                  try clear c11b1
                  try clear c12
                  try clear c12b0
                  try clear c12b1
                  try clear c13
                  try clear c13b0
                  try clear c13b1
                  try clear c14
                  try clear c14b0
                  try clear c14b1
                  try clear c15
                  try clear c23
                  try clear c23b0
                  try clear c23b1
                  try clear c26
                  try clear hcz19_0
                  try clear hcz19_1
                  try clear hcz21_0
                  try clear hcz21_1
                  try clear hfz19_0
                  try clear hfz19_1
                  try clear hfz21_0
                  try clear hfz21_1
                  try clear p2
                  obtain ⟨x15_3, rfl, HA, HK3, HO_11, HO_13, BK241, HB⟩ := hrel
                  cases gk with
                  | zero => exact absurd HA.out (by simp [plenumlaw35_ThermalRuns.l0])
                  | succ k3 =>
                    have H := HA.out
                    clear HA
                    simp only [plenumlaw35_ThermalRuns.l0] at H
                    by_cases c27 : x15_3 < (t243.length : Int)
                    · rw [if_pos c27] at H
                      have c27b0 : decide (x15_3 < (t243.length : Int)) = true := decide_eq_true c27
                      clear c27
                      by_cases c28 : 0 ≤ x15_3
                      · rw [if_pos c28] at H
                        have c28b0 : decide (0 ≤ x15_3) = true := decide_eq_true c28
                        clear c28
                        by_cases c29 : x15_3 < (t247.length : Int)
                        · rw [if_pos c29] at H
                          have c29b0 : decide (x15_3 < (t247.length : Int)) = true := decide_eq_true c29
                          clear c29
                          by_cases c30 : (rd t243 x15_3) = (rd t247 x15_3)
                          · rw [if_pos c30] at H
                            have c30b0 : ((rd t243 x15_3) == (rd t247 x15_3)) = true := beq_iff_eq.mpr c30
                            have c30b1 : ((rd t243 x15_3) != (rd t247 x15_3)) = false := bne_eq_false_iff_eq.mpr c30
                            clear c30
                            have H' := Aside0.mk H
                            clear H
                            obtain ⟨Ao31, co31, eo31⟩ := Kd.R_slice HO_11.out
                            subst eo31
                            have p251 : 0 ≤ (x15_3 : Int) := of_decide_eq_true (by first | (with_reducible assumption) | assumption)
                            have q251 : x15_3 < (t243.length : Int) := of_decide_eq_true (by first | (with_reducible assumption) | assumption)
                            obtain ⟨ad251, e251, hx251_0⟩ := Kd.at_int (Kd.R_reads' HO_11.out).2.2 x15_3 p251 q251
                            cases e251
                            replace p251 := eq_true p251
                            replace q251 := eq_true q251
                            obtain ⟨Ao32, co32, eo32⟩ := Kd.R_slice HO_13.out
                            subst eo32
                            have p252 : 0 ≤ (x15_3 : Int) := of_decide_eq_true (by first | (with_reducible assumption) | assumption)
                            have q252 : x15_3 < (t247.length : Int) := of_decide_eq_true (by first | (with_reducible assumption) | assumption)
                            obtain ⟨ad252, e252, hx252_0⟩ := Kd.at_int (Kd.R_reads' HO_13.out).2.2 x15_3 p252 q252
                            cases e252
                            replace p252 := eq_true p252
                            replace q252 := eq_true q252
                            go_wp2
                            repeat (go_quiet (fail); try go_wp2)
                            go_roundg k3
                            case measure => have := HJ7.out; have := HJ17.out; have := HK3.out; omega
                            case rel => exact ⟨(wrap64 (x15_3 + 1)), (by first | rfl | (simp; done) | (simp [*]; done)), H', ⟨by have := HJ7.out; have := HJ17.out; have := HK3.out; omega⟩, ⟨by (with_reducible repeat (first | apply Kd.R_alloc | apply Kd.R_drewN | apply Kd.R_drew)); exact HO_11.out⟩, ⟨by (with_reducible repeat (first | apply Kd.R_alloc | apply Kd.R_drewN | apply Kd.R_drew)); exact HO_13.out⟩, ⟨by (with_reducible repeat (first | refine blk_drewN ?_ _ | refine blk_drew ?_ | refine blk_alloc ?_ _)); exact BK241.out⟩, ⟨by repeat (first | (with_reducible first | exact HB.out | apply below_alloc | apply pw_below_drewN | apply below_drew1 | refine below_set ?_ GE241.out) | exact HB.out)⟩⟩
                          · rw [if_neg c30] at H
                            have c30b0 : ((rd t243 x15_3) == (rd t247 x15_3)) = false := beq_eq_false_iff_ne.mpr c30
                            have c30b1 : ((rd t243 x15_3) != (rd t247 x15_3)) = true := bne_iff_ne.mpr c30
                            obtain rfl := Option.some.inj H
                            obtain ⟨Ao33, co33, eo33⟩ := Kd.R_slice HO_11.out
                            subst eo33
                            have p251 : 0 ≤ (x15_3 : Int) := of_decide_eq_true (by first | (with_reducible assumption) | assumption)
                            have q251 : x15_3 < (t243.length : Int) := of_decide_eq_true (by first | (with_reducible assumption) | assumption)
                            obtain ⟨ad251, e251, hx251_0⟩ := Kd.at_int (Kd.R_reads' HO_11.out).2.2 x15_3 p251 q251
                            cases e251
                            replace p251 := eq_true p251
                            replace q251 := eq_true q251
                            obtain ⟨Ao34, co34, eo34⟩ := Kd.R_slice HO_13.out
                            subst eo34
                            have p252 : 0 ≤ (x15_3 : Int) := of_decide_eq_true (by first | (with_reducible assumption) | assumption)
                            have q252 : x15_3 < (t247.length : Int) := of_decide_eq_true (by first | (with_reducible assumption) | assumption)
                            obtain ⟨ad252, e252, hx252_0⟩ := Kd.at_int (Kd.R_reads' HO_13.out).2.2 x15_3 p252 q252
                            cases e252
                            replace p252 := eq_true p252
                            replace q252 := eq_true q252
                            go_wp2
                            repeat (go_quiet (fail); try go_wp2)
                            go_ret
                            exact ⟨by first | rfl | (simp [errW_none, errW_some] <;> rfl) | (simp [*, errW_none, errW_some] <;> rfl), by repeat (first | (with_reducible first | exact HB.out | apply below_alloc | apply pw_below_drewN | apply below_drew1 | refine below_set ?_ GE241.out) | exact HB.out)⟩
                        · rw [if_neg c29] at H
                          exact absurd H (by simp)
                      · rw [if_neg c28] at H
                        exact absurd H (by simp)
                    · rw [if_neg c27] at H
                      have c27b0 : decide (x15_3 < (t243.length : Int)) = false := decide_eq_false c27
                      clear c27
                      obtain rfl := Option.some.inj H
                      obtain ⟨Ao35, co35, eo35⟩ := Kd.R_slice HO_11.out
                      subst eo35
                      go_wp2
                      repeat (go_quiet (fail); try go_wp2)
                      go_ret
                      exact ⟨by first | rfl | (simp [errW_none, errW_some] <;> rfl) | (simp [*, errW_none, errW_some] <;> rfl), by repeat (first | (with_reducible first | exact HB.out | apply below_alloc | apply pw_below_drewN | apply below_drew1 | refine below_set ?_ GE241.out) | exact HB.out)⟩
  · replace c7 := Bool.eq_false_iff.mpr c7
    subst c7
    have H1 : (some false) = some r := by rw [if_neg (show ¬ (false = true) by decide)] at H; exact H
    clear H
    have H := H1
    clear H1
    obtain rfl := Option.some.inj H
    go_enter Try.func4, Try.ntmps4
    go_wp2_with (first | ((with_reducible refine gate_dst (N := 5) rfl ?_); (try (refine gate_guard (by rfl) ?_; dsimp only)); refine box_event ?hg (N := 5) ?hd (cs := #[.int .i64 a0_0, .int .i64 a0_1]) (t := 23) ?hr ?_; (case hd => rfl); (case hg => rfl); (case hr => first | (go_simp; done) | (go_simp; rfl)); intro gb241 hg w36 hbox hb; have n0_ := Aside0.mk (below_step (by repeat (first | (with_reducible first | exact HB.out | apply below_alloc | apply pw_below_drewN | apply below_drew1) | exact HB.out)) hb); have n1_ := Aside0.mk (hbox); have n2_ := Aside0.mk ((by rw [hg]; exact (below_size (by repeat (first | (with_reducible first | exact HB.out | apply below_alloc | apply pw_below_drewN | apply below_drew1) | exact HB.out))) : w.heap.size ≤ gb241)); have n3_ := Aside0.mk ((by rw [hg]; exact (below_size (by repeat (first | (with_reducible first | exact HB.out | apply below_alloc | apply pw_below_drewN | apply below_drew1) | exact HB.out))) : w.heap.size ≤ gb241)); clear HB; have HB := n0_; have BK241 := n1_; have GW241 := n2_; have GE241 := n3_; clear n0_ n1_ n2_ n3_; clear hb hbox hg) | (go_at_call 11; (with_reducible refine (plenumlaw35_awake.calls  false _ A6.out).mono ?_); rintro e w37 ⟨rfl, hb⟩; have n0_ := Aside0.mk (blk_below (g := gb241) (o := .cells #[.int .i64 a0_0, .int .i64 a0_1] 23 (0, 0)) (by (with_reducible repeat (first | refine blk_drewN ?_ _ | refine blk_drew ?_ | refine blk_alloc ?_ _)); exact BK241.out) hb); have n1_ := Aside0.mk (below_step (by repeat (first | (with_reducible first | exact HB.out | apply below_alloc | apply pw_below_drewN | apply below_drew1 | refine below_set ?_ GE241.out) | exact HB.out)) hb); clear BK241; clear HB; have BK241 := n0_; have HB := n1_; clear n0_ n1_; (try clear hb); (try clear hb2); (try clear hk); (try clear hi)))
    repeat (go_quiet (first | ((with_reducible refine gate_dst (N := 5) rfl ?_); (try (refine gate_guard (by rfl) ?_; dsimp only)); refine box_event ?hg (N := 5) ?hd (cs := #[.int .i64 a0_0, .int .i64 a0_1]) (t := 23) ?hr ?_; (case hd => rfl); (case hg => rfl); (case hr => first | (go_simp; done) | (go_simp; rfl)); intro gb241 hg w36 hbox hb; have n0_ := Aside0.mk (below_step (by repeat (first | (with_reducible first | exact HB.out | apply below_alloc | apply pw_below_drewN | apply below_drew1) | exact HB.out)) hb); have n1_ := Aside0.mk (hbox); have n2_ := Aside0.mk ((by rw [hg]; exact (below_size (by repeat (first | (with_reducible first | exact HB.out | apply below_alloc | apply pw_below_drewN | apply below_drew1) | exact HB.out))) : w.heap.size ≤ gb241)); have n3_ := Aside0.mk ((by rw [hg]; exact (below_size (by repeat (first | (with_reducible first | exact HB.out | apply below_alloc | apply pw_below_drewN | apply below_drew1) | exact HB.out))) : w.heap.size ≤ gb241)); clear HB; have HB := n0_; have BK241 := n1_; have GW241 := n2_; have GE241 := n3_; clear n0_ n1_ n2_ n3_; clear hb hbox hg) | (go_at_call 11; (with_reducible refine (plenumlaw35_awake.calls  false _ A6.out).mono ?_); rintro e w37 ⟨rfl, hb⟩; have n0_ := Aside0.mk (blk_below (g := gb241) (o := .cells #[.int .i64 a0_0, .int .i64 a0_1] 23 (0, 0)) (by (with_reducible repeat (first | refine blk_drewN ?_ _ | refine blk_drew ?_ | refine blk_alloc ?_ _)); exact BK241.out) hb); have n1_ := Aside0.mk (below_step (by repeat (first | (with_reducible first | exact HB.out | apply below_alloc | apply pw_below_drewN | apply below_drew1 | refine below_set ?_ GE241.out) | exact HB.out)) hb); clear BK241; clear HB; have BK241 := n0_; have HB := n1_; clear n0_ n1_; (try clear hb); (try clear hb2); (try clear hk); (try clear hi))); try go_wp2_with (first | ((with_reducible refine gate_dst (N := 5) rfl ?_); (try (refine gate_guard (by rfl) ?_; dsimp only)); refine box_event ?hg (N := 5) ?hd (cs := #[.int .i64 a0_0, .int .i64 a0_1]) (t := 23) ?hr ?_; (case hd => rfl); (case hg => rfl); (case hr => first | (go_simp; done) | (go_simp; rfl)); intro gb241 hg w36 hbox hb; have n0_ := Aside0.mk (below_step (by repeat (first | (with_reducible first | exact HB.out | apply below_alloc | apply pw_below_drewN | apply below_drew1) | exact HB.out)) hb); have n1_ := Aside0.mk (hbox); have n2_ := Aside0.mk ((by rw [hg]; exact (below_size (by repeat (first | (with_reducible first | exact HB.out | apply below_alloc | apply pw_below_drewN | apply below_drew1) | exact HB.out))) : w.heap.size ≤ gb241)); have n3_ := Aside0.mk ((by rw [hg]; exact (below_size (by repeat (first | (with_reducible first | exact HB.out | apply below_alloc | apply pw_below_drewN | apply below_drew1) | exact HB.out))) : w.heap.size ≤ gb241)); clear HB; have HB := n0_; have BK241 := n1_; have GW241 := n2_; have GE241 := n3_; clear n0_ n1_ n2_ n3_; clear hb hbox hg) | (go_at_call 11; (with_reducible refine (plenumlaw35_awake.calls  false _ A6.out).mono ?_); rintro e w37 ⟨rfl, hb⟩; have n0_ := Aside0.mk (blk_below (g := gb241) (o := .cells #[.int .i64 a0_0, .int .i64 a0_1] 23 (0, 0)) (by (with_reducible repeat (first | refine blk_drewN ?_ _ | refine blk_drew ?_ | refine blk_alloc ?_ _)); exact BK241.out) hb); have n1_ := Aside0.mk (below_step (by repeat (first | (with_reducible first | exact HB.out | apply below_alloc | apply pw_below_drewN | apply below_drew1 | refine below_set ?_ GE241.out) | exact HB.out)) hb); clear BK241; clear HB; have BK241 := n0_; have HB := n1_; clear n0_ n1_; (try clear hb); (try clear hb2); (try clear hk); (try clear hi))))
    go_ret
    exact ⟨by first | rfl | (simp [errW_none, errW_some] <;> rfl) | (simp [*, errW_none, errW_some] <;> rfl), by repeat (first | (with_reducible first | exact HB.out | apply below_alloc | apply pw_below_drewN | apply below_drew1 | refine below_set ?_ GE241.out) | exact HB.out)⟩

/-- THE ONE PURE STATEMENT of plenumlaw35_ThermalRuns. -/
def plenumlaw35_ThermalRuns.Pure : Prop := ∀ (a0_0 : Int) (a0_1 : Int) (a1 : Int) (l2 : List Int) (l3 : List Int) (a4 : Int), (Lit.int .i64 a0_0).wf = true → (Lit.int .i64 a0_1).wf = true → (Lit.int .i64 a1).wf = true → l2.length ≤ maxLen → l2.length * 8 ≤ 140737488351232 → (∀ x ∈ l2, (Lit.int .i64 x).wf = true) → l3.length ≤ maxLen → l3.length * 8 ≤ 140737488351232 → (∀ x ∈ l3, (Lit.int .i64 x).wf = true) → (Lit.int .i64 a4).wf = true → ∃ k, plenumlaw35_ThermalRuns.f k a0_0 a0_1 a1 l2 l3 a4 = some true
theorem plenumlaw35_ThermalRuns.walk (P : plenumlaw35_ThermalRuns.Pure) (a0_0 : Int) (a0_1 : Int) (a1 : Int) (A2 : Option Addr) (c2 : Nat) (l2 : List Int) (A3 : Option Addr) (c3 : Nat) (l3 : List Int) (a4 : Int) (w : World) (wa0_0 : (Lit.int .i64 a0_0).wf = true) (wa0_1 : (Lit.int .i64 a0_1).wf = true) (wa1 : (Lit.int .i64 a1).wf = true) (hr2 : Kd.C (Kd.int .i64) w A2 l2.length l2) (hc2 : l2.length ≤ c2) (hm2 : l2.length ≤ maxLen) (y2 : l2.length * 8 ≤ 140737488351232) (hw2 : ∀ x ∈ l2, (Lit.int .i64 x).wf = true) (hr3 : Kd.C (Kd.int .i64) w A3 l3.length l3) (hc3 : l3.length ≤ c3) (hm3 : l3.length ≤ maxLen) (y3 : l3.length * 8 ≤ 140737488351232) (hw3 : ∀ x ∈ l3, (Lit.int .i64 x).wf = true) (wa4 : (Lit.int .i64 a4).wf = true) :
    Calls Try.prog 4 #[.agg #[.int .i64 a0_0, .int .i64 a0_1], .int .i64 a1, .slice A2 l2.length c2, .slice A3 l3.length c3, .int .i64 a4] w fun e w' => e = .returned (.bool true) ∧ Below w.heap.size w w' := by
  obtain ⟨k, h⟩ := P a0_0 a0_1 a1 l2 l3 a4 wa0_0 wa0_1 wa1 hm2 y2 hw2 hm3 y3 hw3 wa4
  refine (plenumlaw35_ThermalRuns.calls k a0_0 a0_1 a1 A2 c2 l2 A3 c3 l3 a4 true w hr2 hc2 hr3 hc3 h).mono ?_
  rintro e w' ⟨rfl, hd⟩
  exact ⟨rfl, hd⟩

end Go.Proofs.Ythlokfpboinmpaa.PT
