-- Laid by hp.py (a program of this session's) through the kit's printer.
import Derived.Test.YthlokfpboinmpaaPTx0
import Derived.Test.YthlokfpboinmpaaPTx2
import Derived.Test.YthlokfpboinmpaaPTx3
import Derived.Test.YthlokfpboinmpaaPTx6
namespace Go.Proofs.Ythlokfpboinmpaa.PT
open Go.RowKit Go.Proofs.YthlokfpboinmpaaW.PrintWords Go.Proofs.YthlokfpboinmpaaW.PrintLast Go.Proofs.YthlokfpboinmpaaW.PrintMore
attribute [local go_sem] max2_int min2_int max_two min_two max_three min_three max_four min_four   -- for this text's walks alone
set_option linter.unusedVariables false
set_option linter.unusedSimpArgs false

/-! ### plenumlaw35_ThermalSteady: function 7 -/
def plenumlaw35_ThermalSteady.j0 : Nat → Int → Int → Bool → Int → Int → Option (Bool)
  | 0, _, _, _, _, _ => none
  | k + 1, x1, x13, x39, x293000, x293001 => if x39 = true then (some true) else (if x293000 > x293001 then (some false) else (if x1 < x293000 then (if x13 > x1 then (some (decide (x13 ≤ x293000))) else (some false)) else (if x1 > x293001 then (if x13 < x1 then (some (decide (x13 ≥ x293001))) else (some false)) else (some (x13 == x1)))))
def plenumlaw35_ThermalSteady.f (k : Nat) (a0_0 : Int) (a0_1 : Int) (a1 : Int) (a2 : Int) (a3 : Int) (a4 : Int) : Option (Bool) := (plenumlaw35_awake.f).bind fun t288 => (if t288 = true then ((thermal_Steady.f k a0_0 a0_1 a2 a3 a4).bind fun bt289 => ((thermal_Step.f k a0_0 a0_1 a1 a2 a3 a4).bind fun bt293 => (if bt289.2.2 = 0 then (plenumlaw35_ThermalSteady.j0 k a1 bt293.1 (bt293.2 != 0) bt289.1 bt289.2.1) else (plenumlaw35_ThermalSteady.j0 k a1 bt293.1 true bt289.1 bt289.2.1)))) else (some false))
theorem plenumlaw35_ThermalSteady.mono_l : ∀ k, (∀ y0 y1 y2 y3 y4, LeO (plenumlaw35_ThermalSteady.j0 k y0 y1 y2 y3 y4) (plenumlaw35_ThermalSteady.j0 (k + 1) y0 y1 y2 y3 y4))
  | 0 => fun _ _ _ _ _ r h => by simp [plenumlaw35_ThermalSteady.j0] at h
  | k + 1 => by
    have ih0 := plenumlaw35_ThermalSteady.mono_l k
    · intro y0 y1 y2 y3 y4
      unfold plenumlaw35_ThermalSteady.j0
      repeat' first
      | (with_reducible exact ih0 _ _ _ _ _)
      | (with_reducible exact thermal_Steady.mono _ _ _ _ _ _)
      | (with_reducible exact thermal_Step.mono _ _ _ _ _ _ _)
      | (with_reducible exact LeO.refl _)
      | (with_reducible exact LeO.none _)
      | (with_reducible refine LeO.ite ?_ ?_)
      | (with_reducible refine LeO.bind ?_ (fun _ => ?_))
      | exact ih0 _ _ _ _ _
      | exact thermal_Steady.mono _ _ _ _ _ _
      | exact thermal_Step.mono _ _ _ _ _ _ _
      | exact LeO.none _
      | refine LeO.ite ?_ ?_
      | refine LeO.bind ?_ (fun _ => ?_)
theorem plenumlaw35_ThermalSteady.mono : ∀ a0 a1 a2 a3 a4 a5 k, LeO (plenumlaw35_ThermalSteady.f k a0 a1 a2 a3 a4 a5) (plenumlaw35_ThermalSteady.f (k + 1) a0 a1 a2 a3 a4 a5) := by
  intro a0 a1 a2 a3 a4 a5 k
  have ih0 := plenumlaw35_ThermalSteady.mono_l k
  unfold plenumlaw35_ThermalSteady.f
  repeat' first
      | (with_reducible exact ih0 _ _ _ _ _)
      | (with_reducible exact thermal_Steady.mono _ _ _ _ _ _)
      | (with_reducible exact thermal_Step.mono _ _ _ _ _ _ _)
      | (with_reducible exact LeO.refl _)
      | (with_reducible exact LeO.none _)
      | (with_reducible refine LeO.ite ?_ ?_)
      | (with_reducible refine LeO.bind ?_ (fun _ => ?_))
      | exact ih0 _ _ _ _ _
      | exact thermal_Steady.mono _ _ _ _ _ _
      | exact thermal_Step.mono _ _ _ _ _ _ _
      | exact LeO.none _
      | refine LeO.ite ?_ ?_
      | refine LeO.bind ?_ (fun _ => ?_)
set_option maxHeartbeats 8000000 in
set_option maxRecDepth 100000 in
theorem plenumlaw35_ThermalSteady.calls (k : Nat) (a0_0 : Int) (a0_1 : Int) (a1 : Int) (a2 : Int) (a3 : Int) (a4 : Int) (r : Bool) (w : World) (h : plenumlaw35_ThermalSteady.f k a0_0 a0_1 a1 a2 a3 a4 = some r) :
    Calls Try.prog 7 #[.agg #[.int .i64 a0_0, .int .i64 a0_1], .int .i64 a1, .int .i64 a2, .int .i64 a3, .int .i64 a4] w fun e w' => e = .returned (.bool r) ∧ Below w.heap.size w w' := by
  have hu23 := Try.underlying23
  have hu29 := Try.underlying29
  have HB := Aside0.mk (Below.refl w.heap.size w)
  have H : ((plenumlaw35_awake.f).bind fun t288 => (if t288 = true then ((thermal_Steady.f k a0_0 a0_1 a2 a3 a4).bind fun bt289 => ((thermal_Step.f k a0_0 a0_1 a1 a2 a3 a4).bind fun bt293 => (if bt289.2.2 = 0 then (plenumlaw35_ThermalSteady.j0 k a1 bt293.1 (bt293.2 != 0) bt289.1 bt289.2.1) else (plenumlaw35_ThermalSteady.j0 k a1 bt293.1 true bt289.1 bt289.2.1)))) else (some false))) = some r := h
  clear h
  replace H := Option.bind_eq_some_iff.mp H
  obtain ⟨t288, A60, H⟩ := H
  replace H : (if t288 = true then ((thermal_Steady.f k a0_0 a0_1 a2 a3 a4).bind fun bt289 => ((thermal_Step.f k a0_0 a0_1 a1 a2 a3 a4).bind fun bt293 => (if bt289.2.2 = 0 then (plenumlaw35_ThermalSteady.j0 k a1 bt293.1 (bt293.2 != 0) bt289.1 bt289.2.1) else (plenumlaw35_ThermalSteady.j0 k a1 bt293.1 true bt289.1 bt289.2.1)))) else (some false)) = some r := H
  have A6 := Aside0.mk A60
  clear A60
  by_cases c7 : t288 = true
  · subst c7
    have H1 : ((thermal_Steady.f k a0_0 a0_1 a2 a3 a4).bind fun bt289 => ((thermal_Step.f k a0_0 a0_1 a1 a2 a3 a4).bind fun bt293 => (if bt289.2.2 = 0 then (plenumlaw35_ThermalSteady.j0 k a1 bt293.1 (bt293.2 != 0) bt289.1 bt289.2.1) else (plenumlaw35_ThermalSteady.j0 k a1 bt293.1 true bt289.1 bt289.2.1)))) = some r := by rw [if_pos rfl] at H; exact H
    clear H
    have H := H1
    clear H1
    replace H := Option.bind_eq_some_iff.mp H
    obtain ⟨⟨t289, t290, t291⟩, A80, H⟩ := H
    replace H : ((thermal_Step.f k a0_0 a0_1 a1 a2 a3 a4).bind fun bt293 => (if t291 = 0 then (plenumlaw35_ThermalSteady.j0 k a1 bt293.1 (bt293.2 != 0) t289 t290) else (plenumlaw35_ThermalSteady.j0 k a1 bt293.1 true t289 t290))) = some r := H
    have A8 := Aside0.mk A80
    clear A80
    replace H := Option.bind_eq_some_iff.mp H
    obtain ⟨⟨t293, t294⟩, A90, H⟩ := H
    replace H : (if t291 = 0 then (plenumlaw35_ThermalSteady.j0 k a1 t293 (t294 != 0) t289 t290) else (plenumlaw35_ThermalSteady.j0 k a1 t293 true t289 t290)) = some r := H
    have A9 := Aside0.mk A90
    clear A90
    have HC10 := Aside0.mk H
    clear H
    go_enter Try.func7, Try.ntmps7
    go_upto_region 5 with (first | ((with_reducible refine gate_dst (N := 5) rfl ?_); refine box_event ?hg (N := 5) ?hd (cs := #[.int .i64 a0_0, .int .i64 a0_1]) (t := 23) ?hr ?_; (case hd => rfl); (case hg => rfl); (case hr => first | (go_simp; done) | (go_simp; rfl)); intro gb287 hg w11 hbox hb; have n0_ := Aside0.mk (below_step (by repeat (first | (with_reducible first | exact HB.out | apply below_alloc | apply pw_below_drewN | apply below_drew1) | exact HB.out)) hb); have n1_ := Aside0.mk (hbox); have n2_ := Aside0.mk ((by rw [hg]; exact (below_size (by repeat (first | (with_reducible first | exact HB.out | apply below_alloc | apply pw_below_drewN | apply below_drew1) | exact HB.out))) : w.heap.size ≤ gb287)); have n3_ := Aside0.mk ((by rw [hg]; exact (below_size (by repeat (first | (with_reducible first | exact HB.out | apply below_alloc | apply pw_below_drewN | apply below_drew1) | exact HB.out))) : w.heap.size ≤ gb287)); clear HB; have HB := n0_; have BK287 := n1_; have GW287 := n2_; have GE287 := n3_; clear n0_ n1_ n2_ n3_; clear hb hbox hg) | ((with_reducible refine gate_callee (f := 11) rfl ?_); refine goesL_ (some 15) rfl rfl Try.func11 (by kernel_rfl) rfl #[] rfl (by (try simp only [List.map_toArray, List.map_cons, List.map_nil]); first | done | rfl | (simp only [List.length_drop, List.length_take]; rfl)) ?_; (with_reducible refine (plenumlaw35_awake.calls  true _ A6.out).mono ?_); rintro e w12 ⟨rfl, hb⟩; refine ⟨_, rfl, ?_⟩; have n0_ := Aside0.mk (blk_below (g := gb287) (o := .cells #[.int .i64 a0_0, .int .i64 a0_1] 23 (0, 0)) (by (with_reducible repeat (first | refine blk_drewN ?_ _ | refine blk_drew ?_ | refine blk_alloc ?_ _)); exact BK287.out) hb); have n1_ := Aside0.mk (below_step (by repeat (first | (with_reducible first | exact HB.out | apply below_alloc | apply pw_below_drewN | apply below_drew1 | refine below_set ?_ GE287.out) | exact HB.out)) hb); clear BK287; clear HB; have BK287 := n0_; have HB := n1_; clear n0_ n1_; (try clear hb); (try clear hb2); (try clear hk); (try clear hi); have hcz13_0 : w12.cell? ⟨gb287, 0, none⟩ = some (.int .i64 a0_0) := (blk_cell BK287.out 0).trans rfl; have hcz13_1 : w12.cell? ⟨gb287, 1, none⟩ = some (.int .i64 a0_1) := (blk_cell BK287.out 1).trans rfl; have hfz13_0 := blk_frozen BK287.out 0; have hfz13_1 := blk_frozen BK287.out 1) | ((with_reducible refine gate_callee (f := 14) rfl ?_); refine goesL_ (some 22) rfl rfl Try.func14 (by kernel_rfl) rfl #[.agg #[.int .i64 a0_0, .int .i64 a0_1], .int .i64 a2, .int .i64 a3, .int .i64 a4] rfl (by (try simp only [List.map_toArray, List.map_cons, List.map_nil]); first | done | rfl | (simp only [List.length_drop, List.length_take]; rfl)) ?_; (with_reducible refine (thermal_Steady.calls k a0_0 a0_1 a2 a3 a4 t289 t290 t291 _ A8.out).mono ?_); rintro e w14 ⟨rfl, hb⟩; refine ⟨_, rfl, ?_⟩; have n0_ := Aside0.mk (blk_below (g := gb287) (o := .cells #[.int .i64 a0_0, .int .i64 a0_1] 23 (0, 0)) (by (with_reducible repeat (first | refine blk_drewN ?_ _ | refine blk_drew ?_ | refine blk_alloc ?_ _)); exact BK287.out) hb); have n1_ := Aside0.mk (below_step (by repeat (first | (with_reducible first | exact HB.out | apply below_alloc | apply pw_below_drewN | apply below_drew1 | refine below_set ?_ GE287.out) | exact HB.out)) hb); clear BK287; clear HB; have BK287 := n0_; have HB := n1_; clear n0_ n1_; (try clear hb); (try clear hb2); (try clear hk); (try clear hi)) | ((with_reducible refine gate_dst (N := 11) rfl ?_); refine box_event ?hg (N := 11) ?hd (cs := #[.int .i64 0, .int .i64 0]) (t := 29) ?hr ?_; (case hd => rfl); (case hg => rfl); (case hr => first | (go_simp; done) | (go_simp; rfl)); intro gb292 hg w15 hbox hb; have n0_ := Aside0.mk (blk_below (g := gb287) (o := .cells #[.int .i64 a0_0, .int .i64 a0_1] 23 (0, 0)) (by (with_reducible repeat (first | refine blk_drewN ?_ _ | refine blk_drew ?_ | refine blk_alloc ?_ _)); exact BK287.out) hb); have n1_ := Aside0.mk (below_step (by repeat (first | (with_reducible first | exact HB.out | apply below_alloc | apply pw_below_drewN | apply below_drew1 | refine below_set ?_ GE287.out) | exact HB.out)) hb); have n2_ := Aside0.mk (hbox); have n3_ := Aside0.mk ((by rw [hg]; exact (below_size (by repeat (first | (with_reducible first | exact HB.out | apply below_alloc | apply pw_below_drewN | apply below_drew1 | refine below_set ?_ GE287.out) | exact HB.out))) : w.heap.size ≤ gb292)); have n4_ := Aside0.mk ((by rw [hg]; exact (below_size (by repeat (first | (with_reducible first | exact HB.out | apply below_alloc | apply pw_below_drewN | apply below_drew1 | refine below_set ?_ GE287.out) | exact HB.out))) : w.heap.size ≤ gb292)); have n5_ := Aside0.mk ((by rw [hg]; exact Nat.ne_of_lt (blk_lt (g := gb287) (o := .cells #[.int .i64 a0_0, .int .i64 a0_1] 23 (0, 0)) (by (with_reducible repeat (first | refine blk_drewN ?_ _ | refine blk_drew ?_ | refine blk_alloc ?_ _)); exact BK287.out)) : gb287 ≠ gb292)); have n6_ := Aside0.mk ((by rw [hg]; exact Nat.ne_of_gt (blk_lt (g := gb287) (o := .cells #[.int .i64 a0_0, .int .i64 a0_1] 23 (0, 0)) (by (with_reducible repeat (first | refine blk_drewN ?_ _ | refine blk_drew ?_ | refine blk_alloc ?_ _)); exact BK287.out)) : gb292 ≠ gb287)); clear BK287; clear HB; have BK287 := n0_; have HB := n1_; have BK292 := n2_; have GW292 := n3_; have GE292 := n4_; have NB287_292 := n5_; have NB292_287 := n6_; clear n0_ n1_ n2_ n3_ n4_ n5_ n6_; clear hb hbox hg; have hnb16 := NB292_287.out; have hnc16 := NB287_292.out; have hcz17_0 : w15.cell? ⟨gb292, 0, none⟩ = some (.int .i64 0) := (blk_cell BK292.out 0).trans rfl; have hcz17_1 : w15.cell? ⟨gb292, 1, none⟩ = some (.int .i64 0) := (blk_cell BK292.out 1).trans rfl; have hfz17_0 := blk_frozen BK292.out 0; have hfz17_1 := blk_frozen BK292.out 1; have hcz18_0 : w15.cell? ⟨gb287, 0, none⟩ = some (.int .i64 a0_0) := (blk_cell BK287.out 0).trans rfl; have hcz18_1 : w15.cell? ⟨gb287, 1, none⟩ = some (.int .i64 a0_1) := (blk_cell BK287.out 1).trans rfl; have hfz18_0 := blk_frozen BK287.out 0; have hfz18_1 := blk_frozen BK287.out 1) | ((with_reducible refine gate_callee (f := 12) rfl ?_); refine goesL_ (some 31) rfl rfl Try.func12 (by kernel_rfl) rfl #[.agg #[.int .i64 a0_0, .int .i64 a0_1], .int .i64 a1, .int .i64 a2, .int .i64 a3, .int .i64 a4] rfl (by (try simp only [List.map_toArray, List.map_cons, List.map_nil]); first | done | rfl | (simp only [List.length_drop, List.length_take]; rfl)) ?_; (with_reducible refine (thermal_Step.calls k a0_0 a0_1 a1 a2 a3 a4 t293 t294 _ A9.out).mono ?_); rintro e w19 ⟨rfl, hb⟩; refine ⟨_, rfl, ?_⟩; have n0_ := Aside0.mk (blk_below (g := gb287) (o := .cells #[.int .i64 a0_0, .int .i64 a0_1] 23 (0, 0)) (by (with_reducible repeat (first | refine blk_drewN ?_ _ | refine blk_drew ?_ | refine blk_alloc ?_ _)); refine blk_far ?_ NB287_292.out _; (with_reducible repeat (first | refine blk_drewN ?_ _ | refine blk_drew ?_ | refine blk_alloc ?_ _)); refine blk_far ?_ NB287_292.out _; (with_reducible repeat (first | refine blk_drewN ?_ _ | refine blk_drew ?_ | refine blk_alloc ?_ _)); exact BK287.out) hb); have n1_ := Aside0.mk (blk_below (g := gb292) (o := .cells #[.int .i64 t289, .int .i64 t290] 29 (0, 0)) (by (with_reducible repeat (first | refine blk_drewN ?_ _ | refine blk_drew ?_ | refine blk_alloc ?_ _)); refine blk_put (cs := #[.int .i64 t289, .int .i64 0]) ?_ 1 _ rfl; (with_reducible repeat (first | refine blk_drewN ?_ _ | refine blk_drew ?_ | refine blk_alloc ?_ _)); refine blk_put (cs := #[.int .i64 0, .int .i64 0]) ?_ 0 _ rfl; (with_reducible repeat (first | refine blk_drewN ?_ _ | refine blk_drew ?_ | refine blk_alloc ?_ _)); exact BK292.out) hb); have n2_ := Aside0.mk (below_step (by repeat (first | (with_reducible first | exact HB.out | apply below_alloc | apply pw_below_drewN | apply below_drew1 | refine below_set ?_ GE287.out | refine below_set ?_ GE292.out) | exact HB.out)) hb); clear BK287; clear BK292; clear HB; have BK287 := n0_; have BK292 := n1_; have HB := n2_; clear n0_ n1_ n2_; (try clear hb); (try clear hb2); (try clear hk); (try clear hi)))
    (try simp only [Act.put, List.setIfInBounds_toArray, List.set_cons_zero, List.set_cons_succ])
    go_cut [39] (fun v39 wc => ∃ (kq : Nat) (x39_9 : Bool), v39 = .bool x39_9 ∧ Aside0 (plenumlaw35_ThermalSteady.j0 kq a1 t293 x39_9 t289 t290 = some r) ∧ Aside0 (kq ≤ k) ∧ Aside0 (wc.heap[gb287]? = some (.cells #[.int .i64 a0_0, .int .i64 a0_1] 23 (0, 0))) ∧ Aside0 (wc.heap[gb292]? = some (.cells #[.int .i64 t289, .int .i64 t290] 29 (0, 0))) ∧ Aside0 (Below w.heap.size w wc))
    case first =>
      have H := HC10.out
      clear HC10
      by_cases c20 : t291 = 0
      · rw [if_pos c20] at H
        have c20b0 : (t291 == 0) = true := beq_iff_eq.mpr c20
        have c20b1 : (t291 != 0) = false := bne_eq_false_iff_eq.mpr c20
        clear c20
        (first | rw [c20b0] | (simp only [i64_w, i32_w]; rw [c20b0]) | skip)
        have H' := Aside0.mk H
        clear H
        go_wp2
        go_meet
        case rel => exact ⟨_, ((t294 != 0)), (by first | rfl | (simp; done) | (simp [*]; done)), H', ⟨by first | omega | exact Nat.le_refl _⟩, ⟨by (with_reducible repeat (first | refine blk_drewN ?_ _ | refine blk_drew ?_ | refine blk_alloc ?_ _)); exact BK287.out⟩, ⟨by (with_reducible repeat (first | refine blk_drewN ?_ _ | refine blk_drew ?_ | refine blk_alloc ?_ _)); exact BK292.out⟩, ⟨by repeat (first | (with_reducible first | exact HB.out | apply below_alloc | apply pw_below_drewN | apply below_drew1 | refine below_set ?_ GE287.out | refine below_set ?_ GE292.out) | exact HB.out)⟩⟩
      · rw [if_neg c20] at H
        have c20b0 : (t291 == 0) = false := beq_eq_false_iff_ne.mpr c20
        have c20b1 : (t291 != 0) = true := bne_iff_ne.mpr c20
        (first | rw [c20b0] | (simp only [i64_w, i32_w]; rw [c20b0]) | skip)
        have H' := Aside0.mk H
        clear H
        go_wp2
        go_meet
        case rel => exact ⟨_, (true), (by first | rfl | (simp; done) | (simp [*]; done)), H', ⟨by first | omega | exact Nat.le_refl _⟩, ⟨by (with_reducible repeat (first | refine blk_drewN ?_ _ | refine blk_drew ?_ | refine blk_alloc ?_ _)); exact BK287.out⟩, ⟨by (with_reducible repeat (first | refine blk_drewN ?_ _ | refine blk_drew ?_ | refine blk_alloc ?_ _)); exact BK292.out⟩, ⟨by repeat (first | (with_reducible first | exact HB.out | apply below_alloc | apply pw_below_drewN | apply below_drew1 | refine below_set ?_ GE287.out | refine below_set ?_ GE292.out) | exact HB.out)⟩⟩
    case rest =>
      clear HC10
      try clear c1
      try clear c2
      try clear p2
      try clear c7
      try clear c11
      try clear c12
      try clear c14
      try clear c16
      try clear c20
      try clear c20b0
      try clear c20b1
      try clear hcz13_0
      try clear hcz13_1
      try clear hcz17_0
      try clear hcz17_1
      try clear hcz18_0
      try clear hcz18_1
      try clear hfz13_0
      try clear hfz13_1
      try clear hfz17_0
      try clear hfz17_1
      try clear hfz18_0
      try clear hfz18_1
      obtain ⟨kq, x39_9, rfl, HA, HJ9, BK287, BK292, HB⟩ := hcut
      cases kq with
      | zero => exact absurd HA.out (by simp [plenumlaw35_ThermalSteady.j0])
      | succ kj9 =>
        have H := HA.out
        clear HA
        simp only [plenumlaw35_ThermalSteady.j0] at H
        by_cases c21 : x39_9 = true
        · subst c21
          have H1 : (some true) = some r := by rw [if_pos rfl] at H; exact H
          clear H
          have H := H1
          clear H1
          obtain rfl := Option.some.inj H
          go_wp2
          go_ret
          exact ⟨by first | rfl | (simp [errW_none, errW_some] <;> rfl) | (simp [*, errW_none, errW_some] <;> rfl), by repeat (first | (with_reducible first | exact HB.out | apply below_alloc | apply pw_below_drewN | apply below_drew1 | refine below_set ?_ GE287.out | refine below_set ?_ GE292.out) | exact HB.out)⟩
        · replace c21 := Bool.eq_false_iff.mpr c21
          subst c21
          have H1 : (if t289 > t290 then (some false) else (if a1 < t289 then (if t293 > a1 then (some (decide (t293 ≤ t289))) else (some false)) else (if a1 > t290 then (if t293 < a1 then (some (decide (t293 ≥ t290))) else (some false)) else (some (t293 == a1))))) = some r := by rw [if_neg (show ¬ (false = true) by decide)] at H; exact H
          clear H
          have H := H1
          clear H1
          by_cases c22 : t289 > t290
          · rw [if_pos c22] at H
            have c22b0 : decide (t290 < t289) = true := decide_eq_true c22
            clear c22
            obtain rfl := Option.some.inj H
            have hnb23 := NB292_287.out
            have hnc23 := NB287_292.out
            have hcz24_0 : wc.cell? ⟨gb292, 0, none⟩ = some (.int .i64 t289) := (blk_cell BK292.out 0).trans rfl
            have hcz24_1 : wc.cell? ⟨gb292, 1, none⟩ = some (.int .i64 t290) := (blk_cell BK292.out 1).trans rfl
            have hfz24_0 := blk_frozen BK292.out 0
            have hfz24_1 := blk_frozen BK292.out 1
            go_wp2
            go_ret
            exact ⟨by first | rfl | (simp [errW_none, errW_some] <;> rfl) | (simp [*, errW_none, errW_some] <;> rfl), by repeat (first | (with_reducible first | exact HB.out | apply below_alloc | apply pw_below_drewN | apply below_drew1 | refine below_set ?_ GE287.out | refine below_set ?_ GE292.out) | exact HB.out)⟩
          · rw [if_neg c22] at H
            have c22b0 : decide (t290 < t289) = false := decide_eq_false c22
            clear c22
            by_cases c25 : a1 < t289
            · rw [if_pos c25] at H
              have c25b0 : decide (a1 < t289) = true := decide_eq_true c25
              clear c25
              by_cases c26 : t293 > a1
              · rw [if_pos c26] at H
                have c26b0 : decide (a1 < t293) = true := decide_eq_true c26
                clear c26
                obtain rfl := Option.some.inj H
                have hnb27 := NB292_287.out
                have hnc27 := NB287_292.out
                have hcz28_0 : wc.cell? ⟨gb292, 0, none⟩ = some (.int .i64 t289) := (blk_cell BK292.out 0).trans rfl
                have hcz28_1 : wc.cell? ⟨gb292, 1, none⟩ = some (.int .i64 t290) := (blk_cell BK292.out 1).trans rfl
                have hfz28_0 := blk_frozen BK292.out 0
                have hfz28_1 := blk_frozen BK292.out 1
                go_wp2
                go_ret
                exact ⟨by first | rfl | (simp [errW_none, errW_some] <;> rfl) | (simp [*, errW_none, errW_some] <;> rfl), by repeat (first | (with_reducible first | exact HB.out | apply below_alloc | apply pw_below_drewN | apply below_drew1 | refine below_set ?_ GE287.out | refine below_set ?_ GE292.out) | exact HB.out)⟩
              · rw [if_neg c26] at H
                have c26b0 : decide (a1 < t293) = false := decide_eq_false c26
                clear c26
                obtain rfl := Option.some.inj H
                have hnb29 := NB292_287.out
                have hnc29 := NB287_292.out
                have hcz30_0 : wc.cell? ⟨gb292, 0, none⟩ = some (.int .i64 t289) := (blk_cell BK292.out 0).trans rfl
                have hcz30_1 : wc.cell? ⟨gb292, 1, none⟩ = some (.int .i64 t290) := (blk_cell BK292.out 1).trans rfl
                have hfz30_0 := blk_frozen BK292.out 0
                have hfz30_1 := blk_frozen BK292.out 1
                go_wp2
                go_ret
                exact ⟨by first | rfl | (simp [errW_none, errW_some] <;> rfl) | (simp [*, errW_none, errW_some] <;> rfl), by repeat (first | (with_reducible first | exact HB.out | apply below_alloc | apply pw_below_drewN | apply below_drew1 | refine below_set ?_ GE287.out | refine below_set ?_ GE292.out) | exact HB.out)⟩
            · rw [if_neg c25] at H
              have c25b0 : decide (a1 < t289) = false := decide_eq_false c25
              clear c25
              by_cases c31 : a1 > t290
              · rw [if_pos c31] at H
                have c31b0 : decide (t290 < a1) = true := decide_eq_true c31
                clear c31
                by_cases c32 : t293 < a1
                · rw [if_pos c32] at H
                  have c32b0 : decide (t293 < a1) = true := decide_eq_true c32
                  clear c32
                  obtain rfl := Option.some.inj H
                  have hnb33 := NB292_287.out
                  have hnc33 := NB287_292.out
                  have hcz34_0 : wc.cell? ⟨gb292, 0, none⟩ = some (.int .i64 t289) := (blk_cell BK292.out 0).trans rfl
                  have hcz34_1 : wc.cell? ⟨gb292, 1, none⟩ = some (.int .i64 t290) := (blk_cell BK292.out 1).trans rfl
                  have hfz34_0 := blk_frozen BK292.out 0
                  have hfz34_1 := blk_frozen BK292.out 1
                  go_wp2
                  go_ret
                  exact ⟨by first | rfl | (simp [errW_none, errW_some] <;> rfl) | (simp [*, errW_none, errW_some] <;> rfl), by repeat (first | (with_reducible first | exact HB.out | apply below_alloc | apply pw_below_drewN | apply below_drew1 | refine below_set ?_ GE287.out | refine below_set ?_ GE292.out) | exact HB.out)⟩
                · rw [if_neg c32] at H
                  have c32b0 : decide (t293 < a1) = false := decide_eq_false c32
                  clear c32
                  obtain rfl := Option.some.inj H
                  have hnb35 := NB292_287.out
                  have hnc35 := NB287_292.out
                  have hcz36_0 : wc.cell? ⟨gb292, 0, none⟩ = some (.int .i64 t289) := (blk_cell BK292.out 0).trans rfl
                  have hcz36_1 : wc.cell? ⟨gb292, 1, none⟩ = some (.int .i64 t290) := (blk_cell BK292.out 1).trans rfl
                  have hfz36_0 := blk_frozen BK292.out 0
                  have hfz36_1 := blk_frozen BK292.out 1
                  go_wp2
                  go_ret
                  exact ⟨by first | rfl | (simp [errW_none, errW_some] <;> rfl) | (simp [*, errW_none, errW_some] <;> rfl), by repeat (first | (with_reducible first | exact HB.out | apply below_alloc | apply pw_below_drewN | apply below_drew1 | refine below_set ?_ GE287.out | refine below_set ?_ GE292.out) | exact HB.out)⟩
              · rw [if_neg c31] at H
                have c31b0 : decide (t290 < a1) = false := decide_eq_false c31
                clear c31
                obtain rfl := Option.some.inj H
                have hnb37 := NB292_287.out
                have hnc37 := NB287_292.out
                have hcz38_0 : wc.cell? ⟨gb292, 0, none⟩ = some (.int .i64 t289) := (blk_cell BK292.out 0).trans rfl
                have hcz38_1 : wc.cell? ⟨gb292, 1, none⟩ = some (.int .i64 t290) := (blk_cell BK292.out 1).trans rfl
                have hfz38_0 := blk_frozen BK292.out 0
                have hfz38_1 := blk_frozen BK292.out 1
                go_wp2
                go_ret
                exact ⟨by first | rfl | (simp [errW_none, errW_some] <;> rfl) | (simp [*, errW_none, errW_some] <;> rfl), by repeat (first | (with_reducible first | exact HB.out | apply below_alloc | apply pw_below_drewN | apply below_drew1 | refine below_set ?_ GE287.out | refine below_set ?_ GE292.out) | exact HB.out)⟩
  · replace c7 := Bool.eq_false_iff.mpr c7
    subst c7
    have H1 : (some false) = some r := by rw [if_neg (show ¬ (false = true) by decide)] at H; exact H
    clear H
    have H := H1
    clear H1
    obtain rfl := Option.some.inj H
    go_enter Try.func7, Try.ntmps7
    go_wp2_with (first | ((with_reducible refine gate_dst (N := 5) rfl ?_); refine box_event ?hg (N := 5) ?hd (cs := #[.int .i64 a0_0, .int .i64 a0_1]) (t := 23) ?hr ?_; (case hd => rfl); (case hg => rfl); (case hr => first | (go_simp; done) | (go_simp; rfl)); intro gb287 hg w39 hbox hb; have n0_ := Aside0.mk (below_step (by repeat (first | (with_reducible first | exact HB.out | apply below_alloc | apply pw_below_drewN | apply below_drew1) | exact HB.out)) hb); have n1_ := Aside0.mk (hbox); have n2_ := Aside0.mk ((by rw [hg]; exact (below_size (by repeat (first | (with_reducible first | exact HB.out | apply below_alloc | apply pw_below_drewN | apply below_drew1) | exact HB.out))) : w.heap.size ≤ gb287)); have n3_ := Aside0.mk ((by rw [hg]; exact (below_size (by repeat (first | (with_reducible first | exact HB.out | apply below_alloc | apply pw_below_drewN | apply below_drew1) | exact HB.out))) : w.heap.size ≤ gb287)); clear HB; have HB := n0_; have BK287 := n1_; have GW287 := n2_; have GE287 := n3_; clear n0_ n1_ n2_ n3_; clear hb hbox hg) | ((with_reducible refine gate_callee (f := 11) rfl ?_); refine goesL_ (some 15) rfl rfl Try.func11 (by kernel_rfl) rfl #[] rfl (by (try simp only [List.map_toArray, List.map_cons, List.map_nil]); first | done | rfl | (simp only [List.length_drop, List.length_take]; rfl)) ?_; (with_reducible refine (plenumlaw35_awake.calls  false _ A6.out).mono ?_); rintro e w40 ⟨rfl, hb⟩; refine ⟨_, rfl, ?_⟩; have n0_ := Aside0.mk (blk_below (g := gb287) (o := .cells #[.int .i64 a0_0, .int .i64 a0_1] 23 (0, 0)) (by (with_reducible repeat (first | refine blk_drewN ?_ _ | refine blk_drew ?_ | refine blk_alloc ?_ _)); exact BK287.out) hb); have n1_ := Aside0.mk (below_step (by repeat (first | (with_reducible first | exact HB.out | apply below_alloc | apply pw_below_drewN | apply below_drew1 | refine below_set ?_ GE287.out) | exact HB.out)) hb); clear BK287; clear HB; have BK287 := n0_; have HB := n1_; clear n0_ n1_; (try clear hb); (try clear hb2); (try clear hk); (try clear hi)))
    go_ret
    exact ⟨by first | rfl | (simp [errW_none, errW_some] <;> rfl) | (simp [*, errW_none, errW_some] <;> rfl), by repeat (first | (with_reducible first | exact HB.out | apply below_alloc | apply pw_below_drewN | apply below_drew1 | refine below_set ?_ GE287.out) | exact HB.out)⟩

/-- THE ONE PURE STATEMENT of plenumlaw35_ThermalSteady. -/
def plenumlaw35_ThermalSteady.Pure : Prop := ∀ (a0_0 : Int) (a0_1 : Int) (a1 : Int) (a2 : Int) (a3 : Int) (a4 : Int), (Lit.int .i64 a0_0).wf = true → (Lit.int .i64 a0_1).wf = true → (Lit.int .i64 a1).wf = true → (Lit.int .i64 a2).wf = true → (Lit.int .i64 a3).wf = true → (Lit.int .i64 a4).wf = true → ∃ k, plenumlaw35_ThermalSteady.f k a0_0 a0_1 a1 a2 a3 a4 = some true
theorem plenumlaw35_ThermalSteady.walk (P : plenumlaw35_ThermalSteady.Pure) (a0_0 : Int) (a0_1 : Int) (a1 : Int) (a2 : Int) (a3 : Int) (a4 : Int) (w : World) (wa0_0 : (Lit.int .i64 a0_0).wf = true) (wa0_1 : (Lit.int .i64 a0_1).wf = true) (wa1 : (Lit.int .i64 a1).wf = true) (wa2 : (Lit.int .i64 a2).wf = true) (wa3 : (Lit.int .i64 a3).wf = true) (wa4 : (Lit.int .i64 a4).wf = true) :
    Calls Try.prog 7 #[.agg #[.int .i64 a0_0, .int .i64 a0_1], .int .i64 a1, .int .i64 a2, .int .i64 a3, .int .i64 a4] w fun e w' => e = .returned (.bool true) ∧ Below w.heap.size w w' := by
  obtain ⟨k, h⟩ := P a0_0 a0_1 a1 a2 a3 a4 wa0_0 wa0_1 wa1 wa2 wa3 wa4
  refine (plenumlaw35_ThermalSteady.calls k a0_0 a0_1 a1 a2 a3 a4 true w h).mono ?_
  rintro e w' ⟨rfl, hd⟩
  exact ⟨rfl, hd⟩

end Go.Proofs.Ythlokfpboinmpaa.PT
