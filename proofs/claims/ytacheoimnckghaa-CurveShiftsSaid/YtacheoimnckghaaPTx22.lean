-- Laid by hp.py (a program of this session's) through the kit's printer.
import Derived.Test.YtacheoimnckghaaPTx0
import Derived.Test.YtacheoimnckghaaPTx11
import Derived.Test.YtacheoimnckghaaPTx13
import Derived.Test.YtacheoimnckghaaPTx15
import Derived.Test.YtacheoimnckghaaPTx16
namespace Go.Proofs.Ytacheoimnckghaa.PT
open Go.RowKit Go.Proofs.YtacheoimnckghaaW.PrintWords Go.Proofs.YtacheoimnckghaaW.PrintLast Go.Proofs.YtacheoimnckghaaW.PrintMore
attribute [local go_sem] max2_int min2_int max_two min_two max_three min_three max_four min_four   -- for this text's walks alone
set_option linter.unusedVariables false
set_option linter.unusedSimpArgs false

/-! ### plenumlaw03_CurveShifts: function 4 -/
mutual
def plenumlaw03_CurveShifts.j0 : Nat → List (S50) → Int → Int → Int → List (S50) → Bool → Option (Bool)
  | 0, _, _, _, _, _, _ => none
  | k + 1, x0, x1, x2, x3, x9, x47 => if x47 = true then (some true) else ((curve_Shift.f k x9 (wrap64 (-x1)) (wrap64 (-x2))).bind fun bt366 => (if bt366.2 = 0 then ((plenumref03_Same.f k bt366.1 x0).bind fun t370 => (plenumlaw03_CurveShifts.j1 k x0 x1 x3 x9 (!t370))) else (plenumlaw03_CurveShifts.j1 k x0 x1 x3 x9 true)))
def plenumlaw03_CurveShifts.j1 : Nat → List (S50) → Int → Int → List (S50) → Bool → Option (Bool)
  | 0, _, _, _, _, _ => none
  | k + 1, x0, x1, x3, x9, x64 => if x64 = true then (some false) else ((curve_Shift.f k x0 x1 0).bind fun bt371 => (if bt371.2 = 0 then ((curve_Eval.f k x0 x3).bind fun bt375 => ((curve_Eval.f k bt371.1 (wrap64 (x3 + x1))).bind fun bt377 => ((curve_Area.f k x0).bind fun bt379 => ((curve_Area.f k bt371.1).bind fun bt382 => ((curve_Direction.f k x0).bind fun bt385 => ((curve_Direction.f k x9).bind fun bt387 => (if bt375.2 = 0 then (if bt377.2 = 0 then (if bt375.1 = bt377.1 then (if bt379.2.2 = 0 then (if bt382.2.2 = 0 then (if bt379.1 = bt382.1 then (if bt379.2.1 = bt382.2.1 then (if bt385.2 = 0 then (if bt387.2 = 0 then (plenumlaw03_CurveShifts.j2 k (bt385.1 == bt387.1)) else (plenumlaw03_CurveShifts.j2 k false)) else (plenumlaw03_CurveShifts.j2 k false)) else (plenumlaw03_CurveShifts.j2 k false)) else (plenumlaw03_CurveShifts.j2 k false)) else (plenumlaw03_CurveShifts.j2 k false)) else (plenumlaw03_CurveShifts.j2 k false)) else (plenumlaw03_CurveShifts.j2 k false)) else (plenumlaw03_CurveShifts.j2 k false)) else (plenumlaw03_CurveShifts.j2 k false)))))))) else (some false)))
def plenumlaw03_CurveShifts.j2 : Nat → Bool → Option (Bool)
  | 0, _ => none
  | k + 1, x8 => some x8
end
def plenumlaw03_CurveShifts.f (k : Nat) (l0 : List (S50)) (a1 : Int) (a2 : Int) (a3 : Int) : Option (Bool) := (plenumlaw03_awake.f).bind fun t361 => (if t361 = true then ((curve_Shift.f k l0 a1 a2).bind fun bt362 => (if bt362.2 = 0 then (if a3 < (-1000000000000) then (plenumlaw03_CurveShifts.j0 k l0 a1 a2 a3 bt362.1 true) else (plenumlaw03_CurveShifts.j0 k l0 a1 a2 a3 bt362.1 (decide (a3 > 1000000000000)))) else (plenumlaw03_CurveShifts.j0 k l0 a1 a2 a3 bt362.1 true))) else (some false))
theorem plenumlaw03_CurveShifts.mono_l : ∀ k, (∀ y0 y1 y2 y3 y4 y5, LeO (plenumlaw03_CurveShifts.j0 k y0 y1 y2 y3 y4 y5) (plenumlaw03_CurveShifts.j0 (k + 1) y0 y1 y2 y3 y4 y5)) ∧ (∀ y0 y1 y2 y3 y4, LeO (plenumlaw03_CurveShifts.j1 k y0 y1 y2 y3 y4) (plenumlaw03_CurveShifts.j1 (k + 1) y0 y1 y2 y3 y4)) ∧ (∀ y0, LeO (plenumlaw03_CurveShifts.j2 k y0) (plenumlaw03_CurveShifts.j2 (k + 1) y0))
  | 0 => ⟨fun _ _ _ _ _ _ r h => by simp [plenumlaw03_CurveShifts.j0] at h, fun _ _ _ _ _ r h => by simp [plenumlaw03_CurveShifts.j1] at h, fun _ r h => by simp [plenumlaw03_CurveShifts.j2] at h⟩
  | k + 1 => by
    obtain ⟨ih0, ih1, ih2⟩ := plenumlaw03_CurveShifts.mono_l k
    refine ⟨?_, ?_, ?_⟩
    · intro y0 y1 y2 y3 y4 y5
      unfold plenumlaw03_CurveShifts.j0
      repeat' first
      | (with_reducible exact ih0 _ _ _ _ _ _)
      | (with_reducible exact ih1 _ _ _ _ _)
      | (with_reducible exact ih2 _)
      | (with_reducible exact curve_Area.mono _ _)
      | (with_reducible exact curve_Direction.mono _ _)
      | (with_reducible exact curve_Eval.mono _ _ _)
      | (with_reducible exact curve_Shift.mono _ _ _ _)
      | (with_reducible exact plenumref03_Same.mono _ _ _)
      | (with_reducible exact LeO.refl _)
      | (with_reducible exact LeO.none _)
      | (with_reducible refine LeO.ite ?_ ?_)
      | (with_reducible refine LeO.bind ?_ (fun _ => ?_))
      | exact ih0 _ _ _ _ _ _
      | exact ih1 _ _ _ _ _
      | exact ih2 _
      | exact curve_Area.mono _ _
      | exact curve_Direction.mono _ _
      | exact curve_Eval.mono _ _ _
      | exact curve_Shift.mono _ _ _ _
      | exact plenumref03_Same.mono _ _ _
      | exact LeO.none _
      | refine LeO.ite ?_ ?_
      | refine LeO.bind ?_ (fun _ => ?_)
    · intro y0 y1 y2 y3 y4
      unfold plenumlaw03_CurveShifts.j1
      repeat' first
      | (with_reducible exact ih0 _ _ _ _ _ _)
      | (with_reducible exact ih1 _ _ _ _ _)
      | (with_reducible exact ih2 _)
      | (with_reducible exact curve_Area.mono _ _)
      | (with_reducible exact curve_Direction.mono _ _)
      | (with_reducible exact curve_Eval.mono _ _ _)
      | (with_reducible exact curve_Shift.mono _ _ _ _)
      | (with_reducible exact plenumref03_Same.mono _ _ _)
      | (with_reducible exact LeO.refl _)
      | (with_reducible exact LeO.none _)
      | (with_reducible refine LeO.ite ?_ ?_)
      | (with_reducible refine LeO.bind ?_ (fun _ => ?_))
      | exact ih0 _ _ _ _ _ _
      | exact ih1 _ _ _ _ _
      | exact ih2 _
      | exact curve_Area.mono _ _
      | exact curve_Direction.mono _ _
      | exact curve_Eval.mono _ _ _
      | exact curve_Shift.mono _ _ _ _
      | exact plenumref03_Same.mono _ _ _
      | exact LeO.none _
      | refine LeO.ite ?_ ?_
      | refine LeO.bind ?_ (fun _ => ?_)
    · intro y0
      unfold plenumlaw03_CurveShifts.j2
      repeat' first
      | (with_reducible exact ih0 _ _ _ _ _ _)
      | (with_reducible exact ih1 _ _ _ _ _)
      | (with_reducible exact ih2 _)
      | (with_reducible exact curve_Area.mono _ _)
      | (with_reducible exact curve_Direction.mono _ _)
      | (with_reducible exact curve_Eval.mono _ _ _)
      | (with_reducible exact curve_Shift.mono _ _ _ _)
      | (with_reducible exact plenumref03_Same.mono _ _ _)
      | (with_reducible exact LeO.refl _)
      | (with_reducible exact LeO.none _)
      | (with_reducible refine LeO.ite ?_ ?_)
      | (with_reducible refine LeO.bind ?_ (fun _ => ?_))
      | exact ih0 _ _ _ _ _ _
      | exact ih1 _ _ _ _ _
      | exact ih2 _
      | exact curve_Area.mono _ _
      | exact curve_Direction.mono _ _
      | exact curve_Eval.mono _ _ _
      | exact curve_Shift.mono _ _ _ _
      | exact plenumref03_Same.mono _ _ _
      | exact LeO.none _
      | refine LeO.ite ?_ ?_
      | refine LeO.bind ?_ (fun _ => ?_)
theorem plenumlaw03_CurveShifts.mono : ∀ a0 a1 a2 a3 k, LeO (plenumlaw03_CurveShifts.f k a0 a1 a2 a3) (plenumlaw03_CurveShifts.f (k + 1) a0 a1 a2 a3) := by
  intro a0 a1 a2 a3 k
  obtain ⟨ih0, ih1, ih2⟩ := plenumlaw03_CurveShifts.mono_l k
  unfold plenumlaw03_CurveShifts.f
  repeat' first
      | (with_reducible exact ih0 _ _ _ _ _ _)
      | (with_reducible exact ih1 _ _ _ _ _)
      | (with_reducible exact ih2 _)
      | (with_reducible exact curve_Area.mono _ _)
      | (with_reducible exact curve_Direction.mono _ _)
      | (with_reducible exact curve_Eval.mono _ _ _)
      | (with_reducible exact curve_Shift.mono _ _ _ _)
      | (with_reducible exact plenumref03_Same.mono _ _ _)
      | (with_reducible exact LeO.refl _)
      | (with_reducible exact LeO.none _)
      | (with_reducible refine LeO.ite ?_ ?_)
      | (with_reducible refine LeO.bind ?_ (fun _ => ?_))
      | exact ih0 _ _ _ _ _ _
      | exact ih1 _ _ _ _ _
      | exact ih2 _
      | exact curve_Area.mono _ _
      | exact curve_Direction.mono _ _
      | exact curve_Eval.mono _ _ _
      | exact curve_Shift.mono _ _ _ _
      | exact plenumref03_Same.mono _ _ _
      | exact LeO.none _
      | refine LeO.ite ?_ ?_
      | refine LeO.bind ?_ (fun _ => ?_)
set_option maxHeartbeats 8000000 in
set_option maxRecDepth 100000 in
theorem plenumlaw03_CurveShifts.calls (k : Nat) (A0 : Option Addr) (c0 : Nat) (l0 : List (S50)) (a1 : Int) (a2 : Int) (a3 : Int) (r : Bool) (w : World) (hr0 : Kd.C k50 w A0 l0.length l0) (hc0 : l0.length ≤ c0) (h : plenumlaw03_CurveShifts.f k l0 a1 a2 a3 = some r) :
    Calls Try.prog 4 #[.slice A0 l0.length c0, .int .i64 a1, .int .i64 a2, .int .i64 a3] w fun e w' => e = .returned (.bool r) ∧ Below w.heap.size w w' := by
  have HR0 := Aside0.mk hr0
  have HC0 := Aside0.mk hc0
  clear hr0 hc0
  have HB := Aside0.mk (Below.refl w.heap.size w)
  have H : ((plenumlaw03_awake.f).bind fun t361 => (if t361 = true then ((curve_Shift.f k l0 a1 a2).bind fun bt362 => (if bt362.2 = 0 then (if a3 < (-1000000000000) then (plenumlaw03_CurveShifts.j0 k l0 a1 a2 a3 bt362.1 true) else (plenumlaw03_CurveShifts.j0 k l0 a1 a2 a3 bt362.1 (decide (a3 > 1000000000000)))) else (plenumlaw03_CurveShifts.j0 k l0 a1 a2 a3 bt362.1 true))) else (some false))) = some r := h
  clear h
  replace H := Option.bind_eq_some_iff.mp H
  obtain ⟨t361, A50, H⟩ := H
  replace H : (if t361 = true then ((curve_Shift.f k l0 a1 a2).bind fun bt362 => (if bt362.2 = 0 then (if a3 < (-1000000000000) then (plenumlaw03_CurveShifts.j0 k l0 a1 a2 a3 bt362.1 true) else (plenumlaw03_CurveShifts.j0 k l0 a1 a2 a3 bt362.1 (decide (a3 > 1000000000000)))) else (plenumlaw03_CurveShifts.j0 k l0 a1 a2 a3 bt362.1 true))) else (some false)) = some r := H
  have A5 := Aside0.mk A50
  clear A50
  by_cases c6 : t361 = true
  · subst c6
    have H1 : ((curve_Shift.f k l0 a1 a2).bind fun bt362 => (if bt362.2 = 0 then (if a3 < (-1000000000000) then (plenumlaw03_CurveShifts.j0 k l0 a1 a2 a3 bt362.1 true) else (plenumlaw03_CurveShifts.j0 k l0 a1 a2 a3 bt362.1 (decide (a3 > 1000000000000)))) else (plenumlaw03_CurveShifts.j0 k l0 a1 a2 a3 bt362.1 true))) = some r := by rw [if_pos rfl] at H; exact H
    clear H
    have H := H1
    clear H1
    replace H := Option.bind_eq_some_iff.mp H
    obtain ⟨⟨t362, t363⟩, A70, H⟩ := H
    replace H : (if t363 = 0 then (if a3 < (-1000000000000) then (plenumlaw03_CurveShifts.j0 k l0 a1 a2 a3 t362 true) else (plenumlaw03_CurveShifts.j0 k l0 a1 a2 a3 t362 (decide (a3 > 1000000000000)))) else (plenumlaw03_CurveShifts.j0 k l0 a1 a2 a3 t362 true)) = some r := H
    have A7 := Aside0.mk A70
    clear A70
    have HC8 := Aside0.mk H
    clear H
    go_enter Try.func4, Try.ntmps4
    go_upto_region 4 with (first | ((with_reducible refine gate_callee (f := 11) rfl ?_); refine goesL_ (some 29) rfl rfl Try.func11 (by kernel_rfl) rfl #[] rfl (by (try simp only [List.map_toArray, List.map_cons, List.map_nil]); first | done | rfl | (simp only [List.length_drop, List.length_take]; rfl)) ?_; (with_reducible refine (plenumlaw03_awake.calls  true _ A5.out).mono ?_); rintro e w9 ⟨rfl, hb⟩; refine ⟨_, rfl, ?_⟩; have n0_ := Aside0.mk (below_step (by repeat (first | (with_reducible first | exact HB.out | apply below_alloc | apply pw_below_drewN | apply below_drew1) | exact HB.out)) hb); clear HB; have HB := n0_; clear n0_; (try clear hb); (try clear hb2); (try clear hk); (try clear hi)) | ((with_reducible refine gate_callee (f := 12) rfl ?_); refine goesL_ (some 35) rfl rfl Try.func12 (by kernel_rfl) rfl #[.slice A0 l0.length c0, .int .i64 a1, .int .i64 a2] rfl (by (try simp only [List.map_toArray, List.map_cons, List.map_nil]); first | done | rfl | (simp only [List.length_drop, List.length_take]; rfl)) ?_; (with_reducible refine (curve_Shift.calls k _ _ l0 a1 a2 t362 t363 _ ?side1 ?side2 A7.out).mono ?_); (case side1 => repeat (first | exact (Kd.C_below HR0.out HB.out) | (with_reducible refine Kd.C_alloc ?_ _) | (with_reducible refine Kd.C_drewN ?_ _) | (with_reducible refine Kd.C_drew ?_))); (case side2 => exact HC0.out); rintro e w10 ⟨v364, rfl, ho0, hb⟩; refine ⟨_, rfl, ?_⟩; have n0_ := Aside0.mk (Kd.R_lower ho0 (below_size (by repeat (first | (with_reducible first | exact HB.out | apply below_alloc | apply pw_below_drewN | apply below_drew1) | exact HB.out)))); have n1_ := Aside0.mk (below_step (by repeat (first | (with_reducible first | exact HB.out | apply below_alloc | apply pw_below_drewN | apply below_drew1) | exact HB.out)) hb); clear HB; have HO365 := n0_; have HB := n1_; clear n0_ n1_; (try clear hb); (try clear hb2); (try clear hk); (try clear hi); (try clear ho0)))
    (try simp only [Act.put, List.setIfInBounds_toArray, List.set_cons_zero, List.set_cons_succ])
    go_cut [47] (fun v47 wc => ∃ (kq : Nat) (x47_7 : Bool), v47 = .bool x47_7 ∧ Aside0 (plenumlaw03_CurveShifts.j0 kq l0 a1 a2 a3 t362 x47_7 = some r) ∧ Aside0 (kq ≤ k) ∧ Aside0 (Kd.R k50 50 wc w.heap.size (fun _ => True) v364 t362) ∧ Aside0 (Below w.heap.size w wc))
    case first =>
      have H := HC8.out
      clear HC8
      by_cases c11 : t363 = 0
      · rw [if_pos c11] at H
        have c11b0 : (t363 == 0) = true := beq_iff_eq.mpr c11
        have c11b1 : (t363 != 0) = false := bne_eq_false_iff_eq.mpr c11
        clear c11
        (first | rw [c11b0] | (simp only [i64_w, i32_w]; rw [c11b0]) | skip)
        by_cases c12 : a3 < (-1000000000000)
        · rw [if_pos c12] at H
          have c12b0 : decide (a3 < (-1000000000000)) = true := decide_eq_true c12
          clear c12
          have H' := Aside0.mk H
          clear H
          go_wp2
          go_meet
          case rel => exact ⟨_, (true), (by first | rfl | (simp; done) | (simp [*]; done)), H', ⟨by first | omega | exact Nat.le_refl _⟩, ⟨by (with_reducible repeat (first | apply Kd.R_alloc | apply Kd.R_drewN | apply Kd.R_drew)); exact HO365.out⟩, ⟨by repeat (first | (with_reducible first | exact HB.out | apply below_alloc | apply pw_below_drewN | apply below_drew1) | exact HB.out)⟩⟩
        · rw [if_neg c12] at H
          have c12b0 : decide (a3 < (-1000000000000)) = false := decide_eq_false c12
          clear c12
          have H' := Aside0.mk H
          clear H
          go_wp2
          go_meet
          case rel => exact ⟨_, (decide (a3 > 1000000000000)), (by first | rfl | (simp; done) | (simp [*]; done)), H', ⟨by first | omega | exact Nat.le_refl _⟩, ⟨by (with_reducible repeat (first | apply Kd.R_alloc | apply Kd.R_drewN | apply Kd.R_drew)); exact HO365.out⟩, ⟨by repeat (first | (with_reducible first | exact HB.out | apply below_alloc | apply pw_below_drewN | apply below_drew1) | exact HB.out)⟩⟩
      · rw [if_neg c11] at H
        have c11b0 : (t363 == 0) = false := beq_eq_false_iff_ne.mpr c11
        have c11b1 : (t363 != 0) = true := bne_iff_ne.mpr c11
        (first | rw [c11b0] | (simp only [i64_w, i32_w]; rw [c11b0]) | skip)
        have H' := Aside0.mk H
        clear H
        go_wp2
        go_meet
        case rel => exact ⟨_, (true), (by first | rfl | (simp; done) | (simp [*]; done)), H', ⟨by first | omega | exact Nat.le_refl _⟩, ⟨by (with_reducible repeat (first | apply Kd.R_alloc | apply Kd.R_drewN | apply Kd.R_drew)); exact HO365.out⟩, ⟨by repeat (first | (with_reducible first | exact HB.out | apply below_alloc | apply pw_below_drewN | apply below_drew1) | exact HB.out)⟩⟩
    case rest =>
      clear HC8
      try clear c1
      try clear p2
      try clear c4
      try clear c6
      try clear c11
      try clear c11b0
      try clear c11b1
      try clear c12
      try clear c12b0
      obtain ⟨kq, x47_7, rfl, HA, HJ7, HO_9, HB⟩ := hcut
      cases kq with
      | zero => exact absurd HA.out (by simp [plenumlaw03_CurveShifts.j0])
      | succ kj7 =>
        have H := HA.out
        clear HA
        simp only [plenumlaw03_CurveShifts.j0] at H
        by_cases c13 : x47_7 = true
        · subst c13
          have H1 : (some true) = some r := by rw [if_pos rfl] at H; exact H
          clear H
          have H := H1
          clear H1
          obtain rfl := Option.some.inj H
          go_wp2
          go_ret
          exact ⟨by first | rfl | (simp [errW_none, errW_some] <;> rfl) | (simp [*, errW_none, errW_some] <;> rfl), by repeat (first | (with_reducible first | exact HB.out | apply below_alloc | apply pw_below_drewN | apply below_drew1) | exact HB.out)⟩
        · replace c13 := Bool.eq_false_iff.mpr c13
          subst c13
          have H1 : ((curve_Shift.f kj7 t362 (wrap64 (-a1)) (wrap64 (-a2))).bind fun bt366 => (if bt366.2 = 0 then ((plenumref03_Same.f kj7 bt366.1 l0).bind fun t370 => (plenumlaw03_CurveShifts.j1 kj7 l0 a1 a3 t362 (!t370))) else (plenumlaw03_CurveShifts.j1 kj7 l0 a1 a3 t362 true))) = some r := by rw [if_neg (show ¬ (false = true) by decide)] at H; exact H
          clear H
          have H := H1
          clear H1
          replace H := Option.bind_eq_some_iff.mp H
          obtain ⟨⟨t366, t367⟩, A140, H⟩ := H
          replace H : (if t367 = 0 then ((plenumref03_Same.f kj7 t366 l0).bind fun t370 => (plenumlaw03_CurveShifts.j1 kj7 l0 a1 a3 t362 (!t370))) else (plenumlaw03_CurveShifts.j1 kj7 l0 a1 a3 t362 true)) = some r := H
          have A14 := Aside0.mk A140
          clear A140
          have HC15 := Aside0.mk H
          clear H
          obtain ⟨Ao16, co16, eo16⟩ := Kd.R_slice HO_9.out
          subst eo16
          go_upto_region 7 with (first | ((with_reducible refine gate_callee (f := 12) rfl ?_); refine goesL_ (some 54) rfl rfl Try.func12 (by kernel_rfl) rfl #[.slice Ao16 t362.length co16, .int .i64 (wrap64 (-a1)), .int .i64 (wrap64 (-a2))] rfl (by (try simp only [List.map_toArray, List.map_cons, List.map_nil]); first | done | rfl | (simp only [List.length_drop, List.length_take]; rfl)) ?_; (with_reducible refine (curve_Shift.calls kj7 _ _ t362 (wrap64 (-a1)) (wrap64 (-a2)) t366 t367 _ ?side1 ?side2 A14.out).mono ?_); (case side1 => repeat (first | exact (Kd.R_reads' HO_9.out).2.2 | (with_reducible refine Kd.C_alloc ?_ _) | (with_reducible refine Kd.C_drewN ?_ _) | (with_reducible refine Kd.C_drew ?_))); (case side2 => exact (Kd.R_reads' HO_9.out).2.1); rintro e w17 ⟨v368, rfl, ho0, hb⟩; refine ⟨_, rfl, ?_⟩; have n0_ := Aside0.mk (Kd.R_elder' (by (with_reducible repeat (first | apply Kd.R_alloc | apply Kd.R_drewN | apply Kd.R_drew)); exact HO_9.out) (Kd.R_base ho0) hb); have n1_ := Aside0.mk (Kd.R_lower (Kd.R_new' ho0 (Kd.R_lt (by (with_reducible repeat (first | apply Kd.R_alloc | apply Kd.R_drewN | apply Kd.R_drew)); exact HO_9.out))) (below_size (by repeat (first | (with_reducible first | exact HB.out | apply below_alloc | apply pw_below_drewN | apply below_drew1) | exact HB.out)))); have n2_ := Aside0.mk (below_step (by repeat (first | (with_reducible first | exact HB.out | apply below_alloc | apply pw_below_drewN | apply below_drew1) | exact HB.out)) hb); clear HO_9; clear HB; have HO_9 := n0_; have HO369 := n1_; have HB := n2_; clear n0_ n1_ n2_; (try clear hb); (try clear hb2); (try clear hk); (try clear hi); (try clear ho0)))
          (try simp only [Act.put, List.setIfInBounds_toArray, List.set_cons_zero, List.set_cons_succ])
          go_cut [64] (fun v64 wc => ∃ (kq : Nat) (x64_14 : Bool), v64 = .bool x64_14 ∧ Aside0 (plenumlaw03_CurveShifts.j1 kq l0 a1 a3 t362 x64_14 = some r) ∧ Aside0 (kq ≤ kj7) ∧ Aside0 (Kd.R k50 50 wc w.heap.size (fun _ => True) (.slice Ao16 t362.length co16) t362) ∧ Aside0 (Below w.heap.size w wc))
          case first =>
            have H := HC15.out
            clear HC15
            by_cases c18 : t367 = 0
            · rw [if_pos c18] at H
              have c18b0 : (t367 == 0) = true := beq_iff_eq.mpr c18
              have c18b1 : (t367 != 0) = false := bne_eq_false_iff_eq.mpr c18
              clear c18
              (first | rw [c18b0] | (simp only [i64_w, i32_w]; rw [c18b0]) | skip)
              replace H := Option.bind_eq_some_iff.mp H
              obtain ⟨t370, A190, H⟩ := H
              replace H : (plenumlaw03_CurveShifts.j1 kj7 l0 a1 a3 t362 (!t370)) = some r := H
              have A19 := Aside0.mk A190
              clear A190
              have H' := Aside0.mk H
              clear H
              obtain ⟨Ao20, co20, eo20⟩ := Kd.R_slice HO369.out
              subst eo20
              go_wp2_with (first | (go_at_call 16; (with_reducible refine (plenumref03_Same.calls kj7 _ _ t366 _ _ l0 t370 _ ?side1 ?side2 ?side3 ?side4 A19.out).mono ?_); (case side1 => repeat (first | exact (Kd.R_reads' HO369.out).2.2 | (with_reducible refine Kd.C_alloc ?_ _) | (with_reducible refine Kd.C_drewN ?_ _) | (with_reducible refine Kd.C_drew ?_))); (case side2 => exact (Kd.R_reads' HO369.out).2.1); (case side3 => repeat (first | exact (Kd.C_below HR0.out HB.out) | (with_reducible refine Kd.C_alloc ?_ _) | (with_reducible refine Kd.C_drewN ?_ _) | (with_reducible refine Kd.C_drew ?_))); (case side4 => exact HC0.out); rintro e w' ⟨rfl, ⟨nd, rfl⟩⟩))
              go_meet
              case rel => exact ⟨_, (!t370), (by first | rfl | (simp; done) | (simp [*]; done)), H', ⟨by have := HJ7.out; first | omega | exact Nat.le_refl _⟩, ⟨by (with_reducible repeat (first | apply Kd.R_alloc | apply Kd.R_drewN | apply Kd.R_drew)); exact Kd.R_mono HO_9.out (fun _ hk => trivial)⟩, ⟨by repeat (first | (with_reducible first | exact HB.out | apply below_alloc | apply pw_below_drewN | apply below_drew1) | exact HB.out)⟩⟩
            · rw [if_neg c18] at H
              have c18b0 : (t367 == 0) = false := beq_eq_false_iff_ne.mpr c18
              have c18b1 : (t367 != 0) = true := bne_iff_ne.mpr c18
              (first | rw [c18b0] | (simp only [i64_w, i32_w]; rw [c18b0]) | skip)
              have H' := Aside0.mk H
              clear H
              go_wp2
              go_meet
              case rel => exact ⟨_, (true), (by first | rfl | (simp; done) | (simp [*]; done)), H', ⟨by have := HJ7.out; first | omega | exact Nat.le_refl _⟩, ⟨by (with_reducible repeat (first | apply Kd.R_alloc | apply Kd.R_drewN | apply Kd.R_drew)); exact Kd.R_mono HO_9.out (fun _ hk => trivial)⟩, ⟨by repeat (first | (with_reducible first | exact HB.out | apply below_alloc | apply pw_below_drewN | apply below_drew1) | exact HB.out)⟩⟩
          case rest =>
            clear HC15
            try clear c1
            try clear p2
            try clear c4
            try clear c6
            try clear p6
            try clear c11
            try clear c11b0
            try clear c11b1
            try clear c12
            try clear c12b0
            try clear c13
            try clear c18
            try clear c18b0
            try clear c18b1
            try clear p2
            obtain ⟨kq, x64_14, rfl, HA, HJ14, HO_9, HB⟩ := hcut
            cases kq with
            | zero => exact absurd HA.out (by simp [plenumlaw03_CurveShifts.j1])
            | succ kj14 =>
              have H := HA.out
              clear HA
              simp only [plenumlaw03_CurveShifts.j1] at H
              by_cases c21 : x64_14 = true
              · subst c21
                have H1 : (some false) = some r := by rw [if_pos rfl] at H; exact H
                clear H
                have H := H1
                clear H1
                obtain rfl := Option.some.inj H
                go_wp2
                go_ret
                exact ⟨by first | rfl | (simp [errW_none, errW_some] <;> rfl) | (simp [*, errW_none, errW_some] <;> rfl), by repeat (first | (with_reducible first | exact HB.out | apply below_alloc | apply pw_below_drewN | apply below_drew1) | exact HB.out)⟩
              · replace c21 := Bool.eq_false_iff.mpr c21
                subst c21
                have H1 : ((curve_Shift.f kj14 l0 a1 0).bind fun bt371 => (if bt371.2 = 0 then ((curve_Eval.f kj14 l0 a3).bind fun bt375 => ((curve_Eval.f kj14 bt371.1 (wrap64 (a3 + a1))).bind fun bt377 => ((curve_Area.f kj14 l0).bind fun bt379 => ((curve_Area.f kj14 bt371.1).bind fun bt382 => ((curve_Direction.f kj14 l0).bind fun bt385 => ((curve_Direction.f kj14 t362).bind fun bt387 => (if bt375.2 = 0 then (if bt377.2 = 0 then (if bt375.1 = bt377.1 then (if bt379.2.2 = 0 then (if bt382.2.2 = 0 then (if bt379.1 = bt382.1 then (if bt379.2.1 = bt382.2.1 then (if bt385.2 = 0 then (if bt387.2 = 0 then (plenumlaw03_CurveShifts.j2 kj14 (bt385.1 == bt387.1)) else (plenumlaw03_CurveShifts.j2 kj14 false)) else (plenumlaw03_CurveShifts.j2 kj14 false)) else (plenumlaw03_CurveShifts.j2 kj14 false)) else (plenumlaw03_CurveShifts.j2 kj14 false)) else (plenumlaw03_CurveShifts.j2 kj14 false)) else (plenumlaw03_CurveShifts.j2 kj14 false)) else (plenumlaw03_CurveShifts.j2 kj14 false)) else (plenumlaw03_CurveShifts.j2 kj14 false)) else (plenumlaw03_CurveShifts.j2 kj14 false)))))))) else (some false))) = some r := by rw [if_neg (show ¬ (false = true) by decide)] at H; exact H
                clear H
                have H := H1
                clear H1
                replace H := Option.bind_eq_some_iff.mp H
                obtain ⟨⟨t371, t372⟩, A220, H⟩ := H
                replace H : (if t372 = 0 then ((curve_Eval.f kj14 l0 a3).bind fun bt375 => ((curve_Eval.f kj14 t371 (wrap64 (a3 + a1))).bind fun bt377 => ((curve_Area.f kj14 l0).bind fun bt379 => ((curve_Area.f kj14 t371).bind fun bt382 => ((curve_Direction.f kj14 l0).bind fun bt385 => ((curve_Direction.f kj14 t362).bind fun bt387 => (if bt375.2 = 0 then (if bt377.2 = 0 then (if bt375.1 = bt377.1 then (if bt379.2.2 = 0 then (if bt382.2.2 = 0 then (if bt379.1 = bt382.1 then (if bt379.2.1 = bt382.2.1 then (if bt385.2 = 0 then (if bt387.2 = 0 then (plenumlaw03_CurveShifts.j2 kj14 (bt385.1 == bt387.1)) else (plenumlaw03_CurveShifts.j2 kj14 false)) else (plenumlaw03_CurveShifts.j2 kj14 false)) else (plenumlaw03_CurveShifts.j2 kj14 false)) else (plenumlaw03_CurveShifts.j2 kj14 false)) else (plenumlaw03_CurveShifts.j2 kj14 false)) else (plenumlaw03_CurveShifts.j2 kj14 false)) else (plenumlaw03_CurveShifts.j2 kj14 false)) else (plenumlaw03_CurveShifts.j2 kj14 false)) else (plenumlaw03_CurveShifts.j2 kj14 false)))))))) else (some false)) = some r := H
                have A22 := Aside0.mk A220
                clear A220
                by_cases c23 : t372 = 0
                · rw [if_pos c23] at H
                  have c23b0 : (t372 == 0) = true := beq_iff_eq.mpr c23
                  have c23b1 : (t372 != 0) = false := bne_eq_false_iff_eq.mpr c23
                  clear c23
                  replace H := Option.bind_eq_some_iff.mp H
                  obtain ⟨⟨t375, t376⟩, A240, H⟩ := H
                  replace H : ((curve_Eval.f kj14 t371 (wrap64 (a3 + a1))).bind fun bt377 => ((curve_Area.f kj14 l0).bind fun bt379 => ((curve_Area.f kj14 t371).bind fun bt382 => ((curve_Direction.f kj14 l0).bind fun bt385 => ((curve_Direction.f kj14 t362).bind fun bt387 => (if t376 = 0 then (if bt377.2 = 0 then (if t375 = bt377.1 then (if bt379.2.2 = 0 then (if bt382.2.2 = 0 then (if bt379.1 = bt382.1 then (if bt379.2.1 = bt382.2.1 then (if bt385.2 = 0 then (if bt387.2 = 0 then (plenumlaw03_CurveShifts.j2 kj14 (bt385.1 == bt387.1)) else (plenumlaw03_CurveShifts.j2 kj14 false)) else (plenumlaw03_CurveShifts.j2 kj14 false)) else (plenumlaw03_CurveShifts.j2 kj14 false)) else (plenumlaw03_CurveShifts.j2 kj14 false)) else (plenumlaw03_CurveShifts.j2 kj14 false)) else (plenumlaw03_CurveShifts.j2 kj14 false)) else (plenumlaw03_CurveShifts.j2 kj14 false)) else (plenumlaw03_CurveShifts.j2 kj14 false)) else (plenumlaw03_CurveShifts.j2 kj14 false))))))) = some r := H
                  have A24 := Aside0.mk A240
                  clear A240
                  replace H := Option.bind_eq_some_iff.mp H
                  obtain ⟨⟨t377, t378⟩, A250, H⟩ := H
                  replace H : ((curve_Area.f kj14 l0).bind fun bt379 => ((curve_Area.f kj14 t371).bind fun bt382 => ((curve_Direction.f kj14 l0).bind fun bt385 => ((curve_Direction.f kj14 t362).bind fun bt387 => (if t376 = 0 then (if t378 = 0 then (if t375 = t377 then (if bt379.2.2 = 0 then (if bt382.2.2 = 0 then (if bt379.1 = bt382.1 then (if bt379.2.1 = bt382.2.1 then (if bt385.2 = 0 then (if bt387.2 = 0 then (plenumlaw03_CurveShifts.j2 kj14 (bt385.1 == bt387.1)) else (plenumlaw03_CurveShifts.j2 kj14 false)) else (plenumlaw03_CurveShifts.j2 kj14 false)) else (plenumlaw03_CurveShifts.j2 kj14 false)) else (plenumlaw03_CurveShifts.j2 kj14 false)) else (plenumlaw03_CurveShifts.j2 kj14 false)) else (plenumlaw03_CurveShifts.j2 kj14 false)) else (plenumlaw03_CurveShifts.j2 kj14 false)) else (plenumlaw03_CurveShifts.j2 kj14 false)) else (plenumlaw03_CurveShifts.j2 kj14 false)))))) = some r := H
                  have A25 := Aside0.mk A250
                  clear A250
                  replace H := Option.bind_eq_some_iff.mp H
                  obtain ⟨⟨t379, t380, t381⟩, A260, H⟩ := H
                  replace H : ((curve_Area.f kj14 t371).bind fun bt382 => ((curve_Direction.f kj14 l0).bind fun bt385 => ((curve_Direction.f kj14 t362).bind fun bt387 => (if t376 = 0 then (if t378 = 0 then (if t375 = t377 then (if t381 = 0 then (if bt382.2.2 = 0 then (if t379 = bt382.1 then (if t380 = bt382.2.1 then (if bt385.2 = 0 then (if bt387.2 = 0 then (plenumlaw03_CurveShifts.j2 kj14 (bt385.1 == bt387.1)) else (plenumlaw03_CurveShifts.j2 kj14 false)) else (plenumlaw03_CurveShifts.j2 kj14 false)) else (plenumlaw03_CurveShifts.j2 kj14 false)) else (plenumlaw03_CurveShifts.j2 kj14 false)) else (plenumlaw03_CurveShifts.j2 kj14 false)) else (plenumlaw03_CurveShifts.j2 kj14 false)) else (plenumlaw03_CurveShifts.j2 kj14 false)) else (plenumlaw03_CurveShifts.j2 kj14 false)) else (plenumlaw03_CurveShifts.j2 kj14 false))))) = some r := H
                  have A26 := Aside0.mk A260
                  clear A260
                  replace H := Option.bind_eq_some_iff.mp H
                  obtain ⟨⟨t382, t383, t384⟩, A270, H⟩ := H
                  replace H : ((curve_Direction.f kj14 l0).bind fun bt385 => ((curve_Direction.f kj14 t362).bind fun bt387 => (if t376 = 0 then (if t378 = 0 then (if t375 = t377 then (if t381 = 0 then (if t384 = 0 then (if t379 = t382 then (if t380 = t383 then (if bt385.2 = 0 then (if bt387.2 = 0 then (plenumlaw03_CurveShifts.j2 kj14 (bt385.1 == bt387.1)) else (plenumlaw03_CurveShifts.j2 kj14 false)) else (plenumlaw03_CurveShifts.j2 kj14 false)) else (plenumlaw03_CurveShifts.j2 kj14 false)) else (plenumlaw03_CurveShifts.j2 kj14 false)) else (plenumlaw03_CurveShifts.j2 kj14 false)) else (plenumlaw03_CurveShifts.j2 kj14 false)) else (plenumlaw03_CurveShifts.j2 kj14 false)) else (plenumlaw03_CurveShifts.j2 kj14 false)) else (plenumlaw03_CurveShifts.j2 kj14 false)))) = some r := H
                  have A27 := Aside0.mk A270
                  clear A270
                  replace H := Option.bind_eq_some_iff.mp H
                  obtain ⟨⟨t385, t386⟩, A280, H⟩ := H
                  replace H : ((curve_Direction.f kj14 t362).bind fun bt387 => (if t376 = 0 then (if t378 = 0 then (if t375 = t377 then (if t381 = 0 then (if t384 = 0 then (if t379 = t382 then (if t380 = t383 then (if t386 = 0 then (if bt387.2 = 0 then (plenumlaw03_CurveShifts.j2 kj14 (t385 == bt387.1)) else (plenumlaw03_CurveShifts.j2 kj14 false)) else (plenumlaw03_CurveShifts.j2 kj14 false)) else (plenumlaw03_CurveShifts.j2 kj14 false)) else (plenumlaw03_CurveShifts.j2 kj14 false)) else (plenumlaw03_CurveShifts.j2 kj14 false)) else (plenumlaw03_CurveShifts.j2 kj14 false)) else (plenumlaw03_CurveShifts.j2 kj14 false)) else (plenumlaw03_CurveShifts.j2 kj14 false)) else (plenumlaw03_CurveShifts.j2 kj14 false))) = some r := H
                  have A28 := Aside0.mk A280
                  clear A280
                  replace H := Option.bind_eq_some_iff.mp H
                  obtain ⟨⟨t387, t388⟩, A290, H⟩ := H
                  replace H : (if t376 = 0 then (if t378 = 0 then (if t375 = t377 then (if t381 = 0 then (if t384 = 0 then (if t379 = t382 then (if t380 = t383 then (if t386 = 0 then (if t388 = 0 then (plenumlaw03_CurveShifts.j2 kj14 (t385 == t387)) else (plenumlaw03_CurveShifts.j2 kj14 false)) else (plenumlaw03_CurveShifts.j2 kj14 false)) else (plenumlaw03_CurveShifts.j2 kj14 false)) else (plenumlaw03_CurveShifts.j2 kj14 false)) else (plenumlaw03_CurveShifts.j2 kj14 false)) else (plenumlaw03_CurveShifts.j2 kj14 false)) else (plenumlaw03_CurveShifts.j2 kj14 false)) else (plenumlaw03_CurveShifts.j2 kj14 false)) else (plenumlaw03_CurveShifts.j2 kj14 false)) = some r := H
                  have A29 := Aside0.mk A290
                  clear A290
                  have HC30 := Aside0.mk H
                  clear H
                  go_upto_region 18 with (first | ((with_reducible refine gate_callee (f := 12) rfl ?_); refine goesL_ (some 68) rfl rfl Try.func12 (by kernel_rfl) rfl #[.slice A0 l0.length c0, .int .i64 a1, .int .i64 0] rfl (by (try simp only [List.map_toArray, List.map_cons, List.map_nil]); first | done | rfl | (simp only [List.length_drop, List.length_take]; rfl)) ?_; (with_reducible refine (curve_Shift.calls kj14 _ _ l0 a1 0 t371 t372 _ ?side1 ?side2 A22.out).mono ?_); (case side1 => repeat (first | exact (Kd.C_below HR0.out HB.out) | (with_reducible refine Kd.C_alloc ?_ _) | (with_reducible refine Kd.C_drewN ?_ _) | (with_reducible refine Kd.C_drew ?_))); (case side2 => exact HC0.out); rintro e w31 ⟨v373, rfl, ho0, hb⟩; refine ⟨_, rfl, ?_⟩; have n0_ := Aside0.mk (Kd.R_elder' (by (with_reducible repeat (first | apply Kd.R_alloc | apply Kd.R_drewN | apply Kd.R_drew)); exact HO_9.out) (Kd.R_base ho0) hb); have n1_ := Aside0.mk (Kd.R_lower (Kd.R_new' ho0 (Kd.R_lt (by (with_reducible repeat (first | apply Kd.R_alloc | apply Kd.R_drewN | apply Kd.R_drew)); exact HO_9.out))) (below_size (by repeat (first | (with_reducible first | exact HB.out | apply below_alloc | apply pw_below_drewN | apply below_drew1) | exact HB.out)))); have n2_ := Aside0.mk (below_step (by repeat (first | (with_reducible first | exact HB.out | apply below_alloc | apply pw_below_drewN | apply below_drew1) | exact HB.out)) hb); clear HO_9; clear HB; have HO_9 := n0_; have HO374 := n1_; have HB := n2_; clear n0_ n1_ n2_; (try clear hb); (try clear hb2); (try clear hk); (try clear hi); (try clear ho0)) | ((with_reducible refine gate_callee (f := 20) rfl ?_); refine goesL_ (some 76) rfl rfl Try.func20 (by kernel_rfl) rfl #[.slice A0 l0.length c0, .int .i64 a3] rfl (by (try simp only [List.map_toArray, List.map_cons, List.map_nil]); first | done | rfl | (simp only [List.length_drop, List.length_take]; rfl)) ?_; (with_reducible refine (curve_Eval.calls kj14 _ _ l0 a3 t375 t376 _ ?side1 ?side2 A24.out).mono ?_); (case side1 => repeat (first | exact (Kd.C_below HR0.out HB.out) | (with_reducible refine Kd.C_alloc ?_ _) | (with_reducible refine Kd.C_drewN ?_ _) | (with_reducible refine Kd.C_drew ?_))); (case side2 => exact HC0.out); rintro e w32 ⟨rfl, hb⟩; refine ⟨_, rfl, ?_⟩; have n0_ := Aside0.mk (Kd.R_below (by (with_reducible repeat (first | apply Kd.R_alloc | apply Kd.R_drewN | apply Kd.R_drew)); exact HO_9.out) hb); have n1_ := Aside0.mk (Kd.R_below (by (with_reducible repeat (first | apply Kd.R_alloc | apply Kd.R_drewN | apply Kd.R_drew)); exact HO374.out) hb); have n2_ := Aside0.mk (below_step (by repeat (first | (with_reducible first | exact HB.out | apply below_alloc | apply pw_below_drewN | apply below_drew1) | exact HB.out)) hb); clear HO_9; clear HO374; clear HB; have HO_9 := n0_; have HO374 := n1_; have HB := n2_; clear n0_ n1_ n2_; (try clear hb); (try clear hb2); (try clear hk); (try clear hi); obtain ⟨Ao33, co33, eo33⟩ := Kd.R_slice HO374.out; subst eo33) | ((with_reducible refine gate_callee (f := 20) rfl ?_); refine goesL_ (some 84) rfl rfl Try.func20 (by kernel_rfl) rfl #[.slice Ao33 t371.length co33, .int .i64 (wrap64 (a3 + a1))] rfl (by (try simp only [List.map_toArray, List.map_cons, List.map_nil]); first | done | rfl | (simp only [List.length_drop, List.length_take]; rfl)) ?_; (with_reducible refine (curve_Eval.calls kj14 _ _ t371 (wrap64 (a3 + a1)) t377 t378 _ ?side1 ?side2 A25.out).mono ?_); (case side1 => repeat (first | exact (Kd.R_reads' HO374.out).2.2 | (with_reducible refine Kd.C_alloc ?_ _) | (with_reducible refine Kd.C_drewN ?_ _) | (with_reducible refine Kd.C_drew ?_))); (case side2 => exact (Kd.R_reads' HO374.out).2.1); rintro e w34 ⟨rfl, hb⟩; refine ⟨_, rfl, ?_⟩; have n0_ := Aside0.mk (Kd.R_below (by (with_reducible repeat (first | apply Kd.R_alloc | apply Kd.R_drewN | apply Kd.R_drew)); exact HO_9.out) hb); have n1_ := Aside0.mk (Kd.R_below (by (with_reducible repeat (first | apply Kd.R_alloc | apply Kd.R_drewN | apply Kd.R_drew)); exact HO374.out) hb); have n2_ := Aside0.mk (below_step (by repeat (first | (with_reducible first | exact HB.out | apply below_alloc | apply pw_below_drewN | apply below_drew1) | exact HB.out)) hb); clear HO_9; clear HO374; clear HB; have HO_9 := n0_; have HO374 := n1_; have HB := n2_; clear n0_ n1_ n2_; (try clear hb); (try clear hb2); (try clear hk); (try clear hi)) | ((with_reducible refine gate_callee (f := 15) rfl ?_); refine goesL_ (some 89) rfl rfl Try.func15 (by kernel_rfl) rfl #[.slice A0 l0.length c0] rfl (by (try simp only [List.map_toArray, List.map_cons, List.map_nil]); first | done | rfl | (simp only [List.length_drop, List.length_take]; rfl)) ?_; (with_reducible refine (curve_Area.calls kj14 _ _ l0 t379 t380 t381 _ ?side1 ?side2 A26.out).mono ?_); (case side1 => repeat (first | exact (Kd.C_below HR0.out HB.out) | (with_reducible refine Kd.C_alloc ?_ _) | (with_reducible refine Kd.C_drewN ?_ _) | (with_reducible refine Kd.C_drew ?_))); (case side2 => exact HC0.out); rintro e w35 ⟨rfl, hb⟩; refine ⟨_, rfl, ?_⟩; have n0_ := Aside0.mk (Kd.R_below (by (with_reducible repeat (first | apply Kd.R_alloc | apply Kd.R_drewN | apply Kd.R_drew)); exact HO_9.out) hb); have n1_ := Aside0.mk (Kd.R_below (by (with_reducible repeat (first | apply Kd.R_alloc | apply Kd.R_drewN | apply Kd.R_drew)); exact HO374.out) hb); have n2_ := Aside0.mk (below_step (by repeat (first | (with_reducible first | exact HB.out | apply below_alloc | apply pw_below_drewN | apply below_drew1) | exact HB.out)) hb); clear HO_9; clear HO374; clear HB; have HO_9 := n0_; have HO374 := n1_; have HB := n2_; clear n0_ n1_ n2_; (try clear hb); (try clear hb2); (try clear hk); (try clear hi)) | ((with_reducible refine gate_callee (f := 15) rfl ?_); refine goesL_ (some 95) rfl rfl Try.func15 (by kernel_rfl) rfl #[.slice Ao33 t371.length co33] rfl (by (try simp only [List.map_toArray, List.map_cons, List.map_nil]); first | done | rfl | (simp only [List.length_drop, List.length_take]; rfl)) ?_; (with_reducible refine (curve_Area.calls kj14 _ _ t371 t382 t383 t384 _ ?side1 ?side2 A27.out).mono ?_); (case side1 => repeat (first | exact (Kd.R_reads' HO374.out).2.2 | (with_reducible refine Kd.C_alloc ?_ _) | (with_reducible refine Kd.C_drewN ?_ _) | (with_reducible refine Kd.C_drew ?_))); (case side2 => exact (Kd.R_reads' HO374.out).2.1); rintro e w36 ⟨rfl, hb⟩; refine ⟨_, rfl, ?_⟩; have n0_ := Aside0.mk (Kd.R_below (by (with_reducible repeat (first | apply Kd.R_alloc | apply Kd.R_drewN | apply Kd.R_drew)); exact HO_9.out) hb); have n1_ := Aside0.mk (Kd.R_below (by (with_reducible repeat (first | apply Kd.R_alloc | apply Kd.R_drewN | apply Kd.R_drew)); exact HO374.out) hb); have n2_ := Aside0.mk (below_step (by repeat (first | (with_reducible first | exact HB.out | apply below_alloc | apply pw_below_drewN | apply below_drew1) | exact HB.out)) hb); clear HO_9; clear HO374; clear HB; have HO_9 := n0_; have HO374 := n1_; have HB := n2_; clear n0_ n1_ n2_; (try clear hb); (try clear hb2); (try clear hk); (try clear hi)) | ((with_reducible refine gate_callee (f := 21) rfl ?_); refine goesL_ (some 101) rfl rfl Try.func21 (by kernel_rfl) rfl #[.slice A0 l0.length c0] rfl (by (try simp only [List.map_toArray, List.map_cons, List.map_nil]); first | done | rfl | (simp only [List.length_drop, List.length_take]; rfl)) ?_; (with_reducible refine (curve_Direction.calls kj14 _ _ l0 t385 t386 _ ?side1 ?side2 A28.out).mono ?_); (case side1 => repeat (first | exact (Kd.C_below HR0.out HB.out) | (with_reducible refine Kd.C_alloc ?_ _) | (with_reducible refine Kd.C_drewN ?_ _) | (with_reducible refine Kd.C_drew ?_))); (case side2 => exact HC0.out); rintro e w37 ⟨rfl, hb⟩; refine ⟨_, rfl, ?_⟩; have n0_ := Aside0.mk (Kd.R_below (by (with_reducible repeat (first | apply Kd.R_alloc | apply Kd.R_drewN | apply Kd.R_drew)); exact HO_9.out) hb); have n1_ := Aside0.mk (Kd.R_below (by (with_reducible repeat (first | apply Kd.R_alloc | apply Kd.R_drewN | apply Kd.R_drew)); exact HO374.out) hb); have n2_ := Aside0.mk (below_step (by repeat (first | (with_reducible first | exact HB.out | apply below_alloc | apply pw_below_drewN | apply below_drew1) | exact HB.out)) hb); clear HO_9; clear HO374; clear HB; have HO_9 := n0_; have HO374 := n1_; have HB := n2_; clear n0_ n1_ n2_; (try clear hb); (try clear hb2); (try clear hk); (try clear hi)) | ((with_reducible refine gate_callee (f := 21) rfl ?_); refine goesL_ (some 106) rfl rfl Try.func21 (by kernel_rfl) rfl #[.slice Ao16 t362.length co16] rfl (by (try simp only [List.map_toArray, List.map_cons, List.map_nil]); first | done | rfl | (simp only [List.length_drop, List.length_take]; rfl)) ?_; (with_reducible refine (curve_Direction.calls kj14 _ _ t362 t387 t388 _ ?side1 ?side2 A29.out).mono ?_); (case side1 => repeat (first | exact (Kd.R_reads' HO_9.out).2.2 | (with_reducible refine Kd.C_alloc ?_ _) | (with_reducible refine Kd.C_drewN ?_ _) | (with_reducible refine Kd.C_drew ?_))); (case side2 => exact (Kd.R_reads' HO_9.out).2.1); rintro e w38 ⟨rfl, hb⟩; refine ⟨_, rfl, ?_⟩; have n0_ := Aside0.mk (Kd.R_below (by (with_reducible repeat (first | apply Kd.R_alloc | apply Kd.R_drewN | apply Kd.R_drew)); exact HO_9.out) hb); have n1_ := Aside0.mk (Kd.R_below (by (with_reducible repeat (first | apply Kd.R_alloc | apply Kd.R_drewN | apply Kd.R_drew)); exact HO374.out) hb); have n2_ := Aside0.mk (below_step (by repeat (first | (with_reducible first | exact HB.out | apply below_alloc | apply pw_below_drewN | apply below_drew1) | exact HB.out)) hb); clear HO_9; clear HO374; clear HB; have HO_9 := n0_; have HO374 := n1_; have HB := n2_; clear n0_ n1_ n2_; (try clear hb); (try clear hb2); (try clear hk); (try clear hi)))
                  (try simp only [Act.put, List.setIfInBounds_toArray, List.set_cons_zero, List.set_cons_succ])
                  go_cut [8] (fun v8 wc => ∃ (kq : Nat) (x8_29 : Bool), v8 = .bool x8_29 ∧ Aside0 (plenumlaw03_CurveShifts.j2 kq x8_29 = some r) ∧ Aside0 (kq ≤ kj14) ∧ Aside0 (Below w.heap.size w wc))
                  case first =>
                    have H := HC30.out
                    clear HC30
                    by_cases c39 : t376 = 0
                    · rw [if_pos c39] at H
                      have c39b0 : (t376 == 0) = true := beq_iff_eq.mpr c39
                      have c39b1 : (t376 != 0) = false := bne_eq_false_iff_eq.mpr c39
                      clear c39
                      (first | rw [c39b0] | (simp only [i64_w, i32_w]; rw [c39b0]) | skip)
                      by_cases c40 : t378 = 0
                      · rw [if_pos c40] at H
                        have c40b0 : (t378 == 0) = true := beq_iff_eq.mpr c40
                        have c40b1 : (t378 != 0) = false := bne_eq_false_iff_eq.mpr c40
                        clear c40
                        by_cases c41 : t375 = t377
                        · rw [if_pos c41] at H
                          have c41b0 : (t375 == t377) = true := beq_iff_eq.mpr c41
                          have c41b1 : (t375 != t377) = false := bne_eq_false_iff_eq.mpr c41
                          clear c41
                          by_cases c42 : t381 = 0
                          · rw [if_pos c42] at H
                            have c42b0 : (t381 == 0) = true := beq_iff_eq.mpr c42
                            have c42b1 : (t381 != 0) = false := bne_eq_false_iff_eq.mpr c42
                            clear c42
                            by_cases c43 : t384 = 0
                            · rw [if_pos c43] at H
                              have c43b0 : (t384 == 0) = true := beq_iff_eq.mpr c43
                              have c43b1 : (t384 != 0) = false := bne_eq_false_iff_eq.mpr c43
                              clear c43
                              by_cases c44 : t379 = t382
                              · rw [if_pos c44] at H
                                have c44b0 : (t379 == t382) = true := beq_iff_eq.mpr c44
                                have c44b1 : (t379 != t382) = false := bne_eq_false_iff_eq.mpr c44
                                clear c44
                                by_cases c45 : t380 = t383
                                · rw [if_pos c45] at H
                                  have c45b0 : (t380 == t383) = true := beq_iff_eq.mpr c45
                                  have c45b1 : (t380 != t383) = false := bne_eq_false_iff_eq.mpr c45
                                  clear c45
                                  by_cases c46 : t386 = 0
                                  · rw [if_pos c46] at H
                                    have c46b0 : (t386 == 0) = true := beq_iff_eq.mpr c46
                                    have c46b1 : (t386 != 0) = false := bne_eq_false_iff_eq.mpr c46
                                    clear c46
                                    by_cases c47 : t388 = 0
                                    · rw [if_pos c47] at H
                                      have c47b0 : (t388 == 0) = true := beq_iff_eq.mpr c47
                                      have c47b1 : (t388 != 0) = false := bne_eq_false_iff_eq.mpr c47
                                      clear c47
                                      have H' := Aside0.mk H
                                      clear H
                                      go_wp2
                                      go_meet
                                      case rel => exact ⟨_, ((t385 == t387)), (by first | rfl | (simp; done) | (simp [*]; done)), H', ⟨by have := HJ7.out; have := HJ14.out; first | omega | exact Nat.le_refl _⟩, ⟨by repeat (first | (with_reducible first | exact HB.out | apply below_alloc | apply pw_below_drewN | apply below_drew1) | exact HB.out)⟩⟩
                                    · rw [if_neg c47] at H
                                      have c47b0 : (t388 == 0) = false := beq_eq_false_iff_ne.mpr c47
                                      have c47b1 : (t388 != 0) = true := bne_iff_ne.mpr c47
                                      have H' := Aside0.mk H
                                      clear H
                                      go_wp2
                                      go_meet
                                      case rel => exact ⟨_, (false), (by first | rfl | (simp; done) | (simp [*]; done)), H', ⟨by have := HJ7.out; have := HJ14.out; first | omega | exact Nat.le_refl _⟩, ⟨by repeat (first | (with_reducible first | exact HB.out | apply below_alloc | apply pw_below_drewN | apply below_drew1) | exact HB.out)⟩⟩
                                  · rw [if_neg c46] at H
                                    have c46b0 : (t386 == 0) = false := beq_eq_false_iff_ne.mpr c46
                                    have c46b1 : (t386 != 0) = true := bne_iff_ne.mpr c46
                                    have H' := Aside0.mk H
                                    clear H
                                    go_wp2
                                    go_meet
                                    case rel => exact ⟨_, (false), (by first | rfl | (simp; done) | (simp [*]; done)), H', ⟨by have := HJ7.out; have := HJ14.out; first | omega | exact Nat.le_refl _⟩, ⟨by repeat (first | (with_reducible first | exact HB.out | apply below_alloc | apply pw_below_drewN | apply below_drew1) | exact HB.out)⟩⟩
                                · rw [if_neg c45] at H
                                  have c45b0 : (t380 == t383) = false := beq_eq_false_iff_ne.mpr c45
                                  have c45b1 : (t380 != t383) = true := bne_iff_ne.mpr c45
                                  have H' := Aside0.mk H
                                  clear H
                                  go_wp2
                                  go_meet
                                  case rel => exact ⟨_, (false), (by first | rfl | (simp; done) | (simp [*]; done)), H', ⟨by have := HJ7.out; have := HJ14.out; first | omega | exact Nat.le_refl _⟩, ⟨by repeat (first | (with_reducible first | exact HB.out | apply below_alloc | apply pw_below_drewN | apply below_drew1) | exact HB.out)⟩⟩
                              · rw [if_neg c44] at H
                                have c44b0 : (t379 == t382) = false := beq_eq_false_iff_ne.mpr c44
                                have c44b1 : (t379 != t382) = true := bne_iff_ne.mpr c44
                                have H' := Aside0.mk H
                                clear H
                                go_wp2
                                go_meet
                                case rel => exact ⟨_, (false), (by first | rfl | (simp; done) | (simp [*]; done)), H', ⟨by have := HJ7.out; have := HJ14.out; first | omega | exact Nat.le_refl _⟩, ⟨by repeat (first | (with_reducible first | exact HB.out | apply below_alloc | apply pw_below_drewN | apply below_drew1) | exact HB.out)⟩⟩
                            · rw [if_neg c43] at H
                              have c43b0 : (t384 == 0) = false := beq_eq_false_iff_ne.mpr c43
                              have c43b1 : (t384 != 0) = true := bne_iff_ne.mpr c43
                              have H' := Aside0.mk H
                              clear H
                              go_wp2
                              go_meet
                              case rel => exact ⟨_, (false), (by first | rfl | (simp; done) | (simp [*]; done)), H', ⟨by have := HJ7.out; have := HJ14.out; first | omega | exact Nat.le_refl _⟩, ⟨by repeat (first | (with_reducible first | exact HB.out | apply below_alloc | apply pw_below_drewN | apply below_drew1) | exact HB.out)⟩⟩
                          · rw [if_neg c42] at H
                            have c42b0 : (t381 == 0) = false := beq_eq_false_iff_ne.mpr c42
                            have c42b1 : (t381 != 0) = true := bne_iff_ne.mpr c42
                            have H' := Aside0.mk H
                            clear H
                            go_wp2
                            go_meet
                            case rel => exact ⟨_, (false), (by first | rfl | (simp; done) | (simp [*]; done)), H', ⟨by have := HJ7.out; have := HJ14.out; first | omega | exact Nat.le_refl _⟩, ⟨by repeat (first | (with_reducible first | exact HB.out | apply below_alloc | apply pw_below_drewN | apply below_drew1) | exact HB.out)⟩⟩
                        · rw [if_neg c41] at H
                          have c41b0 : (t375 == t377) = false := beq_eq_false_iff_ne.mpr c41
                          have c41b1 : (t375 != t377) = true := bne_iff_ne.mpr c41
                          have H' := Aside0.mk H
                          clear H
                          go_wp2
                          go_meet
                          case rel => exact ⟨_, (false), (by first | rfl | (simp; done) | (simp [*]; done)), H', ⟨by have := HJ7.out; have := HJ14.out; first | omega | exact Nat.le_refl _⟩, ⟨by repeat (first | (with_reducible first | exact HB.out | apply below_alloc | apply pw_below_drewN | apply below_drew1) | exact HB.out)⟩⟩
                      · rw [if_neg c40] at H
                        have c40b0 : (t378 == 0) = false := beq_eq_false_iff_ne.mpr c40
                        have c40b1 : (t378 != 0) = true := bne_iff_ne.mpr c40
                        have H' := Aside0.mk H
                        clear H
                        go_wp2
                        go_meet
                        case rel => exact ⟨_, (false), (by first | rfl | (simp; done) | (simp [*]; done)), H', ⟨by have := HJ7.out; have := HJ14.out; first | omega | exact Nat.le_refl _⟩, ⟨by repeat (first | (with_reducible first | exact HB.out | apply below_alloc | apply pw_below_drewN | apply below_drew1) | exact HB.out)⟩⟩
                    · rw [if_neg c39] at H
                      have c39b0 : (t376 == 0) = false := beq_eq_false_iff_ne.mpr c39
                      have c39b1 : (t376 != 0) = true := bne_iff_ne.mpr c39
                      (first | rw [c39b0] | (simp only [i64_w, i32_w]; rw [c39b0]) | skip)
                      have H' := Aside0.mk H
                      clear H
                      go_wp2
                      go_meet
                      case rel => exact ⟨_, (false), (by first | rfl | (simp; done) | (simp [*]; done)), H', ⟨by have := HJ7.out; have := HJ14.out; first | omega | exact Nat.le_refl _⟩, ⟨by repeat (first | (with_reducible first | exact HB.out | apply below_alloc | apply pw_below_drewN | apply below_drew1) | exact HB.out)⟩⟩
                  case rest =>
                    clear HC30
                    try clear c1
                    try clear c2
                    try clear p2
                    try clear c3
                    try clear c4
                    try clear c6
                    try clear p6
                    try clear c11
                    try clear c11b0
                    try clear c11b1
                    try clear c12
                    try clear c12b0
                    try clear c13
                    try clear c15
                    try clear c18
                    try clear c18b0
                    try clear c18b1
                    try clear c20
                    try clear c21
                    try clear c23
                    try clear c23b0
                    try clear c23b1
                    try clear c39
                    try clear c39b0
                    try clear c39b1
                    try clear c40
                    try clear c40b0
                    try clear c40b1
                    try clear c41
                    try clear c41b0
                    try clear c41b1
                    try clear c42
                    try clear c42b0
                    try clear c42b1
                    try clear c43
                    try clear c43b0
                    try clear c43b1
                    try clear c44
                    try clear c44b0
                    try clear c44b1
                    try clear c45
                    try clear c45b0
                    try clear c45b1
                    try clear c46
                    try clear c46b0
                    try clear c46b1
                    try clear c47
                    try clear c47b0
                    try clear c47b1
                    try clear p2
                    try clear p6
                    obtain ⟨kq, x8_29, rfl, HA, HJ29, HB⟩ := hcut
                    cases kq with
                    | zero => exact absurd HA.out (by simp [plenumlaw03_CurveShifts.j2])
                    | succ kj29 =>
                      have H := HA.out
                      clear HA
                      simp only [plenumlaw03_CurveShifts.j2] at H
                      obtain rfl := Option.some.inj H
                      go_wp2
                      go_ret
                      exact ⟨by first | rfl | (simp [errW_none, errW_some] <;> rfl) | (simp [*, errW_none, errW_some] <;> rfl), by repeat (first | (with_reducible first | exact HB.out | apply below_alloc | apply pw_below_drewN | apply below_drew1) | exact HB.out)⟩
                · rw [if_neg c23] at H
                  have c23b0 : (t372 == 0) = false := beq_eq_false_iff_ne.mpr c23
                  have c23b1 : (t372 != 0) = true := bne_iff_ne.mpr c23
                  obtain rfl := Option.some.inj H
                  go_wp2_with (first | ((with_reducible refine gate_callee (f := 12) rfl ?_); refine goesL_ (some 68) rfl rfl Try.func12 (by kernel_rfl) rfl #[.slice A0 l0.length c0, .int .i64 a1, .int .i64 0] rfl (by (try simp only [List.map_toArray, List.map_cons, List.map_nil]); first | done | rfl | (simp only [List.length_drop, List.length_take]; rfl)) ?_; (with_reducible refine (curve_Shift.calls kj14 _ _ l0 a1 0 t371 t372 _ ?side1 ?side2 A22.out).mono ?_); (case side1 => repeat (first | exact (Kd.C_below HR0.out HB.out) | (with_reducible refine Kd.C_alloc ?_ _) | (with_reducible refine Kd.C_drewN ?_ _) | (with_reducible refine Kd.C_drew ?_))); (case side2 => exact HC0.out); rintro e w48 ⟨v373, rfl, ho0, hb⟩; refine ⟨_, rfl, ?_⟩; have n0_ := Aside0.mk (Kd.R_elder' (by (with_reducible repeat (first | apply Kd.R_alloc | apply Kd.R_drewN | apply Kd.R_drew)); exact HO_9.out) (Kd.R_base ho0) hb); have n1_ := Aside0.mk (Kd.R_lower (Kd.R_new' ho0 (Kd.R_lt (by (with_reducible repeat (first | apply Kd.R_alloc | apply Kd.R_drewN | apply Kd.R_drew)); exact HO_9.out))) (below_size (by repeat (first | (with_reducible first | exact HB.out | apply below_alloc | apply pw_below_drewN | apply below_drew1) | exact HB.out)))); have n2_ := Aside0.mk (below_step (by repeat (first | (with_reducible first | exact HB.out | apply below_alloc | apply pw_below_drewN | apply below_drew1) | exact HB.out)) hb); clear HO_9; clear HB; have HO_9 := n0_; have HO374 := n1_; have HB := n2_; clear n0_ n1_ n2_; (try clear hb); (try clear hb2); (try clear hk); (try clear hi); (try clear ho0)))
                  go_ret
                  exact ⟨by first | rfl | (simp [errW_none, errW_some] <;> rfl) | (simp [*, errW_none, errW_some] <;> rfl), by repeat (first | (with_reducible first | exact HB.out | apply below_alloc | apply pw_below_drewN | apply below_drew1) | exact HB.out)⟩
  · replace c6 := Bool.eq_false_iff.mpr c6
    subst c6
    have H1 : (some false) = some r := by rw [if_neg (show ¬ (false = true) by decide)] at H; exact H
    clear H
    have H := H1
    clear H1
    obtain rfl := Option.some.inj H
    go_enter Try.func4, Try.ntmps4
    go_wp2_with (first | ((with_reducible refine gate_callee (f := 11) rfl ?_); refine goesL_ (some 29) rfl rfl Try.func11 (by kernel_rfl) rfl #[] rfl (by (try simp only [List.map_toArray, List.map_cons, List.map_nil]); first | done | rfl | (simp only [List.length_drop, List.length_take]; rfl)) ?_; (with_reducible refine (plenumlaw03_awake.calls  false _ A5.out).mono ?_); rintro e w49 ⟨rfl, hb⟩; refine ⟨_, rfl, ?_⟩; have n0_ := Aside0.mk (below_step (by repeat (first | (with_reducible first | exact HB.out | apply below_alloc | apply pw_below_drewN | apply below_drew1) | exact HB.out)) hb); clear HB; have HB := n0_; clear n0_; (try clear hb); (try clear hb2); (try clear hk); (try clear hi)))
    go_ret
    exact ⟨by first | rfl | (simp [errW_none, errW_some] <;> rfl) | (simp [*, errW_none, errW_some] <;> rfl), by repeat (first | (with_reducible first | exact HB.out | apply below_alloc | apply pw_below_drewN | apply below_drew1) | exact HB.out)⟩

/-- THE ONE PURE STATEMENT of plenumlaw03_CurveShifts. -/
def plenumlaw03_CurveShifts.Pure : Prop := ∀ (l0 : List (S50)) (a1 : Int) (a2 : Int) (a3 : Int), l0.length ≤ maxLen → l0.length * 16 ≤ 140737488351232 → (∀ x ∈ l0, (Lit.int .i64 x.f0).wf = true ∧ (Lit.int .i64 x.f1).wf = true) → (Lit.int .i64 a1).wf = true → (Lit.int .i64 a2).wf = true → (Lit.int .i64 a3).wf = true → ∃ k, plenumlaw03_CurveShifts.f k l0 a1 a2 a3 = some true
theorem plenumlaw03_CurveShifts.walk (P : plenumlaw03_CurveShifts.Pure) (A0 : Option Addr) (c0 : Nat) (l0 : List (S50)) (a1 : Int) (a2 : Int) (a3 : Int) (w : World) (hr0 : Kd.C k50 w A0 l0.length l0) (hc0 : l0.length ≤ c0) (hm0 : l0.length ≤ maxLen) (y0 : l0.length * 16 ≤ 140737488351232) (hw0 : ∀ x ∈ l0, (Lit.int .i64 x.f0).wf = true ∧ (Lit.int .i64 x.f1).wf = true) (wa1 : (Lit.int .i64 a1).wf = true) (wa2 : (Lit.int .i64 a2).wf = true) (wa3 : (Lit.int .i64 a3).wf = true) :
    Calls Try.prog 4 #[.slice A0 l0.length c0, .int .i64 a1, .int .i64 a2, .int .i64 a3] w fun e w' => e = .returned (.bool true) ∧ Below w.heap.size w w' := by
  obtain ⟨k, h⟩ := P l0 a1 a2 a3 hm0 y0 hw0 wa1 wa2 wa3
  refine (plenumlaw03_CurveShifts.calls k A0 c0 l0 a1 a2 a3 true w hr0 hc0 h).mono ?_
  rintro e w' ⟨rfl, hd⟩
  exact ⟨rfl, hd⟩

/-! ### plenumref01_Clamp: function 52 -/
def plenumref01_Clamp.f (a0 : Int) : Option (Int) := some (mx (-1000000000000) (mn 1000000000000 a0))
set_option maxHeartbeats 8000000 in
set_option maxRecDepth 100000 in
theorem plenumref01_Clamp.calls (a0 : Int) (r : Int) (w : World) (h : plenumref01_Clamp.f a0 = some r) :
    Calls Try.prog 52 #[.int .i64 a0] w fun e w' => e = .returned (.int .i64 r) ∧ Below w.heap.size w w' := by
  have HB := Aside0.mk (Below.refl w.heap.size w)
  have H : (some (mx (-1000000000000) (mn 1000000000000 a0))) = some r := h
  clear h
  obtain ⟨ji2, hji2⟩ : ∃ j_ : Int, (mn 1000000000000 a0) = j_ := ⟨_, rfl⟩
  replace H : (some (mx (-1000000000000) (ji2))) = some r := by first | (rw [hji2] at H; exact H) | (simp only [hji2] at H ⊢; exact H)
  (try (have hji2h : ji2 ≤ 1000000000000 := by (rw [← hji2]; unfold mn; (repeat' split) <;> omega)))
  (try (have hji2g : ji2 ≤ 64 := by omega))
  have hji2_ : (if a0 < 1000000000000 then a0 else 1000000000000) = ji2 := hji2
  obtain ⟨ji3, hji3⟩ : ∃ j_ : Int, (mx (-1000000000000) (ji2)) = j_ := ⟨_, rfl⟩
  replace H : (some ji3) = some r := by first | (rw [hji3] at H; exact H) | (simp only [hji3] at H ⊢; exact H)
  have hji3_ : (if (-1000000000000) < (ji2) then (ji2) else (-1000000000000)) = ji3 := hji3
  obtain rfl := Option.some.inj H
  go_enter Try.func52, Try.ntmps52
  go_wp2
  go_ret
  exact ⟨by first | rfl | (simp [errW_none, errW_some] <;> rfl) | (simp only [← hji2, ← hji3]; first | rfl | (simp [errW_none, errW_some] <;> rfl)) | (simp [*, errW_none, errW_some] <;> rfl), by repeat (first | (with_reducible first | exact HB.out | apply below_alloc | apply pw_below_drewN | apply below_drew1) | exact HB.out)⟩

/-! ### plenumref01_size: function 53 -/
def plenumref01_size.f (a0 : Int) : Option (Int) := if a0 < 0 then (some (IntKind.u64.wrap (wrap64 (-a0)))) else (some (IntKind.u64.wrap (a0)))
set_option maxHeartbeats 8000000 in
set_option maxRecDepth 100000 in
theorem plenumref01_size.calls (a0 : Int) (r : Int) (w : World) (h : plenumref01_size.f a0 = some r) :
    Calls Try.prog 53 #[.int .i64 a0] w fun e w' => e = .returned (.int .u64 r) ∧ Drawn0 w w' := by
  have H : (if a0 < 0 then (some (IntKind.u64.wrap (wrap64 (-a0)))) else (some (IntKind.u64.wrap (a0)))) = some r := h
  clear h
  by_cases c2 : a0 < 0
  · rw [if_pos c2] at H
    have c2b0 : decide (a0 < 0) = true := decide_eq_true c2
    clear c2
    obtain rfl := Option.some.inj H
    go_enter Try.func53, Try.ntmps53
    go_wp2
    go_ret
    exact ⟨by first | rfl | (simp; done) | (simp [*]; done), by repeat (first | exact Drawn0.refl _ | apply Drawn0.step)⟩
  · rw [if_neg c2] at H
    have c2b0 : decide (a0 < 0) = false := decide_eq_false c2
    clear c2
    obtain rfl := Option.some.inj H
    go_enter Try.func53, Try.ntmps53
    go_wp2
    go_ret
    exact ⟨by first | rfl | (simp; done) | (simp [*]; done), by repeat (first | exact Drawn0.refl _ | apply Drawn0.step)⟩

/-! ### plenumref01_product: function 54 -/
def plenumref01_product.f (a0 : Int) (a1 : Int) : Option (Int × Int) := some (IntKind.u64.wrap ((IntKind.u64.wrap ((IntKind.u64.wrap ((IntKind.u64.wrap (Int.tdiv a0 4294967296)) * (IntKind.u64.wrap (Int.tdiv a1 4294967296)))) + (IntKind.u64.wrap (Int.tdiv (IntKind.u64.wrap ((IntKind.u64.wrap ((IntKind.u64.wrap (Int.tdiv a0 4294967296)) * (Int.tmod a1 4294967296))) + (IntKind.u64.wrap (Int.tdiv (IntKind.u64.wrap ((Int.tmod a0 4294967296) * (Int.tmod a1 4294967296))) 4294967296)))) 4294967296)))) + (IntKind.u64.wrap (Int.tdiv (IntKind.u64.wrap ((Int.tmod (IntKind.u64.wrap ((IntKind.u64.wrap ((IntKind.u64.wrap (Int.tdiv a0 4294967296)) * (Int.tmod a1 4294967296))) + (IntKind.u64.wrap (Int.tdiv (IntKind.u64.wrap ((Int.tmod a0 4294967296) * (Int.tmod a1 4294967296))) 4294967296)))) 4294967296) + (IntKind.u64.wrap ((Int.tmod a0 4294967296) * (IntKind.u64.wrap (Int.tdiv a1 4294967296)))))) 4294967296))), IntKind.u64.wrap ((IntKind.u64.wrap ((Int.tmod (IntKind.u64.wrap ((Int.tmod (IntKind.u64.wrap ((IntKind.u64.wrap ((IntKind.u64.wrap (Int.tdiv a0 4294967296)) * (Int.tmod a1 4294967296))) + (IntKind.u64.wrap (Int.tdiv (IntKind.u64.wrap ((Int.tmod a0 4294967296) * (Int.tmod a1 4294967296))) 4294967296)))) 4294967296) + (IntKind.u64.wrap ((Int.tmod a0 4294967296) * (IntKind.u64.wrap (Int.tdiv a1 4294967296)))))) 4294967296) * 4294967296)) + (Int.tmod (IntKind.u64.wrap ((Int.tmod a0 4294967296) * (Int.tmod a1 4294967296))) 4294967296)))
set_option maxHeartbeats 8000000 in
set_option maxRecDepth 100000 in
theorem plenumref01_product.calls (a0 : Int) (a1 : Int) (r1 : Int) (r2 : Int) (w : World) (h : plenumref01_product.f a0 a1 = some (r1, r2)) :
    Calls Try.prog 54 #[.int .u64 a0, .int .u64 a1] w fun e w' => e = .returned (.agg #[.int .u64 r1, .int .u64 r2]) ∧ Below w.heap.size w w' := by
  have hu75 := Try.underlying75
  have HB := Aside0.mk (Below.refl w.heap.size w)
  have H : (some (IntKind.u64.wrap ((IntKind.u64.wrap ((IntKind.u64.wrap ((IntKind.u64.wrap (Int.tdiv a0 4294967296)) * (IntKind.u64.wrap (Int.tdiv a1 4294967296)))) + (IntKind.u64.wrap (Int.tdiv (IntKind.u64.wrap ((IntKind.u64.wrap ((IntKind.u64.wrap (Int.tdiv a0 4294967296)) * (Int.tmod a1 4294967296))) + (IntKind.u64.wrap (Int.tdiv (IntKind.u64.wrap ((Int.tmod a0 4294967296) * (Int.tmod a1 4294967296))) 4294967296)))) 4294967296)))) + (IntKind.u64.wrap (Int.tdiv (IntKind.u64.wrap ((Int.tmod (IntKind.u64.wrap ((IntKind.u64.wrap ((IntKind.u64.wrap (Int.tdiv a0 4294967296)) * (Int.tmod a1 4294967296))) + (IntKind.u64.wrap (Int.tdiv (IntKind.u64.wrap ((Int.tmod a0 4294967296) * (Int.tmod a1 4294967296))) 4294967296)))) 4294967296) + (IntKind.u64.wrap ((Int.tmod a0 4294967296) * (IntKind.u64.wrap (Int.tdiv a1 4294967296)))))) 4294967296))), IntKind.u64.wrap ((IntKind.u64.wrap ((Int.tmod (IntKind.u64.wrap ((Int.tmod (IntKind.u64.wrap ((IntKind.u64.wrap ((IntKind.u64.wrap (Int.tdiv a0 4294967296)) * (Int.tmod a1 4294967296))) + (IntKind.u64.wrap (Int.tdiv (IntKind.u64.wrap ((Int.tmod a0 4294967296) * (Int.tmod a1 4294967296))) 4294967296)))) 4294967296) + (IntKind.u64.wrap ((Int.tmod a0 4294967296) * (IntKind.u64.wrap (Int.tdiv a1 4294967296)))))) 4294967296) * 4294967296)) + (Int.tmod (IntKind.u64.wrap ((Int.tmod a0 4294967296) * (Int.tmod a1 4294967296))) 4294967296)))) = some (r1, r2) := h
  clear h
  simp only [Option.some.injEq, Prod.mk.injEq] at H
  obtain ⟨rfl, rfl⟩ := H
  go_enter Try.func54, Try.ntmps54
  go_wp2_with (first | ((with_reducible refine gate_dst (N := 4) rfl ?_); refine box_event ?hg (N := 4) ?hd (cs := #[.int .u64 0, .int .u64 0]) (t := 75) ?hr ?_; (case hd => rfl); (case hg => rfl); (case hr => first | (go_simp; done) | (go_simp; rfl)); intro gb389 hg w3 hbox hb; have n0_ := Aside0.mk (below_step (by repeat (first | (with_reducible first | exact HB.out | apply below_alloc | apply pw_below_drewN | apply below_drew1) | exact HB.out)) hb); have n1_ := Aside0.mk (hbox); have n2_ := Aside0.mk ((by rw [hg]; exact (below_size (by repeat (first | (with_reducible first | exact HB.out | apply below_alloc | apply pw_below_drewN | apply below_drew1) | exact HB.out))) : w.heap.size ≤ gb389)); have n3_ := Aside0.mk ((by rw [hg]; exact (below_size (by repeat (first | (with_reducible first | exact HB.out | apply below_alloc | apply pw_below_drewN | apply below_drew1) | exact HB.out))) : w.heap.size ≤ gb389)); clear HB; have HB := n0_; have BK389 := n1_; have GW389 := n2_; have GE389 := n3_; clear n0_ n1_ n2_ n3_; clear hb hbox hg; have hcz4_0 : w3.cell? ⟨gb389, 0, none⟩ = some (.int .u64 0) := (blk_cell BK389.out 0).trans rfl; have hcz4_1 : w3.cell? ⟨gb389, 1, none⟩ = some (.int .u64 0) := (blk_cell BK389.out 1).trans rfl; have hfz4_0 := blk_frozen BK389.out 0; have hfz4_1 := blk_frozen BK389.out 1))
  refine bodyPost_ret (results_cell_row rfl _ _ gb389 75 #[.int .u64 (IntKind.u64.wrap ((IntKind.u64.wrap ((IntKind.u64.wrap ((IntKind.u64.wrap (Int.tdiv a0 4294967296)) * (IntKind.u64.wrap (Int.tdiv a1 4294967296)))) + (IntKind.u64.wrap (Int.tdiv (IntKind.u64.wrap ((IntKind.u64.wrap ((IntKind.u64.wrap (Int.tdiv a0 4294967296)) * (Int.tmod a1 4294967296))) + (IntKind.u64.wrap (Int.tdiv (IntKind.u64.wrap ((Int.tmod a0 4294967296) * (Int.tmod a1 4294967296))) 4294967296)))) 4294967296)))) + (IntKind.u64.wrap (Int.tdiv (IntKind.u64.wrap ((Int.tmod (IntKind.u64.wrap ((IntKind.u64.wrap ((IntKind.u64.wrap (Int.tdiv a0 4294967296)) * (Int.tmod a1 4294967296))) + (IntKind.u64.wrap (Int.tdiv (IntKind.u64.wrap ((Int.tmod a0 4294967296) * (Int.tmod a1 4294967296))) 4294967296)))) 4294967296) + (IntKind.u64.wrap ((Int.tmod a0 4294967296) * (IntKind.u64.wrap (Int.tdiv a1 4294967296)))))) 4294967296)))), .int .u64 (IntKind.u64.wrap ((IntKind.u64.wrap ((Int.tmod (IntKind.u64.wrap ((Int.tmod (IntKind.u64.wrap ((IntKind.u64.wrap ((IntKind.u64.wrap (Int.tdiv a0 4294967296)) * (Int.tmod a1 4294967296))) + (IntKind.u64.wrap (Int.tdiv (IntKind.u64.wrap ((Int.tmod a0 4294967296) * (Int.tmod a1 4294967296))) 4294967296)))) 4294967296) + (IntKind.u64.wrap ((Int.tmod a0 4294967296) * (IntKind.u64.wrap (Int.tdiv a1 4294967296)))))) 4294967296) * 4294967296)) + (Int.tmod (IntKind.u64.wrap ((Int.tmod a0 4294967296) * (Int.tmod a1 4294967296))) 4294967296)))] (0, 0) _ rfl (by (with_reducible repeat (first | refine blk_drewN ?_ _ | refine blk_drew ?_ | refine blk_alloc ?_ _)); refine blk_put (cs := #[.int .u64 (IntKind.u64.wrap ((IntKind.u64.wrap ((IntKind.u64.wrap ((IntKind.u64.wrap (Int.tdiv a0 4294967296)) * (IntKind.u64.wrap (Int.tdiv a1 4294967296)))) + (IntKind.u64.wrap (Int.tdiv (IntKind.u64.wrap ((IntKind.u64.wrap ((IntKind.u64.wrap (Int.tdiv a0 4294967296)) * (Int.tmod a1 4294967296))) + (IntKind.u64.wrap (Int.tdiv (IntKind.u64.wrap ((Int.tmod a0 4294967296) * (Int.tmod a1 4294967296))) 4294967296)))) 4294967296)))) + (IntKind.u64.wrap (Int.tdiv (IntKind.u64.wrap ((Int.tmod (IntKind.u64.wrap ((IntKind.u64.wrap ((IntKind.u64.wrap (Int.tdiv a0 4294967296)) * (Int.tmod a1 4294967296))) + (IntKind.u64.wrap (Int.tdiv (IntKind.u64.wrap ((Int.tmod a0 4294967296) * (Int.tmod a1 4294967296))) 4294967296)))) 4294967296) + (IntKind.u64.wrap ((Int.tmod a0 4294967296) * (IntKind.u64.wrap (Int.tdiv a1 4294967296)))))) 4294967296)))), .int .u64 0]) ?_ 1 _ rfl; (with_reducible repeat (first | refine blk_drewN ?_ _ | refine blk_drew ?_ | refine blk_alloc ?_ _)); refine blk_put (cs := #[.int .u64 0, .int .u64 0]) ?_ 0 _ rfl; (with_reducible repeat (first | refine blk_drewN ?_ _ | refine blk_drew ?_ | refine blk_alloc ?_ _)); exact BK389.out) Try.underlying75 rfl (by kernel_rfl)) rfl ?_
  exact ⟨by first | rfl | (simp [errW_none, errW_some] <;> rfl) | (simp [*, errW_none, errW_some] <;> rfl), by repeat (first | (with_reducible first | exact HB.out | apply below_alloc | apply pw_below_drewN | apply below_drew1 | refine below_set ?_ GE389.out) | exact HB.out)⟩

/-! ### plenumref01_sum: function 55 -/
def plenumref01_sum.f (a0_0 : Int) (a0_1 : Int) (a1 : Int) : Option (Int × Int) := if (IntKind.u64.wrap (a0_1 + a1)) < a0_1 then (some (IntKind.u64.wrap (a0_0 + 1), IntKind.u64.wrap (a0_1 + a1))) else (some (a0_0, IntKind.u64.wrap (a0_1 + a1)))
set_option maxHeartbeats 8000000 in
set_option maxRecDepth 100000 in
theorem plenumref01_sum.calls (a0_0 : Int) (a0_1 : Int) (a1 : Int) (r1 : Int) (r2 : Int) (w : World) (h : plenumref01_sum.f a0_0 a0_1 a1 = some (r1, r2)) :
    Calls Try.prog 55 #[.agg #[.int .u64 a0_0, .int .u64 a0_1], .int .u64 a1] w fun e w' => e = .returned (.agg #[.int .u64 r1, .int .u64 r2]) ∧ Below w.heap.size w w' := by
  have hu75 := Try.underlying75
  have HB := Aside0.mk (Below.refl w.heap.size w)
  have H : (if (IntKind.u64.wrap (a0_1 + a1)) < a0_1 then (some (IntKind.u64.wrap (a0_0 + 1), IntKind.u64.wrap (a0_1 + a1))) else (some (a0_0, IntKind.u64.wrap (a0_1 + a1)))) = some (r1, r2) := h
  clear h
  by_cases c3 : (IntKind.u64.wrap (a0_1 + a1)) < a0_1
  · rw [if_pos c3] at H
    have c3b0 : decide ((IntKind.u64.wrap (a0_1 + a1)) < a0_1) = true := decide_eq_true c3
    clear c3
    simp only [Option.some.injEq, Prod.mk.injEq] at H
    obtain ⟨rfl, rfl⟩ := H
    go_enter Try.func55, Try.ntmps55
    go_wp2_with (first | ((with_reducible refine gate_dst (N := 2) rfl ?_); refine box_event ?hg (N := 2) ?hd (cs := #[.int .u64 a0_0, .int .u64 a0_1]) (t := 75) ?hr ?_; (case hd => rfl); (case hg => rfl); (case hr => first | (go_simp; done) | (go_simp; rfl)); intro gb390 hg w4 hbox hb; have n0_ := Aside0.mk (below_step (by repeat (first | (with_reducible first | exact HB.out | apply below_alloc | apply pw_below_drewN | apply below_drew1) | exact HB.out)) hb); have n1_ := Aside0.mk (hbox); have n2_ := Aside0.mk ((by rw [hg]; exact (below_size (by repeat (first | (with_reducible first | exact HB.out | apply below_alloc | apply pw_below_drewN | apply below_drew1) | exact HB.out))) : w.heap.size ≤ gb390)); have n3_ := Aside0.mk ((by rw [hg]; exact (below_size (by repeat (first | (with_reducible first | exact HB.out | apply below_alloc | apply pw_below_drewN | apply below_drew1) | exact HB.out))) : w.heap.size ≤ gb390)); clear HB; have HB := n0_; have BK390 := n1_; have GW390 := n2_; have GE390 := n3_; clear n0_ n1_ n2_ n3_; clear hb hbox hg) | ((with_reducible refine gate_dst (N := 4) rfl ?_); refine box_event ?hg (N := 4) ?hd (cs := #[.int .u64 0, .int .u64 0]) (t := 75) ?hr ?_; (case hd => rfl); (case hg => rfl); (case hr => first | (go_simp; done) | (go_simp; rfl)); intro gb391 hg w5 hbox hb; have n0_ := Aside0.mk (blk_below (g := gb390) (o := .cells #[.int .u64 a0_0, .int .u64 a0_1] 75 (0, 0)) (by (with_reducible repeat (first | refine blk_drewN ?_ _ | refine blk_drew ?_ | refine blk_alloc ?_ _)); exact BK390.out) hb); have n1_ := Aside0.mk (below_step (by repeat (first | (with_reducible first | exact HB.out | apply below_alloc | apply pw_below_drewN | apply below_drew1 | refine below_set ?_ GE390.out) | exact HB.out)) hb); have n2_ := Aside0.mk (hbox); have n3_ := Aside0.mk ((by rw [hg]; exact (below_size (by repeat (first | (with_reducible first | exact HB.out | apply below_alloc | apply pw_below_drewN | apply below_drew1 | refine below_set ?_ GE390.out) | exact HB.out))) : w.heap.size ≤ gb391)); have n4_ := Aside0.mk ((by rw [hg]; exact (below_size (by repeat (first | (with_reducible first | exact HB.out | apply below_alloc | apply pw_below_drewN | apply below_drew1 | refine below_set ?_ GE390.out) | exact HB.out))) : w.heap.size ≤ gb391)); have n5_ := Aside0.mk ((by rw [hg]; exact Nat.ne_of_lt (blk_lt (g := gb390) (o := .cells #[.int .u64 a0_0, .int .u64 a0_1] 75 (0, 0)) (by (with_reducible repeat (first | refine blk_drewN ?_ _ | refine blk_drew ?_ | refine blk_alloc ?_ _)); exact BK390.out)) : gb390 ≠ gb391)); have n6_ := Aside0.mk ((by rw [hg]; exact Nat.ne_of_gt (blk_lt (g := gb390) (o := .cells #[.int .u64 a0_0, .int .u64 a0_1] 75 (0, 0)) (by (with_reducible repeat (first | refine blk_drewN ?_ _ | refine blk_drew ?_ | refine blk_alloc ?_ _)); exact BK390.out)) : gb391 ≠ gb390)); clear BK390; clear HB; have BK390 := n0_; have HB := n1_; have BK391 := n2_; have GW391 := n3_; have GE391 := n4_; have NB390_391 := n5_; have NB391_390 := n6_; clear n0_ n1_ n2_ n3_ n4_ n5_ n6_; clear hb hbox hg; have hnb6 := NB390_391.out; have hnc6 := NB391_390.out; have hcz7_0 : w5.cell? ⟨gb390, 0, none⟩ = some (.int .u64 a0_0) := (blk_cell BK390.out 0).trans rfl; have hcz7_1 : w5.cell? ⟨gb390, 1, none⟩ = some (.int .u64 a0_1) := (blk_cell BK390.out 1).trans rfl; have hfz7_0 := blk_frozen BK390.out 0; have hfz7_1 := blk_frozen BK390.out 1; have hcz8_0 : w5.cell? ⟨gb391, 0, none⟩ = some (.int .u64 0) := (blk_cell BK391.out 0).trans rfl; have hcz8_1 : w5.cell? ⟨gb391, 1, none⟩ = some (.int .u64 0) := (blk_cell BK391.out 1).trans rfl; have hfz8_0 := blk_frozen BK391.out 0; have hfz8_1 := blk_frozen BK391.out 1))
    refine bodyPost_ret (results_cell_row rfl _ _ gb391 75 #[.int .u64 (IntKind.u64.wrap (a0_0 + 1)), .int .u64 (IntKind.u64.wrap (a0_1 + a1))] (0, 0) _ rfl (by (with_reducible repeat (first | refine blk_drewN ?_ _ | refine blk_drew ?_ | refine blk_alloc ?_ _)); refine blk_put (cs := #[.int .u64 (IntKind.u64.wrap (a0_0 + 1)), .int .u64 0]) ?_ 1 _ rfl; (with_reducible repeat (first | refine blk_drewN ?_ _ | refine blk_drew ?_ | refine blk_alloc ?_ _)); refine blk_put (cs := #[.int .u64 0, .int .u64 0]) ?_ 0 _ rfl; (with_reducible repeat (first | refine blk_drewN ?_ _ | refine blk_drew ?_ | refine blk_alloc ?_ _)); exact BK391.out) Try.underlying75 rfl (by kernel_rfl)) rfl ?_
    exact ⟨by first | rfl | (simp [errW_none, errW_some] <;> rfl) | (simp [*, errW_none, errW_some] <;> rfl), by repeat (first | (with_reducible first | exact HB.out | apply below_alloc | apply pw_below_drewN | apply below_drew1 | refine below_set ?_ GE390.out | refine below_set ?_ GE391.out) | exact HB.out)⟩
  · rw [if_neg c3] at H
    have c3b0 : decide ((IntKind.u64.wrap (a0_1 + a1)) < a0_1) = false := decide_eq_false c3
    clear c3
    simp only [Option.some.injEq, Prod.mk.injEq] at H
    obtain ⟨rfl, rfl⟩ := H
    go_enter Try.func55, Try.ntmps55
    go_wp2_with (first | ((with_reducible refine gate_dst (N := 2) rfl ?_); refine box_event ?hg (N := 2) ?hd (cs := #[.int .u64 a0_0, .int .u64 a0_1]) (t := 75) ?hr ?_; (case hd => rfl); (case hg => rfl); (case hr => first | (go_simp; done) | (go_simp; rfl)); intro gb390 hg w9 hbox hb; have n0_ := Aside0.mk (below_step (by repeat (first | (with_reducible first | exact HB.out | apply below_alloc | apply pw_below_drewN | apply below_drew1) | exact HB.out)) hb); have n1_ := Aside0.mk (hbox); have n2_ := Aside0.mk ((by rw [hg]; exact (below_size (by repeat (first | (with_reducible first | exact HB.out | apply below_alloc | apply pw_below_drewN | apply below_drew1) | exact HB.out))) : w.heap.size ≤ gb390)); have n3_ := Aside0.mk ((by rw [hg]; exact (below_size (by repeat (first | (with_reducible first | exact HB.out | apply below_alloc | apply pw_below_drewN | apply below_drew1) | exact HB.out))) : w.heap.size ≤ gb390)); clear HB; have HB := n0_; have BK390 := n1_; have GW390 := n2_; have GE390 := n3_; clear n0_ n1_ n2_ n3_; clear hb hbox hg) | ((with_reducible refine gate_dst (N := 4) rfl ?_); refine box_event ?hg (N := 4) ?hd (cs := #[.int .u64 0, .int .u64 0]) (t := 75) ?hr ?_; (case hd => rfl); (case hg => rfl); (case hr => first | (go_simp; done) | (go_simp; rfl)); intro gb391 hg w10 hbox hb; have n0_ := Aside0.mk (blk_below (g := gb390) (o := .cells #[.int .u64 a0_0, .int .u64 a0_1] 75 (0, 0)) (by (with_reducible repeat (first | refine blk_drewN ?_ _ | refine blk_drew ?_ | refine blk_alloc ?_ _)); exact BK390.out) hb); have n1_ := Aside0.mk (below_step (by repeat (first | (with_reducible first | exact HB.out | apply below_alloc | apply pw_below_drewN | apply below_drew1 | refine below_set ?_ GE390.out) | exact HB.out)) hb); have n2_ := Aside0.mk (hbox); have n3_ := Aside0.mk ((by rw [hg]; exact (below_size (by repeat (first | (with_reducible first | exact HB.out | apply below_alloc | apply pw_below_drewN | apply below_drew1 | refine below_set ?_ GE390.out) | exact HB.out))) : w.heap.size ≤ gb391)); have n4_ := Aside0.mk ((by rw [hg]; exact (below_size (by repeat (first | (with_reducible first | exact HB.out | apply below_alloc | apply pw_below_drewN | apply below_drew1 | refine below_set ?_ GE390.out) | exact HB.out))) : w.heap.size ≤ gb391)); have n5_ := Aside0.mk ((by rw [hg]; exact Nat.ne_of_lt (blk_lt (g := gb390) (o := .cells #[.int .u64 a0_0, .int .u64 a0_1] 75 (0, 0)) (by (with_reducible repeat (first | refine blk_drewN ?_ _ | refine blk_drew ?_ | refine blk_alloc ?_ _)); exact BK390.out)) : gb390 ≠ gb391)); have n6_ := Aside0.mk ((by rw [hg]; exact Nat.ne_of_gt (blk_lt (g := gb390) (o := .cells #[.int .u64 a0_0, .int .u64 a0_1] 75 (0, 0)) (by (with_reducible repeat (first | refine blk_drewN ?_ _ | refine blk_drew ?_ | refine blk_alloc ?_ _)); exact BK390.out)) : gb391 ≠ gb390)); clear BK390; clear HB; have BK390 := n0_; have HB := n1_; have BK391 := n2_; have GW391 := n3_; have GE391 := n4_; have NB390_391 := n5_; have NB391_390 := n6_; clear n0_ n1_ n2_ n3_ n4_ n5_ n6_; clear hb hbox hg; have hnb11 := NB390_391.out; have hnc11 := NB391_390.out; have hcz12_0 : w10.cell? ⟨gb390, 0, none⟩ = some (.int .u64 a0_0) := (blk_cell BK390.out 0).trans rfl; have hcz12_1 : w10.cell? ⟨gb390, 1, none⟩ = some (.int .u64 a0_1) := (blk_cell BK390.out 1).trans rfl; have hfz12_0 := blk_frozen BK390.out 0; have hfz12_1 := blk_frozen BK390.out 1; have hcz13_0 : w10.cell? ⟨gb391, 0, none⟩ = some (.int .u64 0) := (blk_cell BK391.out 0).trans rfl; have hcz13_1 : w10.cell? ⟨gb391, 1, none⟩ = some (.int .u64 0) := (blk_cell BK391.out 1).trans rfl; have hfz13_0 := blk_frozen BK391.out 0; have hfz13_1 := blk_frozen BK391.out 1))
    refine bodyPost_ret (results_cell_row rfl _ _ gb391 75 #[.int .u64 a0_0, .int .u64 (IntKind.u64.wrap (a0_1 + a1))] (0, 0) _ rfl (by (with_reducible repeat (first | refine blk_drewN ?_ _ | refine blk_drew ?_ | refine blk_alloc ?_ _)); refine blk_put (cs := #[.int .u64 a0_0, .int .u64 0]) ?_ 1 _ rfl; (with_reducible repeat (first | refine blk_drewN ?_ _ | refine blk_drew ?_ | refine blk_alloc ?_ _)); refine blk_put (cs := #[.int .u64 0, .int .u64 0]) ?_ 0 _ rfl; (with_reducible repeat (first | refine blk_drewN ?_ _ | refine blk_drew ?_ | refine blk_alloc ?_ _)); exact BK391.out) Try.underlying75 rfl (by kernel_rfl)) rfl ?_
    exact ⟨by first | rfl | (simp [errW_none, errW_some] <;> rfl) | (simp [*, errW_none, errW_some] <;> rfl), by repeat (first | (with_reducible first | exact HB.out | apply below_alloc | apply pw_below_drewN | apply below_drew1 | refine below_set ?_ GE390.out | refine below_set ?_ GE391.out) | exact HB.out)⟩

end Go.Proofs.Ytacheoimnckghaa.PT
