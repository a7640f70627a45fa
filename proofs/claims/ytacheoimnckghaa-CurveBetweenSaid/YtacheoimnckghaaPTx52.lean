-- Laid by hp.py (a program of this session's) through the kit's printer. (squeezed)
import Derived.Test.YtacheoimnckghaaPTx0
import Derived.Test.YtacheoimnckghaaPTx21
import Derived.Test.YtacheoimnckghaaPTx27
import Derived.Test.YtacheoimnckghaaPTx28
namespace Go.Proofs.Ytacheoimnckghaa.PT
open Go.RowKit Go.Proofs.YtacheoimnckghaaW.PrintWords Go.Proofs.YtacheoimnckghaaW.PrintLast Go.Proofs.YtacheoimnckghaaW.PrintMore
attribute [local go_sem] max2_int min2_int max_two min_two max_three min_three max_four min_four   -- for this text's walks alone
set_option linter.unusedVariables false
set_option linter.unusedSimpArgs false
/-! ### plenumlaw03_CurveBetween: function 7 -/
mutual
def plenumlaw03_CurveBetween.l0 : Nat → List (S50) → Int → Int → Int → Int → Int → Option (Bool)
 | 0, _, _, _, _, _, _ => none
 | k + 1, x0, x1, x2, x3, x9, x11 => if x11 < (x0.length : Int) then (if 0 ≤ x11 then ((curve_Eval.f k x0 ((rd_T50 x0 x11).f0)).bind fun bt505 => (if bt505.2 = 0 then (if bt505.1 = ((rd_T50 x0 x11).f1) then (if ((rd_T50 x0 x11).f0) = x1 then (plenumlaw03_CurveBetween.j1 k x0 x1 x2 x3 x9 x11 (x9 != bt505.1)) else (plenumlaw03_CurveBetween.j1 k x0 x1 x2 x3 x9 x11 false)) else (plenumlaw03_CurveBetween.j1 k x0 x1 x2 x3 x9 x11 true)) else (plenumlaw03_CurveBetween.j1 k x0 x1 x2 x3 x9 x11 true))) else (none)) else (if 0 < (x0.length : Int) then (if x1 ≤ ((rd_T50 x0 0).f0) then (if x9 = ((rd_T50 x0 0).f1) then (if 0 ≤ (wrap64 ((x0.length : Int) - 1)) then (if (wrap64 ((x0.length : Int) - 1)) < (x0.length : Int) then (if x1 ≥ ((rd_T50 x0 (wrap64 ((x0.length : Int) - 1))).f0) then (if x9 = ((rd_T50 x0 (wrap64 ((x0.length : Int) - 1))).f1) then ((curve_Bounds.f k x0 x2 x3).bind fun bt486 => (if bt486.2.2 = 0 then (if x1 < x2 then (some true) else (if x1 > x3 then (some true) else (if bt486.1 ≤ x9 then (some (decide (x9 ≤ bt486.2.1))) else (some false)))) else (some true))) else (some false)) else ((curve_Bounds.f k x0 x2 x3).bind fun bt490 => (if bt490.2.2 = 0 then (if x1 < x2 then (some true) else (if x1 > x3 then (some true) else (if bt490.1 ≤ x9 then (some (decide (x9 ≤ bt490.2.1))) else (some false)))) else (some true)))) else (none)) else (none)) else (some false)) else (if 0 ≤ (wrap64 ((x0.length : Int) - 1)) then (if (wrap64 ((x0.length : Int) - 1)) < (x0.length : Int) then (if x1 ≥ ((rd_T50 x0 (wrap64 ((x0.length : Int) - 1))).f0) then (if x9 = ((rd_T50 x0 (wrap64 ((x0.length : Int) - 1))).f1) then ((curve_Bounds.f k x0 x2 x3).bind fun bt496 => (if bt496.2.2 = 0 then (if x1 < x2 then (some true) else (if x1 > x3 then (some true) else (if bt496.1 ≤ x9 then (some (decide (x9 ≤ bt496.2.1))) else (some false)))) else (some true))) else (some false)) else ((curve_Bounds.f k x0 x2 x3).bind fun bt500 => (if bt500.2.2 = 0 then (if x1 < x2 then (some true) else (if x1 > x3 then (some true) else (if bt500.1 ≤ x9 then (some (decide (x9 ≤ bt500.2.1))) else (some false)))) else (some true)))) else (none)) else (none))) else (none))
def plenumlaw03_CurveBetween.j1 : Nat → List (S50) → Int → Int → Int → Int → Int → Bool → Option (Bool)
 | 0, _, _, _, _, _, _, _ => none
 | k + 1, x0, x1, x2, x3, x9, x11, x66 => if x66 = true then (some false) else (if x11 > 0 then (if 0 ≤ (wrap64 (x11 - 1)) then (if (wrap64 (x11 - 1)) < (x0.length : Int) then (if ((rd_T50 x0 (wrap64 (x11 - 1))).f0) ≤ x1 then (if 0 ≤ x11 then (if x11 < (x0.length : Int) then (if x1 ≤ ((rd_T50 x0 x11).f0) then (if x9 < (mn ((rd_T50 x0 (wrap64 (x11 - 1))).f1) ((rd_T50 x0 x11).f1)) then (some false) else (if x9 > (mx ((rd_T50 x0 (wrap64 (x11 - 1))).f1) ((rd_T50 x0 x11).f1)) then (some false) else (plenumlaw03_CurveBetween.l0 k x0 x1 x2 x3 x9 (wrap64 (x11 + 1))))) else (plenumlaw03_CurveBetween.l0 k x0 x1 x2 x3 x9 (wrap64 (x11 + 1)))) else (none)) else (none)) else (plenumlaw03_CurveBetween.l0 k x0 x1 x2 x3 x9 (wrap64 (x11 + 1)))) else (none)) else (none)) else (plenumlaw03_CurveBetween.l0 k x0 x1 x2 x3 x9 (wrap64 (x11 + 1))))
end
def plenumlaw03_CurveBetween.f (k : Nat) (l0 : List (S50)) (a1 : Int) (a2 : Int) (a3 : Int) : Option (Bool) := (plenumlaw03_awake.f).bind fun t479 => (if t479 = true then ((curve_Eval.f k l0 a1).bind fun bt480 => (if bt480.2 = 0 then (plenumlaw03_CurveBetween.l0 k l0 a1 a2 a3 bt480.1 0) else (some true))) else (some false))
theorem plenumlaw03_CurveBetween.mono_l : ∀ k, (∀ y0 y1 y2 y3 y4 y5, LeO (plenumlaw03_CurveBetween.l0 k y0 y1 y2 y3 y4 y5) (plenumlaw03_CurveBetween.l0 (k + 1) y0 y1 y2 y3 y4 y5)) ∧ (∀ y0 y1 y2 y3 y4 y5 y6, LeO (plenumlaw03_CurveBetween.j1 k y0 y1 y2 y3 y4 y5 y6) (plenumlaw03_CurveBetween.j1 (k + 1) y0 y1 y2 y3 y4 y5 y6))
 | 0 => ⟨fun _ _ _ _ _ _ r h => by simp [plenumlaw03_CurveBetween.l0] at h, fun _ _ _ _ _ _ _ r h => by simp [plenumlaw03_CurveBetween.j1] at h⟩
 | k + 1 => by
  obtain ⟨ih0, ih1⟩ := plenumlaw03_CurveBetween.mono_l k
  refine ⟨?_, ?_⟩
  ·
   intro y0 y1 y2 y3 y4 y5
   unfold plenumlaw03_CurveBetween.l0
   repeat' first
   | (with_reducible exact ih0 _ _ _ _ _ _)
   | (with_reducible exact ih1 _ _ _ _ _ _ _)
   | (with_reducible exact curve_Bounds.mono _ _ _ _)
   | (with_reducible exact curve_Eval.mono _ _ _)
   | (with_reducible exact LeO.refl _)
   | (with_reducible exact LeO.none _)
   | (with_reducible refine LeO.ite ?_ ?_)
   | (with_reducible refine LeO.bind ?_ (fun _ => ?_))
   | exact ih0 _ _ _ _ _ _
   | exact ih1 _ _ _ _ _ _ _
   | exact curve_Bounds.mono _ _ _ _
   | exact curve_Eval.mono _ _ _
   | exact LeO.none _
   | refine LeO.ite ?_ ?_
   | refine LeO.bind ?_ (fun _ => ?_)
  ·
   intro y0 y1 y2 y3 y4 y5 y6
   unfold plenumlaw03_CurveBetween.j1
   repeat' first
   | (with_reducible exact ih0 _ _ _ _ _ _)
   | (with_reducible exact ih1 _ _ _ _ _ _ _)
   | (with_reducible exact curve_Bounds.mono _ _ _ _)
   | (with_reducible exact curve_Eval.mono _ _ _)
   | (with_reducible exact LeO.refl _)
   | (with_reducible exact LeO.none _)
   | (with_reducible refine LeO.ite ?_ ?_)
   | (with_reducible refine LeO.bind ?_ (fun _ => ?_))
   | exact ih0 _ _ _ _ _ _
   | exact ih1 _ _ _ _ _ _ _
   | exact curve_Bounds.mono _ _ _ _
   | exact curve_Eval.mono _ _ _
   | exact LeO.none _
   | refine LeO.ite ?_ ?_
   | refine LeO.bind ?_ (fun _ => ?_)
theorem plenumlaw03_CurveBetween.mono : ∀ a0 a1 a2 a3 k, LeO (plenumlaw03_CurveBetween.f k a0 a1 a2 a3) (plenumlaw03_CurveBetween.f (k + 1) a0 a1 a2 a3) := by
 intro a0 a1 a2 a3 k
 obtain ⟨ih0, ih1⟩ := plenumlaw03_CurveBetween.mono_l k
 unfold plenumlaw03_CurveBetween.f
 repeat' first
  | (with_reducible exact ih0 _ _ _ _ _ _)
  | (with_reducible exact ih1 _ _ _ _ _ _ _)
  | (with_reducible exact curve_Bounds.mono _ _ _ _)
  | (with_reducible exact curve_Eval.mono _ _ _)
  | (with_reducible exact LeO.refl _)
  | (with_reducible exact LeO.none _)
  | (with_reducible refine LeO.ite ?_ ?_)
  | (with_reducible refine LeO.bind ?_ (fun _ => ?_))
  | exact ih0 _ _ _ _ _ _
  | exact ih1 _ _ _ _ _ _ _
  | exact curve_Bounds.mono _ _ _ _
  | exact curve_Eval.mono _ _ _
  | exact LeO.none _
  | refine LeO.ite ?_ ?_
  | refine LeO.bind ?_ (fun _ => ?_)
set_option maxHeartbeats 8000000 in
set_option maxRecDepth 100000 in
theorem plenumlaw03_CurveBetween.calls (k : Nat) (A0 : Option Addr) (c0 : Nat) (l0 : List (S50)) (a1 : Int) (a2 : Int) (a3 : Int) (r : Bool) (w : World) (hr0 : Kd.C k50 w A0 l0.length l0) (hc0 : l0.length ≤ c0) (h : plenumlaw03_CurveBetween.f k l0 a1 a2 a3 = some r) :
 Calls Try.prog 7 #[.slice A0 l0.length c0, .int .i64 a1, .int .i64 a2, .int .i64 a3] w fun e w' => e = .returned (.bool r) ∧ Below w.heap.size w w' := by
 have hu46 := Try.underlying46
 have HR0 := Aside0.mk hr0
 have HC0 := Aside0.mk hc0
 clear hr0 hc0
 have HB := Aside0.mk (Below.refl w.heap.size w)
 have H : ((plenumlaw03_awake.f).bind fun t479 => (if t479 = true then ((curve_Eval.f k l0 a1).bind fun bt480 => (if bt480.2 = 0 then (plenumlaw03_CurveBetween.l0 k l0 a1 a2 a3 bt480.1 0) else (some true))) else (some false))) = some r := h
 clear h
 replace H := Option.bind_eq_some_iff.mp H
 obtain ⟨t479, A50, H⟩ := H
 replace H : (if t479 = true then ((curve_Eval.f k l0 a1).bind fun bt480 => (if bt480.2 = 0 then (plenumlaw03_CurveBetween.l0 k l0 a1 a2 a3 bt480.1 0) else (some true))) else (some false)) = some r := H
 have A5 := Aside0.mk A50
 clear A50
 by_cases c6 : t479 = true
 ·
  subst c6
  have H1 : ((curve_Eval.f k l0 a1).bind fun bt480 => (if bt480.2 = 0 then (plenumlaw03_CurveBetween.l0 k l0 a1 a2 a3 bt480.1 0) else (some true))) = some r := by rw [if_pos rfl] at H; exact H
  clear H
  have H := H1
  clear H1
  replace H := Option.bind_eq_some_iff.mp H
  obtain ⟨⟨t480, t481⟩, A70, H⟩ := H
  replace H : (if t481 = 0 then (plenumlaw03_CurveBetween.l0 k l0 a1 a2 a3 t480 0) else (some true)) = some r := H
  have A7 := Aside0.mk A70
  clear A70
  by_cases c8 : t481 = 0
  ·
   rw [if_pos c8] at H
   have c8b0 : (t481 == 0) = true := beq_iff_eq.mpr c8
   have c8b1 : (t481 != 0) = false := bne_eq_false_iff_eq.mpr c8
   clear c8
   have H' := Aside0.mk H
   clear H
   go_enter Try.func7, Try.ntmps7
   go_wp2_with (first | (go_at_call 11; (with_reducible refine (plenumlaw03_awake.calls  true _ A5.out).mono ?_); rintro e w9 ⟨rfl, hb⟩; have n0_ := Aside0.mk (below_step (by repeat (first | (with_reducible first | exact HB.out | apply below_alloc | apply pw_below_drewN | apply below_drew1) | exact HB.out)) hb); clear HB; have HB := n0_; clear n0_; (try clear hb); (try clear hb2); (try clear hk); (try clear hi)) | (go_at_call 20; (with_reducible refine (curve_Eval.calls k _ _ l0 a1 t480 t481 _ ?side1 ?side2 A7.out).mono ?_); (case side1 => repeat (first | exact (Kd.C_below HR0.out HB.out) | (with_reducible refine Kd.C_alloc ?_ _) | (with_reducible refine Kd.C_drewN ?_ _) | (with_reducible refine Kd.C_drew ?_))); (case side2 => exact HC0.out); rintro e w10 ⟨rfl, hb⟩; have n0_ := Aside0.mk (below_step (by repeat (first | (with_reducible first | exact HB.out | apply below_alloc | apply pw_below_drewN | apply below_drew1) | exact HB.out)) hb); clear HB; have HB := n0_; clear n0_; (try clear hb); (try clear hb2); (try clear hk); (try clear hi)))
   repeat (go_quiet (first | (go_at_call 11; (with_reducible refine (plenumlaw03_awake.calls  true _ A5.out).mono ?_); rintro e w9 ⟨rfl, hb⟩; have n0_ := Aside0.mk (below_step (by repeat (first | (with_reducible first | exact HB.out | apply below_alloc | apply pw_below_drewN | apply below_drew1) | exact HB.out)) hb); clear HB; have HB := n0_; clear n0_; (try clear hb); (try clear hb2); (try clear hk); (try clear hi)) | (go_at_call 20; (with_reducible refine (curve_Eval.calls k _ _ l0 a1 t480 t481 _ ?side1 ?side2 A7.out).mono ?_); (case side1 => repeat (first | exact (Kd.C_below HR0.out HB.out) | (with_reducible refine Kd.C_alloc ?_ _) | (with_reducible refine Kd.C_drewN ?_ _) | (with_reducible refine Kd.C_drew ?_))); (case side2 => exact HC0.out); rintro e w10 ⟨rfl, hb⟩; have n0_ := Aside0.mk (below_step (by repeat (first | (with_reducible first | exact HB.out | apply below_alloc | apply pw_below_drewN | apply below_drew1) | exact HB.out)) hb); clear HB; have HB := n0_; clear n0_; (try clear hb); (try clear hb2); (try clear hk); (try clear hi))); try go_wp2_with (first | (go_at_call 11; (with_reducible refine (plenumlaw03_awake.calls  true _ A5.out).mono ?_); rintro e w9 ⟨rfl, hb⟩; have n0_ := Aside0.mk (below_step (by repeat (first | (with_reducible first | exact HB.out | apply below_alloc | apply pw_below_drewN | apply below_drew1) | exact HB.out)) hb); clear HB; have HB := n0_; clear n0_; (try clear hb); (try clear hb2); (try clear hk); (try clear hi)) | (go_at_call 20; (with_reducible refine (curve_Eval.calls k _ _ l0 a1 t480 t481 _ ?side1 ?side2 A7.out).mono ?_); (case side1 => repeat (first | exact (Kd.C_below HR0.out HB.out) | (with_reducible refine Kd.C_alloc ?_ _) | (with_reducible refine Kd.C_drewN ?_ _) | (with_reducible refine Kd.C_drew ?_))); (case side2 => exact HC0.out); rintro e w10 ⟨rfl, hb⟩; have n0_ := Aside0.mk (below_step (by repeat (first | (with_reducible first | exact HB.out | apply below_alloc | apply pw_below_drewN | apply below_drew1) | exact HB.out)) hb); clear HB; have HB := n0_; clear n0_; (try clear hb); (try clear hb2); (try clear hk); (try clear hi))))
   go_loopg [11] k (fun kq v11 w' => ∃ (x11_1 : Int), v11 = .int .i64 x11_1 ∧ Aside0 (plenumlaw03_CurveBetween.l0 kq l0 a1 a2 a3 t480 x11_1 = some r) ∧ Aside0 (kq ≤ k) ∧ Aside0 (Below w.heap.size w w'))
   case atStart => exact ⟨(0), (by first | rfl | (simp; done) | (simp [*]; done)), H', ⟨Nat.le_refl _⟩, ⟨by repeat (first | (with_reducible first | exact HB.out | apply below_alloc | apply pw_below_drewN | apply below_drew1) | exact HB.out)⟩⟩
   case round =>
    clear H'
    try clear p2
    try clear c6
    try clear c7
    try clear c8
    try clear c8b0
    try clear c8b1
    obtain ⟨x11_1, rfl, HA, HK1, HB⟩ := hrel
    cases gk with
    | zero => exact absurd HA.out (by simp [plenumlaw03_CurveBetween.l0])
    | succ k1 =>
     have H := HA.out
     clear HA
     simp only [plenumlaw03_CurveBetween.l0] at H
     by_cases c11 : x11_1 < (l0.length : Int)
     ·
      as_aux_lemma =>
       rw [if_pos c11] at H
       have c11b0 : decide (x11_1 < (l0.length : Int)) = true := decide_eq_true c11
       clear c11
       by_cases c12 : 0 ≤ x11_1
       ·
        rw [if_pos c12] at H
        have c12b0 : decide (0 ≤ x11_1) = true := decide_eq_true c12
        clear c12
        replace H := Option.bind_eq_some_iff.mp H
        obtain ⟨⟨t505, t506⟩, A130, H⟩ := H
        replace H : (if t506 = 0 then (if t505 = ((rd_T50 l0 x11_1).f1) then (if ((rd_T50 l0 x11_1).f0) = a1 then (plenumlaw03_CurveBetween.j1 k1 l0 a1 a2 a3 t480 x11_1 (t480 != t505)) else (plenumlaw03_CurveBetween.j1 k1 l0 a1 a2 a3 t480 x11_1 false)) else (plenumlaw03_CurveBetween.j1 k1 l0 a1 a2 a3 t480 x11_1 true)) else (plenumlaw03_CurveBetween.j1 k1 l0 a1 a2 a3 t480 x11_1 true)) = some r := H
        have A13 := Aside0.mk A130
        clear A130
        have HC14 := Aside0.mk H
        clear H
        have p504 : 0 ≤ (x11_1 : Int) := of_decide_eq_true (by first | (with_reducible assumption) | assumption)
        have q504 : x11_1 < (l0.length : Int) := of_decide_eq_true (by first | (with_reducible assumption) | assumption)
        obtain ⟨ad504, e504, hx504_0, hx504_1⟩ := at_T50 HR0.out x11_1 p504 q504
        cases e504
        replace hx504_0 := (HB.out.cell (World.block_lt_of_cell? w _ hx504_0)).trans hx504_0
        replace hx504_1 := (HB.out.cell (World.block_lt_of_cell? w _ hx504_1)).trans hx504_1
        replace p504 := eq_true p504
        replace q504 := eq_true q504
        go_upto_region 10 with (first | (go_at_call 20; (with_reducible refine (curve_Eval.calls k1 _ _ l0 ((rd_T50 l0 x11_1).f0) t505 t506 _ ?side1 ?side2 A13.out).mono ?_); (case side1 => repeat (first | exact (Kd.C_below HR0.out HB.out) | (with_reducible refine Kd.C_alloc ?_ _) | (with_reducible refine Kd.C_drewN ?_ _) | (with_reducible refine Kd.C_drew ?_))); (case side2 => exact HC0.out); rintro e w15 ⟨rfl, hb⟩; have n0_ := Aside0.mk (below_step (by repeat (first | (with_reducible first | exact HB.out | apply below_alloc | apply pw_below_drewN | apply below_drew1) | exact HB.out)) hb); clear HB; have HB := n0_; clear n0_; (try clear hb); (try clear hb2); (try clear hk); (try clear hi)))
        repeat (go_quiet (first | (go_at_call 20; (with_reducible refine (curve_Eval.calls k1 _ _ l0 ((rd_T50 l0 x11_1).f0) t505 t506 _ ?side1 ?side2 A13.out).mono ?_); (case side1 => repeat (first | exact (Kd.C_below HR0.out HB.out) | (with_reducible refine Kd.C_alloc ?_ _) | (with_reducible refine Kd.C_drewN ?_ _) | (with_reducible refine Kd.C_drew ?_))); (case side2 => exact HC0.out); rintro e w15 ⟨rfl, hb⟩; have n0_ := Aside0.mk (below_step (by repeat (first | (with_reducible first | exact HB.out | apply below_alloc | apply pw_below_drewN | apply below_drew1) | exact HB.out)) hb); clear HB; have HB := n0_; clear n0_; (try clear hb); (try clear hb2); (try clear hk); (try clear hi))); go_upto_region 10 with (first | (go_at_call 20; (with_reducible refine (curve_Eval.calls k1 _ _ l0 ((rd_T50 l0 x11_1).f0) t505 t506 _ ?side1 ?side2 A13.out).mono ?_); (case side1 => repeat (first | exact (Kd.C_below HR0.out HB.out) | (with_reducible refine Kd.C_alloc ?_ _) | (with_reducible refine Kd.C_drewN ?_ _) | (with_reducible refine Kd.C_drew ?_))); (case side2 => exact HC0.out); rintro e w15 ⟨rfl, hb⟩; have n0_ := Aside0.mk (below_step (by repeat (first | (with_reducible first | exact HB.out | apply below_alloc | apply pw_below_drewN | apply below_drew1) | exact HB.out)) hb); clear HB; have HB := n0_; clear n0_; (try clear hb); (try clear hb2); (try clear hk); (try clear hi))))
        (try simp only [Act.put, List.setIfInBounds_toArray, List.set_cons_zero, List.set_cons_succ])
        go_cut [66] (fun v66 wc => ∃ (kq : Nat) (x66_13 : Bool), v66 = .bool x66_13 ∧ Aside0 (plenumlaw03_CurveBetween.j1 kq l0 a1 a2 a3 t480 x11_1 x66_13 = some r) ∧ Aside0 (kq ≤ k1) ∧ Aside0 (Below w.heap.size w wc))
        case first =>
         have H := HC14.out
         clear HC14
         by_cases c16 : t506 = 0
         ·
          rw [if_pos c16] at H
          have c16b0 : (t506 == 0) = true := beq_iff_eq.mpr c16
          have c16b1 : (t506 != 0) = false := bne_eq_false_iff_eq.mpr c16
          clear c16
          (first | rw [c16b0] | (simp only [i64_w, i32_w]; rw [c16b0]) | skip)
          by_cases c17 : t505 = ((rd_T50 l0 x11_1).f1)
          ·
           rw [if_pos c17] at H
           have c17b0 : (t505 == ((rd_T50 l0 x11_1).f1)) = true := beq_iff_eq.mpr c17
           have c17b1 : (t505 != ((rd_T50 l0 x11_1).f1)) = false := bne_eq_false_iff_eq.mpr c17
           clear c17
           by_cases c18 : ((rd_T50 l0 x11_1).f0) = a1
           ·
            rw [if_pos c18] at H
            have c18b0 : (((rd_T50 l0 x11_1).f0) == a1) = true := beq_iff_eq.mpr c18
            have c18b1 : (((rd_T50 l0 x11_1).f0) != a1) = false := bne_eq_false_iff_eq.mpr c18
            clear c18
            have H' := Aside0.mk H
            clear H
            have p507 : 0 ≤ (x11_1 : Int) := of_decide_eq_true (by first | (with_reducible assumption) | assumption)
            have q507 : x11_1 < (l0.length : Int) := of_decide_eq_true (by first | (with_reducible assumption) | assumption)
            obtain ⟨ad507, e507, hx507_0, hx507_1⟩ := at_T50 HR0.out x11_1 p507 q507
            obtain rfl : ad504 = ad507 := (by injection e507)
            replace hx507_0 := (HB.out.cell (World.block_lt_of_cell? w _ hx507_0)).trans hx507_0
            replace hx507_1 := (HB.out.cell (World.block_lt_of_cell? w _ hx507_1)).trans hx507_1
            replace p507 := eq_true p507
            replace q507 := eq_true q507
            have p508 : 0 ≤ (x11_1 : Int) := of_decide_eq_true (by first | (with_reducible assumption) | assumption)
            have q508 : x11_1 < (l0.length : Int) := of_decide_eq_true (by first | (with_reducible assumption) | assumption)
            obtain ⟨ad508, e508, hx508_0, hx508_1⟩ := at_T50 HR0.out x11_1 p508 q508
            obtain rfl : ad504 = ad508 := (by injection e508)
            replace hx508_0 := (HB.out.cell (World.block_lt_of_cell? w _ hx508_0)).trans hx508_0
            replace hx508_1 := (HB.out.cell (World.block_lt_of_cell? w _ hx508_1)).trans hx508_1
            replace p508 := eq_true p508
            replace q508 := eq_true q508
            go_wp2
            repeat (go_quiet (fail); try go_wp2)
            go_meet
            case rel => exact ⟨_, ((t480 != t505)), (by first | rfl | (simp; done) | (simp [*]; done)), H', ⟨by have := HK1.out; first | omega | exact Nat.le_refl _⟩, ⟨by repeat (first | (with_reducible first | exact HB.out | apply below_alloc | apply pw_below_drewN | apply below_drew1) | exact HB.out)⟩⟩
           ·
            rw [if_neg c18] at H
            have c18b0 : (((rd_T50 l0 x11_1).f0) == a1) = false := beq_eq_false_iff_ne.mpr c18
            have c18b1 : (((rd_T50 l0 x11_1).f0) != a1) = true := bne_iff_ne.mpr c18
            have H' := Aside0.mk H
            clear H
            have p507 : 0 ≤ (x11_1 : Int) := of_decide_eq_true (by first | (with_reducible assumption) | assumption)
            have q507 : x11_1 < (l0.length : Int) := of_decide_eq_true (by first | (with_reducible assumption) | assumption)
            obtain ⟨ad507, e507, hx507_0, hx507_1⟩ := at_T50 HR0.out x11_1 p507 q507
            obtain rfl : ad504 = ad507 := (by injection e507)
            replace hx507_0 := (HB.out.cell (World.block_lt_of_cell? w _ hx507_0)).trans hx507_0
            replace hx507_1 := (HB.out.cell (World.block_lt_of_cell? w _ hx507_1)).trans hx507_1
            replace p507 := eq_true p507
            replace q507 := eq_true q507
            have p508 : 0 ≤ (x11_1 : Int) := of_decide_eq_true (by first | (with_reducible assumption) | assumption)
            have q508 : x11_1 < (l0.length : Int) := of_decide_eq_true (by first | (with_reducible assumption) | assumption)
            obtain ⟨ad508, e508, hx508_0, hx508_1⟩ := at_T50 HR0.out x11_1 p508 q508
            obtain rfl : ad504 = ad508 := (by injection e508)
            replace hx508_0 := (HB.out.cell (World.block_lt_of_cell? w _ hx508_0)).trans hx508_0
            replace hx508_1 := (HB.out.cell (World.block_lt_of_cell? w _ hx508_1)).trans hx508_1
            replace p508 := eq_true p508
            replace q508 := eq_true q508
            go_wp2
            repeat (go_quiet (fail); try go_wp2)
            go_meet
            case rel => exact ⟨_, (false), (by first | rfl | (simp; done) | (simp [*]; done)), H', ⟨by have := HK1.out; first | omega | exact Nat.le_refl _⟩, ⟨by repeat (first | (with_reducible first | exact HB.out | apply below_alloc | apply pw_below_drewN | apply below_drew1) | exact HB.out)⟩⟩
          ·
           rw [if_neg c17] at H
           have c17b0 : (t505 == ((rd_T50 l0 x11_1).f1)) = false := beq_eq_false_iff_ne.mpr c17
           have c17b1 : (t505 != ((rd_T50 l0 x11_1).f1)) = true := bne_iff_ne.mpr c17
           have H' := Aside0.mk H
           clear H
           have p507 : 0 ≤ (x11_1 : Int) := of_decide_eq_true (by first | (with_reducible assumption) | assumption)
           have q507 : x11_1 < (l0.length : Int) := of_decide_eq_true (by first | (with_reducible assumption) | assumption)
           obtain ⟨ad507, e507, hx507_0, hx507_1⟩ := at_T50 HR0.out x11_1 p507 q507
           obtain rfl : ad504 = ad507 := (by injection e507)
           replace hx507_0 := (HB.out.cell (World.block_lt_of_cell? w _ hx507_0)).trans hx507_0
           replace hx507_1 := (HB.out.cell (World.block_lt_of_cell? w _ hx507_1)).trans hx507_1
           replace p507 := eq_true p507
           replace q507 := eq_true q507
           go_wp2
           repeat (go_quiet (fail); try go_wp2)
           go_meet
           case rel => exact ⟨_, (true), (by first | rfl | (simp; done) | (simp [*]; done)), H', ⟨by have := HK1.out; first | omega | exact Nat.le_refl _⟩, ⟨by repeat (first | (with_reducible first | exact HB.out | apply below_alloc | apply pw_below_drewN | apply below_drew1) | exact HB.out)⟩⟩
         ·
          rw [if_neg c16] at H
          have c16b0 : (t506 == 0) = false := beq_eq_false_iff_ne.mpr c16
          have c16b1 : (t506 != 0) = true := bne_iff_ne.mpr c16
          (first | rw [c16b0] | (simp only [i64_w, i32_w]; rw [c16b0]) | skip)
          have H' := Aside0.mk H
          clear H
          go_wp2
          repeat (go_quiet (fail); try go_wp2)
          go_meet
          case rel => exact ⟨_, (true), (by first | rfl | (simp; done) | (simp [*]; done)), H', ⟨by have := HK1.out; first | omega | exact Nat.le_refl _⟩, ⟨by repeat (first | (with_reducible first | exact HB.out | apply below_alloc | apply pw_below_drewN | apply below_drew1) | exact HB.out)⟩⟩
        case rest =>
         clear HC14
         try clear c1
         try clear p2
         try clear p5
         try clear q5
         try clear hx5
         try clear c6
         try clear c7
         try clear c8
         try clear c8b0
         try clear c8b1
         try clear c11
         try clear c11b0
         try clear c12
         try clear c12b0
         try clear c16
         try clear c16b0
         try clear c16b1
         try clear c17
         try clear c17b0
         try clear c17b1
         try clear c18
         try clear c18b0
         try clear c18b1
         try clear hx504_0
         try clear hx504_1
         try clear hx507_0
         try clear hx507_1
         try clear hx508_0
         try clear hx508_1
         try clear p2
         try clear p504
         try clear p507
         try clear p508
         try clear q504
         try clear q507
         try clear q508
         obtain ⟨kq, x66_13, rfl, HA, HJ13, HB⟩ := hcut
         cases kq with
         | zero => exact absurd HA.out (by simp [plenumlaw03_CurveBetween.j1])
         | succ kj13 =>
          have H := HA.out
          clear HA
          simp only [plenumlaw03_CurveBetween.j1] at H
          by_cases c19 : x66_13 = true
          ·
           subst c19
           have H1 : (some false) = some r := by rw [if_pos rfl] at H; exact H
           clear H
           have H := H1
           clear H1
           obtain rfl := Option.some.inj H
           go_wp2
           repeat (go_quiet (fail); try go_wp2)
           go_ret
           exact ⟨by first | rfl | (simp [errW_none, errW_some] <;> rfl) | (simp [*, errW_none, errW_some] <;> rfl), by repeat (first | (with_reducible first | exact HB.out | apply below_alloc | apply pw_below_drewN | apply below_drew1) | exact HB.out)⟩
          ·
           replace c19 := Bool.eq_false_iff.mpr c19
           subst c19
           have H1 : (if x11_1 > 0 then (if 0 ≤ (wrap64 (x11_1 - 1)) then (if (wrap64 (x11_1 - 1)) < (l0.length : Int) then (if ((rd_T50 l0 (wrap64 (x11_1 - 1))).f0) ≤ a1 then (if 0 ≤ x11_1 then (if x11_1 < (l0.length : Int) then (if a1 ≤ ((rd_T50 l0 x11_1).f0) then (if t480 < (mn ((rd_T50 l0 (wrap64 (x11_1 - 1))).f1) ((rd_T50 l0 x11_1).f1)) then (some false) else (if t480 > (mx ((rd_T50 l0 (wrap64 (x11_1 - 1))).f1) ((rd_T50 l0 x11_1).f1)) then (some false) else (plenumlaw03_CurveBetween.l0 kj13 l0 a1 a2 a3 t480 (wrap64 (x11_1 + 1))))) else (plenumlaw03_CurveBetween.l0 kj13 l0 a1 a2 a3 t480 (wrap64 (x11_1 + 1)))) else (none)) else (none)) else (plenumlaw03_CurveBetween.l0 kj13 l0 a1 a2 a3 t480 (wrap64 (x11_1 + 1)))) else (none)) else (none)) else (plenumlaw03_CurveBetween.l0 kj13 l0 a1 a2 a3 t480 (wrap64 (x11_1 + 1)))) = some r := by rw [if_neg (show ¬ (false = true) by decide)] at H; exact H
           clear H
           have H := H1
           clear H1
           by_cases c20 : x11_1 > 0
           ·
            rw [if_pos c20] at H
            have c20b0 : decide (0 < x11_1) = true := decide_eq_true c20
            clear c20
            obtain ⟨ji21, hji21⟩ : ∃ j_ : Int, (wrap64 (x11_1 - 1)) = j_ := ⟨_, rfl⟩
            replace H : (if 0 ≤ (ji21) then (if (ji21) < (l0.length : Int) then (if ((rd_T50 l0 (ji21)).f0) ≤ a1 then (if 0 ≤ x11_1 then (if x11_1 < (l0.length : Int) then (if a1 ≤ ((rd_T50 l0 x11_1).f0) then (if t480 < (mn ((rd_T50 l0 (ji21)).f1) ((rd_T50 l0 x11_1).f1)) then (some false) else (if t480 > (mx ((rd_T50 l0 (ji21)).f1) ((rd_T50 l0 x11_1).f1)) then (some false) else (plenumlaw03_CurveBetween.l0 kj13 l0 a1 a2 a3 t480 (wrap64 (x11_1 + 1))))) else (plenumlaw03_CurveBetween.l0 kj13 l0 a1 a2 a3 t480 (wrap64 (x11_1 + 1)))) else (none)) else (none)) else (plenumlaw03_CurveBetween.l0 kj13 l0 a1 a2 a3 t480 (wrap64 (x11_1 + 1)))) else (none)) else (none)) = some r := by first | (rw [hji21] at H; exact H) | (simp only [hji21] at H ⊢; exact H)
            have hji21w : (IntKind.i64.wrap (x11_1 - 1)) = ji21 := (i64_w _).trans hji21
            by_cases c22 : 0 ≤ (ji21)
            ·
             rw [if_pos c22] at H
             have c22b0 : decide (0 ≤ (ji21)) = true := decide_eq_true c22
             clear c22
             by_cases c23 : (ji21) < (l0.length : Int)
             ·
              rw [if_pos c23] at H
              have c23b0 : decide ((ji21) < (l0.length : Int)) = true := decide_eq_true c23
              clear c23
              by_cases c24 : ((rd_T50 l0 (ji21)).f0) ≤ a1
              ·
               rw [if_pos c24] at H
               have c24b0 : decide (((rd_T50 l0 (ji21)).f0) ≤ a1) = true := decide_eq_true c24
               clear c24
               by_cases c25 : 0 ≤ x11_1
               ·
                rw [if_pos c25] at H
                have c25b0 : decide (0 ≤ x11_1) = true := decide_eq_true c25
                clear c25
                by_cases c26 : x11_1 < (l0.length : Int)
                ·
                 rw [if_pos c26] at H
                 have c26b0 : decide (x11_1 < (l0.length : Int)) = true := decide_eq_true c26
                 clear c26
                 by_cases c27 : a1 ≤ ((rd_T50 l0 x11_1).f0)
                 ·
                  rw [if_pos c27] at H
                  have c27b0 : decide (a1 ≤ ((rd_T50 l0 x11_1).f0)) = true := decide_eq_true c27
                  clear c27
                  obtain ⟨ji28, hji28⟩ : ∃ j_ : Int, (mn ((rd_T50 l0 (ji21)).f1) ((rd_T50 l0 x11_1).f1)) = j_ := ⟨_, rfl⟩
                  replace H : (if t480 < (ji28) then (some false) else (if t480 > (mx ((rd_T50 l0 (ji21)).f1) ((rd_T50 l0 x11_1).f1)) then (some false) else (plenumlaw03_CurveBetween.l0 kj13 l0 a1 a2 a3 t480 (wrap64 (x11_1 + 1))))) = some r := by first | (rw [hji28] at H; exact H) | (simp only [hji28] at H ⊢; exact H)
                  have hji28_ : (if ((rd_T50 l0 x11_1).f1) < ((rd_T50 l0 (ji21)).f1) then ((rd_T50 l0 x11_1).f1) else ((rd_T50 l0 (ji21)).f1)) = ji28 := hji28
                  by_cases c29 : t480 < (ji28)
                  ·
                   rw [if_pos c29] at H
                   have c29b0 : decide (t480 < (ji28)) = true := decide_eq_true c29
                   clear c29
                   obtain rfl := Option.some.inj H
                   have p509 : 0 ≤ ((ji21) : Int) := of_decide_eq_true (by first | (with_reducible assumption) | assumption)
                   have q509 : (ji21) < (l0.length : Int) := of_decide_eq_true (by first | (with_reducible assumption) | assumption)
                   obtain ⟨ad509, e509, hx509_0, hx509_1⟩ := at_T50 HR0.out (ji21) p509 q509
                   obtain rfl : ad504 = ad509 := (by injection e509)
                   replace hx509_0 := (HB.out.cell (World.block_lt_of_cell? w _ hx509_0)).trans hx509_0
                   replace hx509_1 := (HB.out.cell (World.block_lt_of_cell? w _ hx509_1)).trans hx509_1
                   replace p509 := eq_true p509
                   replace q509 := eq_true q509
                   have p510 : 0 ≤ (x11_1 : Int) := of_decide_eq_true (by first | (with_reducible assumption) | assumption)
                   have q510 : x11_1 < (l0.length : Int) := of_decide_eq_true (by first | (with_reducible assumption) | assumption)
                   obtain ⟨ad510, e510, hx510_0, hx510_1⟩ := at_T50 HR0.out x11_1 p510 q510
                   obtain rfl : ad504 = ad510 := (by injection e510)
                   replace hx510_0 := (HB.out.cell (World.block_lt_of_cell? w _ hx510_0)).trans hx510_0
                   replace hx510_1 := (HB.out.cell (World.block_lt_of_cell? w _ hx510_1)).trans hx510_1
                   replace p510 := eq_true p510
                   replace q510 := eq_true q510
                   have p511 : 0 ≤ ((ji21) : Int) := of_decide_eq_true (by first | (with_reducible assumption) | assumption)
                   have q511 : (ji21) < (l0.length : Int) := of_decide_eq_true (by first | (with_reducible assumption) | assumption)
                   obtain ⟨ad511, e511, hx511_0, hx511_1⟩ := at_T50 HR0.out (ji21) p511 q511
                   obtain rfl : ad504 = ad511 := (by injection e511)
                   replace hx511_0 := (HB.out.cell (World.block_lt_of_cell? w _ hx511_0)).trans hx511_0
                   replace hx511_1 := (HB.out.cell (World.block_lt_of_cell? w _ hx511_1)).trans hx511_1
                   replace p511 := eq_true p511
                   replace q511 := eq_true q511
                   have p512 : 0 ≤ (x11_1 : Int) := of_decide_eq_true (by first | (with_reducible assumption) | assumption)
                   have q512 : x11_1 < (l0.length : Int) := of_decide_eq_true (by first | (with_reducible assumption) | assumption)
                   obtain ⟨ad512, e512, hx512_0, hx512_1⟩ := at_T50 HR0.out x11_1 p512 q512
                   obtain rfl : ad504 = ad512 := (by injection e512)
                   replace hx512_0 := (HB.out.cell (World.block_lt_of_cell? w _ hx512_0)).trans hx512_0
                   replace hx512_1 := (HB.out.cell (World.block_lt_of_cell? w _ hx512_1)).trans hx512_1
                   replace p512 := eq_true p512
                   replace q512 := eq_true q512
                   go_wp2
                   repeat (go_quiet (fail); try go_wp2)
                   go_ret
                   exact ⟨by first | rfl | (simp [errW_none, errW_some] <;> rfl) | (simp only [← hji21, ← hji28]; first | rfl | (simp [errW_none, errW_some] <;> rfl)) | (simp [*, errW_none, errW_some] <;> rfl), by repeat (first | (with_reducible first | exact HB.out | apply below_alloc | apply pw_below_drewN | apply below_drew1) | exact HB.out)⟩
                  ·
                   rw [if_neg c29] at H
                   have c29b0 : decide (t480 < (ji28)) = false := decide_eq_false c29
                   clear c29
                   obtain ⟨ji30, hji30⟩ : ∃ j_ : Int, (mx ((rd_T50 l0 (ji21)).f1) ((rd_T50 l0 x11_1).f1)) = j_ := ⟨_, rfl⟩
                   replace H : (if t480 > (ji30) then (some false) else (plenumlaw03_CurveBetween.l0 kj13 l0 a1 a2 a3 t480 (wrap64 (x11_1 + 1)))) = some r := by first | (rw [hji30] at H; exact H) | (simp only [hji30] at H ⊢; exact H)
                   have hji30_ : (if ((rd_T50 l0 (ji21)).f1) < ((rd_T50 l0 x11_1).f1) then ((rd_T50 l0 x11_1).f1) else ((rd_T50 l0 (ji21)).f1)) = ji30 := hji30
                   by_cases c31 : t480 > (ji30)
                   ·
                    rw [if_pos c31] at H
                    have c31b0 : decide ((ji30) < t480) = true := decide_eq_true c31
                    clear c31
                    obtain rfl := Option.some.inj H
                    have p509 : 0 ≤ ((ji21) : Int) := of_decide_eq_true (by first | (with_reducible assumption) | assumption)
                    have q509 : (ji21) < (l0.length : Int) := of_decide_eq_true (by first | (with_reducible assumption) | assumption)
                    obtain ⟨ad509, e509, hx509_0, hx509_1⟩ := at_T50 HR0.out (ji21) p509 q509
                    obtain rfl : ad504 = ad509 := (by injection e509)
                    replace hx509_0 := (HB.out.cell (World.block_lt_of_cell? w _ hx509_0)).trans hx509_0
                    replace hx509_1 := (HB.out.cell (World.block_lt_of_cell? w _ hx509_1)).trans hx509_1
                    replace p509 := eq_true p509
                    replace q509 := eq_true q509
                    have p510 : 0 ≤ (x11_1 : Int) := of_decide_eq_true (by first | (with_reducible assumption) | assumption)
                    have q510 : x11_1 < (l0.length : Int) := of_decide_eq_true (by first | (with_reducible assumption) | assumption)
                    obtain ⟨ad510, e510, hx510_0, hx510_1⟩ := at_T50 HR0.out x11_1 p510 q510
                    obtain rfl : ad504 = ad510 := (by injection e510)
                    replace hx510_0 := (HB.out.cell (World.block_lt_of_cell? w _ hx510_0)).trans hx510_0
                    replace hx510_1 := (HB.out.cell (World.block_lt_of_cell? w _ hx510_1)).trans hx510_1
                    replace p510 := eq_true p510
                    replace q510 := eq_true q510
                    have p511 : 0 ≤ ((ji21) : Int) := of_decide_eq_true (by first | (with_reducible assumption) | assumption)
                    have q511 : (ji21) < (l0.length : Int) := of_decide_eq_true (by first | (with_reducible assumption) | assumption)
                    obtain ⟨ad511, e511, hx511_0, hx511_1⟩ := at_T50 HR0.out (ji21) p511 q511
                    obtain rfl : ad504 = ad511 := (by injection e511)
                    replace hx511_0 := (HB.out.cell (World.block_lt_of_cell? w _ hx511_0)).trans hx511_0
                    replace hx511_1 := (HB.out.cell (World.block_lt_of_cell? w _ hx511_1)).trans hx511_1
                    replace p511 := eq_true p511
                    replace q511 := eq_true q511
                    have p512 : 0 ≤ (x11_1 : Int) := of_decide_eq_true (by first | (with_reducible assumption) | assumption)
                    have q512 : x11_1 < (l0.length : Int) := of_decide_eq_true (by first | (with_reducible assumption) | assumption)
                    obtain ⟨ad512, e512, hx512_0, hx512_1⟩ := at_T50 HR0.out x11_1 p512 q512
                    obtain rfl : ad504 = ad512 := (by injection e512)
                    replace hx512_0 := (HB.out.cell (World.block_lt_of_cell? w _ hx512_0)).trans hx512_0
                    replace hx512_1 := (HB.out.cell (World.block_lt_of_cell? w _ hx512_1)).trans hx512_1
                    replace p512 := eq_true p512
                    replace q512 := eq_true q512
                    have p513 : 0 ≤ ((ji21) : Int) := of_decide_eq_true (by first | (with_reducible assumption) | assumption)
                    have q513 : (ji21) < (l0.length : Int) := of_decide_eq_true (by first | (with_reducible assumption) | assumption)
                    obtain ⟨ad513, e513, hx513_0, hx513_1⟩ := at_T50 HR0.out (ji21) p513 q513
                    obtain rfl : ad504 = ad513 := (by injection e513)
                    replace hx513_0 := (HB.out.cell (World.block_lt_of_cell? w _ hx513_0)).trans hx513_0
                    replace hx513_1 := (HB.out.cell (World.block_lt_of_cell? w _ hx513_1)).trans hx513_1
                    replace p513 := eq_true p513
                    replace q513 := eq_true q513
                    have p514 : 0 ≤ (x11_1 : Int) := of_decide_eq_true (by first | (with_reducible assumption) | assumption)
                    have q514 : x11_1 < (l0.length : Int) := of_decide_eq_true (by first | (with_reducible assumption) | assumption)
                    obtain ⟨ad514, e514, hx514_0, hx514_1⟩ := at_T50 HR0.out x11_1 p514 q514
                    obtain rfl : ad504 = ad514 := (by injection e514)
                    replace hx514_0 := (HB.out.cell (World.block_lt_of_cell? w _ hx514_0)).trans hx514_0
                    replace hx514_1 := (HB.out.cell (World.block_lt_of_cell? w _ hx514_1)).trans hx514_1
                    replace p514 := eq_true p514
                    replace q514 := eq_true q514
                    go_wp2
                    repeat (go_quiet (fail); try go_wp2)
                    go_ret
                    exact ⟨by first | rfl | (simp [errW_none, errW_some] <;> rfl) | (simp only [← hji21, ← hji28, ← hji30]; first | rfl | (simp [errW_none, errW_some] <;> rfl)) | (simp [*, errW_none, errW_some] <;> rfl), by repeat (first | (with_reducible first | exact HB.out | apply below_alloc | apply pw_below_drewN | apply below_drew1) | exact HB.out)⟩
                   ·
                    rw [if_neg c31] at H
                    have c31b0 : decide ((ji30) < t480) = false := decide_eq_false c31
                    clear c31
                    have H' := Aside0.mk H
                    clear H
                    have p509 : 0 ≤ ((ji21) : Int) := of_decide_eq_true (by first | (with_reducible assumption) | assumption)
                    have q509 : (ji21) < (l0.length : Int) := of_decide_eq_true (by first | (with_reducible assumption) | assumption)
                    obtain ⟨ad509, e509, hx509_0, hx509_1⟩ := at_T50 HR0.out (ji21) p509 q509
                    obtain rfl : ad504 = ad509 := (by injection e509)
                    replace hx509_0 := (HB.out.cell (World.block_lt_of_cell? w _ hx509_0)).trans hx509_0
                    replace hx509_1 := (HB.out.cell (World.block_lt_of_cell? w _ hx509_1)).trans hx509_1
                    replace p509 := eq_true p509
                    replace q509 := eq_true q509
                    have p510 : 0 ≤ (x11_1 : Int) := of_decide_eq_true (by first | (with_reducible assumption) | assumption)
                    have q510 : x11_1 < (l0.length : Int) := of_decide_eq_true (by first | (with_reducible assumption) | assumption)
                    obtain ⟨ad510, e510, hx510_0, hx510_1⟩ := at_T50 HR0.out x11_1 p510 q510
                    obtain rfl : ad504 = ad510 := (by injection e510)
                    replace hx510_0 := (HB.out.cell (World.block_lt_of_cell? w _ hx510_0)).trans hx510_0
                    replace hx510_1 := (HB.out.cell (World.block_lt_of_cell? w _ hx510_1)).trans hx510_1
                    replace p510 := eq_true p510
                    replace q510 := eq_true q510
                    have p511 : 0 ≤ ((ji21) : Int) := of_decide_eq_true (by first | (with_reducible assumption) | assumption)
                    have q511 : (ji21) < (l0.length : Int) := of_decide_eq_true (by first | (with_reducible assumption) | assumption)
                    obtain ⟨ad511, e511, hx511_0, hx511_1⟩ := at_T50 HR0.out (ji21) p511 q511
                    obtain rfl : ad504 = ad511 := (by injection e511)
                    replace hx511_0 := (HB.out.cell (World.block_lt_of_cell? w _ hx511_0)).trans hx511_0
                    replace hx511_1 := (HB.out.cell (World.block_lt_of_cell? w _ hx511_1)).trans hx511_1
                    replace p511 := eq_true p511
                    replace q511 := eq_true q511
                    have p512 : 0 ≤ (x11_1 : Int) := of_decide_eq_true (by first | (with_reducible assumption) | assumption)
                    have q512 : x11_1 < (l0.length : Int) := of_decide_eq_true (by first | (with_reducible assumption) | assumption)
                    obtain ⟨ad512, e512, hx512_0, hx512_1⟩ := at_T50 HR0.out x11_1 p512 q512
                    obtain rfl : ad504 = ad512 := (by injection e512)
                    replace hx512_0 := (HB.out.cell (World.block_lt_of_cell? w _ hx512_0)).trans hx512_0
                    replace hx512_1 := (HB.out.cell (World.block_lt_of_cell? w _ hx512_1)).trans hx512_1
                    replace p512 := eq_true p512
                    replace q512 := eq_true q512
                    have p513 : 0 ≤ ((ji21) : Int) := of_decide_eq_true (by first | (with_reducible assumption) | assumption)
                    have q513 : (ji21) < (l0.length : Int) := of_decide_eq_true (by first | (with_reducible assumption) | assumption)
                    obtain ⟨ad513, e513, hx513_0, hx513_1⟩ := at_T50 HR0.out (ji21) p513 q513
                    obtain rfl : ad504 = ad513 := (by injection e513)
                    replace hx513_0 := (HB.out.cell (World.block_lt_of_cell? w _ hx513_0)).trans hx513_0
                    replace hx513_1 := (HB.out.cell (World.block_lt_of_cell? w _ hx513_1)).trans hx513_1
                    replace p513 := eq_true p513
                    replace q513 := eq_true q513
                    have p514 : 0 ≤ (x11_1 : Int) := of_decide_eq_true (by first | (with_reducible assumption) | assumption)
                    have q514 : x11_1 < (l0.length : Int) := of_decide_eq_true (by first | (with_reducible assumption) | assumption)
                    obtain ⟨ad514, e514, hx514_0, hx514_1⟩ := at_T50 HR0.out x11_1 p514 q514
                    obtain rfl : ad504 = ad514 := (by injection e514)
                    replace hx514_0 := (HB.out.cell (World.block_lt_of_cell? w _ hx514_0)).trans hx514_0
                    replace hx514_1 := (HB.out.cell (World.block_lt_of_cell? w _ hx514_1)).trans hx514_1
                    replace p514 := eq_true p514
                    replace q514 := eq_true q514
                    go_wp2
                    repeat (go_quiet (fail); try go_wp2)
                    go_roundg kj13
                    case measure => have := HK1.out; have := HJ13.out; omega
                    case rel => exact ⟨(wrap64 (x11_1 + 1)), (by first | rfl | (simp; done) | (simp [*]; done)), H', ⟨by have := HK1.out; have := HJ13.out; omega⟩, ⟨by repeat (first | (with_reducible first | exact HB.out | apply below_alloc | apply pw_below_drewN | apply below_drew1) | exact HB.out)⟩⟩
                 ·
                  rw [if_neg c27] at H
                  have c27b0 : decide (a1 ≤ ((rd_T50 l0 x11_1).f0)) = false := decide_eq_false c27
                  clear c27
                  have H' := Aside0.mk H
                  clear H
                  have p509 : 0 ≤ ((ji21) : Int) := of_decide_eq_true (by first | (with_reducible assumption) | assumption)
                  have q509 : (ji21) < (l0.length : Int) := of_decide_eq_true (by first | (with_reducible assumption) | assumption)
                  obtain ⟨ad509, e509, hx509_0, hx509_1⟩ := at_T50 HR0.out (ji21) p509 q509
                  obtain rfl : ad504 = ad509 := (by injection e509)
                  replace hx509_0 := (HB.out.cell (World.block_lt_of_cell? w _ hx509_0)).trans hx509_0
                  replace hx509_1 := (HB.out.cell (World.block_lt_of_cell? w _ hx509_1)).trans hx509_1
                  replace p509 := eq_true p509
                  replace q509 := eq_true q509
                  have p510 : 0 ≤ (x11_1 : Int) := of_decide_eq_true (by first | (with_reducible assumption) | assumption)
                  have q510 : x11_1 < (l0.length : Int) := of_decide_eq_true (by first | (with_reducible assumption) | assumption)
                  obtain ⟨ad510, e510, hx510_0, hx510_1⟩ := at_T50 HR0.out x11_1 p510 q510
                  obtain rfl : ad504 = ad510 := (by injection e510)
                  replace hx510_0 := (HB.out.cell (World.block_lt_of_cell? w _ hx510_0)).trans hx510_0
                  replace hx510_1 := (HB.out.cell (World.block_lt_of_cell? w _ hx510_1)).trans hx510_1
                  replace p510 := eq_true p510
                  replace q510 := eq_true q510
                  go_wp2
                  repeat (go_quiet (fail); try go_wp2)
                  go_roundg kj13
                  case measure => have := HK1.out; have := HJ13.out; omega
                  case rel => exact ⟨(wrap64 (x11_1 + 1)), (by first | rfl | (simp; done) | (simp [*]; done)), H', ⟨by have := HK1.out; have := HJ13.out; omega⟩, ⟨by repeat (first | (with_reducible first | exact HB.out | apply below_alloc | apply pw_below_drewN | apply below_drew1) | exact HB.out)⟩⟩
                ·
                 rw [if_neg c26] at H
                 exact absurd H (by simp)
               ·
                rw [if_neg c25] at H
                exact absurd H (by simp)
              ·
               rw [if_neg c24] at H
               have c24b0 : decide (((rd_T50 l0 (ji21)).f0) ≤ a1) = false := decide_eq_false c24
               clear c24
               have H' := Aside0.mk H
               clear H
               have p509 : 0 ≤ ((ji21) : Int) := of_decide_eq_true (by first | (with_reducible assumption) | assumption)
               have q509 : (ji21) < (l0.length : Int) := of_decide_eq_true (by first | (with_reducible assumption) | assumption)
               obtain ⟨ad509, e509, hx509_0, hx509_1⟩ := at_T50 HR0.out (ji21) p509 q509
               obtain rfl : ad504 = ad509 := (by injection e509)
               replace hx509_0 := (HB.out.cell (World.block_lt_of_cell? w _ hx509_0)).trans hx509_0
               replace hx509_1 := (HB.out.cell (World.block_lt_of_cell? w _ hx509_1)).trans hx509_1
               replace p509 := eq_true p509
               replace q509 := eq_true q509
               go_wp2
               repeat (go_quiet (fail); try go_wp2)
               go_roundg kj13
               case measure => have := HK1.out; have := HJ13.out; omega
               case rel => exact ⟨(wrap64 (x11_1 + 1)), (by first | rfl | (simp; done) | (simp [*]; done)), H', ⟨by have := HK1.out; have := HJ13.out; omega⟩, ⟨by repeat (first | (with_reducible first | exact HB.out | apply below_alloc | apply pw_below_drewN | apply below_drew1) | exact HB.out)⟩⟩
             ·
              rw [if_neg c23] at H
              exact absurd H (by simp)
            ·
             rw [if_neg c22] at H
             exact absurd H (by simp)
           ·
            rw [if_neg c20] at H
            have c20b0 : decide (0 < x11_1) = false := decide_eq_false c20
            clear c20
            have H' := Aside0.mk H
            clear H
            go_wp2
            repeat (go_quiet (fail); try go_wp2)
            go_roundg kj13
            case measure => have := HK1.out; have := HJ13.out; omega
            case rel => exact ⟨(wrap64 (x11_1 + 1)), (by first | rfl | (simp; done) | (simp [*]; done)), H', ⟨by have := HK1.out; have := HJ13.out; omega⟩, ⟨by repeat (first | (with_reducible first | exact HB.out | apply below_alloc | apply pw_below_drewN | apply below_drew1) | exact HB.out)⟩⟩
       ·
        rw [if_neg c12] at H
        exact absurd H (by simp)
     ·
      as_aux_lemma =>
       rw [if_neg c11] at H
       have c11b0 : decide (x11_1 < (l0.length : Int)) = false := decide_eq_false c11
       clear c11
       by_cases c32 : 0 < (l0.length : Int)
       ·
        rw [if_pos c32] at H
        have c32b0 : decide (0 < (l0.length : Int)) = true := decide_eq_true c32
        have c32b1 : decide (0 < l0.length) = true := decide_eq_true (by omega)
        clear c32
        by_cases c33 : a1 ≤ ((rd_T50 l0 0).f0)
        ·
         as_aux_lemma =>
          rw [if_pos c33] at H
          have c33b0 : decide (a1 ≤ ((rd_T50 l0 0).f0)) = true := decide_eq_true c33
          clear c33
          by_cases c34 : t480 = ((rd_T50 l0 0).f1)
          ·
           rw [if_pos c34] at H
           have c34b0 : (t480 == ((rd_T50 l0 0).f1)) = true := beq_iff_eq.mpr c34
           have c34b1 : (t480 != ((rd_T50 l0 0).f1)) = false := bne_eq_false_iff_eq.mpr c34
           clear c34
           obtain ⟨ji35, hji35⟩ : ∃ j_ : Int, (wrap64 ((l0.length : Int) - 1)) = j_ := ⟨_, rfl⟩
           replace H : (if 0 ≤ (ji35) then (if (ji35) < (l0.length : Int) then (if a1 ≥ ((rd_T50 l0 (ji35)).f0) then (if t480 = ((rd_T50 l0 (ji35)).f1) then ((curve_Bounds.f k1 l0 a2 a3).bind fun bt486 => (if bt486.2.2 = 0 then (if a1 < a2 then (some true) else (if a1 > a3 then (some true) else (if bt486.1 ≤ t480 then (some (decide (t480 ≤ bt486.2.1))) else (some false)))) else (some true))) else (some false)) else ((curve_Bounds.f k1 l0 a2 a3).bind fun bt490 => (if bt490.2.2 = 0 then (if a1 < a2 then (some true) else (if a1 > a3 then (some true) else (if bt490.1 ≤ t480 then (some (decide (t480 ≤ bt490.2.1))) else (some false)))) else (some true)))) else (none)) else (none)) = some r := by first | (rw [hji35] at H; exact H) | (simp only [hji35] at H ⊢; exact H)
           have hji35w : (IntKind.i64.wrap ((l0.length : Int) - 1)) = ji35 := (i64_w _).trans hji35
           by_cases c36 : 0 ≤ (ji35)
           ·
            rw [if_pos c36] at H
            have c36b0 : decide (0 ≤ (ji35)) = true := decide_eq_true c36
            clear c36
            by_cases c37 : (ji35) < (l0.length : Int)
            ·
             rw [if_pos c37] at H
             have c37b0 : decide ((ji35) < (l0.length : Int)) = true := decide_eq_true c37
             clear c37
             by_cases c38 : a1 ≥ ((rd_T50 l0 (ji35)).f0)
             ·
              rw [if_pos c38] at H
              have c38b0 : decide (((rd_T50 l0 (ji35)).f0) ≤ a1) = true := decide_eq_true c38
              clear c38
              by_cases c39 : t480 = ((rd_T50 l0 (ji35)).f1)
              ·
               as_aux_lemma =>
                rw [if_pos c39] at H
                have c39b0 : (t480 == ((rd_T50 l0 (ji35)).f1)) = true := beq_iff_eq.mpr c39
                have c39b1 : (t480 != ((rd_T50 l0 (ji35)).f1)) = false := bne_eq_false_iff_eq.mpr c39
                clear c39
                replace H := Option.bind_eq_some_iff.mp H
                obtain ⟨⟨t486, t487, t488⟩, A400, H⟩ := H
                replace H : (if t488 = 0 then (if a1 < a2 then (some true) else (if a1 > a3 then (some true) else (if t486 ≤ t480 then (some (decide (t480 ≤ t487))) else (some false)))) else (some true)) = some r := H
                have A40 := Aside0.mk A400
                clear A400
                by_cases c41 : t488 = 0
                ·
                 rw [if_pos c41] at H
                 have c41b0 : (t488 == 0) = true := beq_iff_eq.mpr c41
                 have c41b1 : (t488 != 0) = false := bne_eq_false_iff_eq.mpr c41
                 clear c41
                 by_cases c42 : a1 < a2
                 ·
                  rw [if_pos c42] at H
                  have c42b0 : decide (a1 < a2) = true := decide_eq_true c42
                  clear c42
                  obtain rfl := Option.some.inj H
                  have p482 : 0 ≤ (0 : Int) := (by omega)
                  have q482 : 0 < (l0.length : Int) := of_decide_eq_true (by first | (with_reducible assumption) | assumption)
                  obtain ⟨ad482, e482, hx482_0, hx482_1⟩ := at_T50 HR0.out 0 p482 q482
                  cases e482
                  have qi482 : (0 < l0.length) = True := eq_true (by omega)
                  (try rw [show ((0 : Int)).toNat = 0 from rfl] at hx482_0)
                  (try rw [show 0 * 2 = 0 from rfl] at hx482_0)
                  (try rw [Addr.add_zero'] at hx482_0)
                  (try rw [show ((0 : Int)).toNat = 0 from rfl] at hx482_1)
                  (try rw [show 0 * 2 = 0 from rfl] at hx482_1)
                  (try rw [Addr.add_zero'] at hx482_1)
                  replace hx482_0 := (HB.out.cell (World.block_lt_of_cell? w _ hx482_0)).trans hx482_0
                  replace hx482_1 := (HB.out.cell (World.block_lt_of_cell? w _ hx482_1)).trans hx482_1
                  replace p482 := eq_true p482
                  replace q482 := eq_true q482
                  have p483 : 0 ≤ (0 : Int) := (by omega)
                  have q483 : 0 < (l0.length : Int) := of_decide_eq_true (by first | (with_reducible assumption) | assumption)
                  obtain ⟨ad483, e483, hx483_0, hx483_1⟩ := at_T50 HR0.out 0 p483 q483
                  obtain rfl : ad482 = ad483 := (by injection e483)
                  have qi483 : (0 < l0.length) = True := eq_true (by omega)
                  (try rw [show ((0 : Int)).toNat = 0 from rfl] at hx483_0)
                  (try rw [show 0 * 2 = 0 from rfl] at hx483_0)
                  (try rw [Addr.add_zero'] at hx483_0)
                  (try rw [show ((0 : Int)).toNat = 0 from rfl] at hx483_1)
                  (try rw [show 0 * 2 = 0 from rfl] at hx483_1)
                  (try rw [Addr.add_zero'] at hx483_1)
                  replace hx483_0 := (HB.out.cell (World.block_lt_of_cell? w _ hx483_0)).trans hx483_0
                  replace hx483_1 := (HB.out.cell (World.block_lt_of_cell? w _ hx483_1)).trans hx483_1
                  replace p483 := eq_true p483
                  replace q483 := eq_true q483
                  have p484 : 0 ≤ ((ji35) : Int) := of_decide_eq_true (by first | (with_reducible assumption) | assumption)
                  have q484 : (ji35) < (l0.length : Int) := of_decide_eq_true (by first | (with_reducible assumption) | assumption)
                  obtain ⟨ad484, e484, hx484_0, hx484_1⟩ := at_T50 HR0.out (ji35) p484 q484
                  obtain rfl : ad482 = ad484 := (by injection e484)
                  replace hx484_0 := (HB.out.cell (World.block_lt_of_cell? w _ hx484_0)).trans hx484_0
                  replace hx484_1 := (HB.out.cell (World.block_lt_of_cell? w _ hx484_1)).trans hx484_1
                  replace p484 := eq_true p484
                  replace q484 := eq_true q484
                  have p485 : 0 ≤ ((ji35) : Int) := of_decide_eq_true (by first | (with_reducible assumption) | assumption)
                  have q485 : (ji35) < (l0.length : Int) := of_decide_eq_true (by first | (with_reducible assumption) | assumption)
                  obtain ⟨ad485, e485, hx485_0, hx485_1⟩ := at_T50 HR0.out (ji35) p485 q485
                  obtain rfl : ad482 = ad485 := (by injection e485)
                  replace hx485_0 := (HB.out.cell (World.block_lt_of_cell? w _ hx485_0)).trans hx485_0
                  replace hx485_1 := (HB.out.cell (World.block_lt_of_cell? w _ hx485_1)).trans hx485_1
                  replace p485 := eq_true p485
                  replace q485 := eq_true q485
                  go_wp2_with (first | (go_at_call 27; (with_reducible refine (curve_Bounds.calls k1 _ _ l0 a2 a3 t486 t487 t488 _ ?side1 ?side2 A40.out).mono ?_); (case side1 => repeat (first | exact (Kd.C_below HR0.out HB.out) | (with_reducible refine Kd.C_alloc ?_ _) | (with_reducible refine Kd.C_drewN ?_ _) | (with_reducible refine Kd.C_drew ?_))); (case side2 => exact HC0.out); rintro e w43 ⟨rfl, hb⟩; have n0_ := Aside0.mk (below_step (by repeat (first | (with_reducible first | exact HB.out | apply below_alloc | apply pw_below_drewN | apply below_drew1) | exact HB.out)) hb); clear HB; have HB := n0_; clear n0_; (try clear hb); (try clear hb2); (try clear hk); (try clear hi)) | ((with_reducible refine gate_dst (N := 14) rfl ?_); (try (refine gate_guard (by rfl) ?_; dsimp only)); refine box_event ?hg (N := 14) ?hd (cs := #[.int .i64 0, .int .i64 0]) (t := 46) ?hr ?_; (case hd => rfl); (case hg => rfl); (case hr => first | (go_simp; done) | (go_simp; rfl)); intro gb489 hg w44 hbox hb; have n0_ := Aside0.mk (below_step (by repeat (first | (with_reducible first | exact HB.out | apply below_alloc | apply pw_below_drewN | apply below_drew1) | exact HB.out)) hb); have n1_ := Aside0.mk (hbox); have n2_ := Aside0.mk ((by rw [hg]; exact (below_size (by repeat (first | (with_reducible first | exact HB.out | apply below_alloc | apply pw_below_drewN | apply below_drew1) | exact HB.out))) : w.heap.size ≤ gb489)); have n3_ := Aside0.mk ((by rw [hg]; exact (below_size (by repeat (first | (with_reducible first | exact HB.out | apply below_alloc | apply pw_below_drewN | apply below_drew1) | exact HB.out))) : w.heap.size ≤ gb489)); clear HB; have HB := n0_; have BK489 := n1_; have GW489 := n2_; have GE489 := n3_; clear n0_ n1_ n2_ n3_; clear hb hbox hg; have hcz45_0 : w44.cell? ⟨gb489, 0, none⟩ = some (.int .i64 0) := (blk_cell BK489.out 0).trans rfl; have hcz45_1 : w44.cell? ⟨gb489, 1, none⟩ = some (.int .i64 0) := (blk_cell BK489.out 1).trans rfl; have hfz45_0 := blk_frozen BK489.out 0; have hfz45_1 := blk_frozen BK489.out 1))
                  repeat (go_quiet (first | (go_at_call 27; (with_reducible refine (curve_Bounds.calls k1 _ _ l0 a2 a3 t486 t487 t488 _ ?side1 ?side2 A40.out).mono ?_); (case side1 => repeat (first | exact (Kd.C_below HR0.out HB.out) | (with_reducible refine Kd.C_alloc ?_ _) | (with_reducible refine Kd.C_drewN ?_ _) | (with_reducible refine Kd.C_drew ?_))); (case side2 => exact HC0.out); rintro e w43 ⟨rfl, hb⟩; have n0_ := Aside0.mk (below_step (by repeat (first | (with_reducible first | exact HB.out | apply below_alloc | apply pw_below_drewN | apply below_drew1) | exact HB.out)) hb); clear HB; have HB := n0_; clear n0_; (try clear hb); (try clear hb2); (try clear hk); (try clear hi)) | ((with_reducible refine gate_dst (N := 14) rfl ?_); (try (refine gate_guard (by rfl) ?_; dsimp only)); refine box_event ?hg (N := 14) ?hd (cs := #[.int .i64 0, .int .i64 0]) (t := 46) ?hr ?_; (case hd => rfl); (case hg => rfl); (case hr => first | (go_simp; done) | (go_simp; rfl)); intro gb489 hg w44 hbox hb; have n0_ := Aside0.mk (below_step (by repeat (first | (with_reducible first | exact HB.out | apply below_alloc | apply pw_below_drewN | apply below_drew1) | exact HB.out)) hb); have n1_ := Aside0.mk (hbox); have n2_ := Aside0.mk ((by rw [hg]; exact (below_size (by repeat (first | (with_reducible first | exact HB.out | apply below_alloc | apply pw_below_drewN | apply below_drew1) | exact HB.out))) : w.heap.size ≤ gb489)); have n3_ := Aside0.mk ((by rw [hg]; exact (below_size (by repeat (first | (with_reducible first | exact HB.out | apply below_alloc | apply pw_below_drewN | apply below_drew1) | exact HB.out))) : w.heap.size ≤ gb489)); clear HB; have HB := n0_; have BK489 := n1_; have GW489 := n2_; have GE489 := n3_; clear n0_ n1_ n2_ n3_; clear hb hbox hg; have hcz45_0 : w44.cell? ⟨gb489, 0, none⟩ = some (.int .i64 0) := (blk_cell BK489.out 0).trans rfl; have hcz45_1 : w44.cell? ⟨gb489, 1, none⟩ = some (.int .i64 0) := (blk_cell BK489.out 1).trans rfl; have hfz45_0 := blk_frozen BK489.out 0; have hfz45_1 := blk_frozen BK489.out 1)); try go_wp2_with (first | (go_at_call 27; (with_reducible refine (curve_Bounds.calls k1 _ _ l0 a2 a3 t486 t487 t488 _ ?side1 ?side2 A40.out).mono ?_); (case side1 => repeat (first | exact (Kd.C_below HR0.out HB.out) | (with_reducible refine Kd.C_alloc ?_ _) | (with_reducible refine Kd.C_drewN ?_ _) | (with_reducible refine Kd.C_drew ?_))); (case side2 => exact HC0.out); rintro e w43 ⟨rfl, hb⟩; have n0_ := Aside0.mk (below_step (by repeat (first | (with_reducible first | exact HB.out | apply below_alloc | apply pw_below_drewN | apply below_drew1) | exact HB.out)) hb); clear HB; have HB := n0_; clear n0_; (try clear hb); (try clear hb2); (try clear hk); (try clear hi)) | ((with_reducible refine gate_dst (N := 14) rfl ?_); (try (refine gate_guard (by rfl) ?_; dsimp only)); refine box_event ?hg (N := 14) ?hd (cs := #[.int .i64 0, .int .i64 0]) (t := 46) ?hr ?_; (case hd => rfl); (case hg => rfl); (case hr => first | (go_simp; done) | (go_simp; rfl)); intro gb489 hg w44 hbox hb; have n0_ := Aside0.mk (below_step (by repeat (first | (with_reducible first | exact HB.out | apply below_alloc | apply pw_below_drewN | apply below_drew1) | exact HB.out)) hb); have n1_ := Aside0.mk (hbox); have n2_ := Aside0.mk ((by rw [hg]; exact (below_size (by repeat (first | (with_reducible first | exact HB.out | apply below_alloc | apply pw_below_drewN | apply below_drew1) | exact HB.out))) : w.heap.size ≤ gb489)); have n3_ := Aside0.mk ((by rw [hg]; exact (below_size (by repeat (first | (with_reducible first | exact HB.out | apply below_alloc | apply pw_below_drewN | apply below_drew1) | exact HB.out))) : w.heap.size ≤ gb489)); clear HB; have HB := n0_; have BK489 := n1_; have GW489 := n2_; have GE489 := n3_; clear n0_ n1_ n2_ n3_; clear hb hbox hg; have hcz45_0 : w44.cell? ⟨gb489, 0, none⟩ = some (.int .i64 0) := (blk_cell BK489.out 0).trans rfl; have hcz45_1 : w44.cell? ⟨gb489, 1, none⟩ = some (.int .i64 0) := (blk_cell BK489.out 1).trans rfl; have hfz45_0 := blk_frozen BK489.out 0; have hfz45_1 := blk_frozen BK489.out 1)))
                  go_ret
                  exact ⟨by first | rfl | (simp [errW_none, errW_some] <;> rfl) | (simp only [← hji35]; first | rfl | (simp [errW_none, errW_some] <;> rfl)) | (simp [*, errW_none, errW_some] <;> rfl), by repeat (first | (with_reducible first | exact HB.out | apply below_alloc | apply pw_below_drewN | apply below_drew1 | refine below_set ?_ GE489.out) | exact HB.out)⟩
                 ·
                  rw [if_neg c42] at H
                  have c42b0 : decide (a1 < a2) = false := decide_eq_false c42
                  clear c42
                  by_cases c46 : a1 > a3
                  ·
                   rw [if_pos c46] at H
                   have c46b0 : decide (a3 < a1) = true := decide_eq_true c46
                   clear c46
                   obtain rfl := Option.some.inj H
                   have p482 : 0 ≤ (0 : Int) := (by omega)
                   have q482 : 0 < (l0.length : Int) := of_decide_eq_true (by first | (with_reducible assumption) | assumption)
                   obtain ⟨ad482, e482, hx482_0, hx482_1⟩ := at_T50 HR0.out 0 p482 q482
                   cases e482
                   have qi482 : (0 < l0.length) = True := eq_true (by omega)
                   (try rw [show ((0 : Int)).toNat = 0 from rfl] at hx482_0)
                   (try rw [show 0 * 2 = 0 from rfl] at hx482_0)
                   (try rw [Addr.add_zero'] at hx482_0)
                   (try rw [show ((0 : Int)).toNat = 0 from rfl] at hx482_1)
                   (try rw [show 0 * 2 = 0 from rfl] at hx482_1)
                   (try rw [Addr.add_zero'] at hx482_1)
                   replace hx482_0 := (HB.out.cell (World.block_lt_of_cell? w _ hx482_0)).trans hx482_0
                   replace hx482_1 := (HB.out.cell (World.block_lt_of_cell? w _ hx482_1)).trans hx482_1
                   replace p482 := eq_true p482
                   replace q482 := eq_true q482
                   have p483 : 0 ≤ (0 : Int) := (by omega)
                   have q483 : 0 < (l0.length : Int) := of_decide_eq_true (by first | (with_reducible assumption) | assumption)
                   obtain ⟨ad483, e483, hx483_0, hx483_1⟩ := at_T50 HR0.out 0 p483 q483
                   obtain rfl : ad482 = ad483 := (by injection e483)
                   have qi483 : (0 < l0.length) = True := eq_true (by omega)
                   (try rw [show ((0 : Int)).toNat = 0 from rfl] at hx483_0)
                   (try rw [show 0 * 2 = 0 from rfl] at hx483_0)
                   (try rw [Addr.add_zero'] at hx483_0)
                   (try rw [show ((0 : Int)).toNat = 0 from rfl] at hx483_1)
                   (try rw [show 0 * 2 = 0 from rfl] at hx483_1)
                   (try rw [Addr.add_zero'] at hx483_1)
                   replace hx483_0 := (HB.out.cell (World.block_lt_of_cell? w _ hx483_0)).trans hx483_0
                   replace hx483_1 := (HB.out.cell (World.block_lt_of_cell? w _ hx483_1)).trans hx483_1
                   replace p483 := eq_true p483
                   replace q483 := eq_true q483
                   have p484 : 0 ≤ ((ji35) : Int) := of_decide_eq_true (by first | (with_reducible assumption) | assumption)
                   have q484 : (ji35) < (l0.length : Int) := of_decide_eq_true (by first | (with_reducible assumption) | assumption)
                   obtain ⟨ad484, e484, hx484_0, hx484_1⟩ := at_T50 HR0.out (ji35) p484 q484
                   obtain rfl : ad482 = ad484 := (by injection e484)
                   replace hx484_0 := (HB.out.cell (World.block_lt_of_cell? w _ hx484_0)).trans hx484_0
                   replace hx484_1 := (HB.out.cell (World.block_lt_of_cell? w _ hx484_1)).trans hx484_1
                   replace p484 := eq_true p484
                   replace q484 := eq_true q484
                   have p485 : 0 ≤ ((ji35) : Int) := of_decide_eq_true (by first | (with_reducible assumption) | assumption)
                   have q485 : (ji35) < (l0.length : Int) := of_decide_eq_true (by first | (with_reducible assumption) | assumption)
                   obtain ⟨ad485, e485, hx485_0, hx485_1⟩ := at_T50 HR0.out (ji35) p485 q485
                   obtain rfl : ad482 = ad485 := (by injection e485)
                   replace hx485_0 := (HB.out.cell (World.block_lt_of_cell? w _ hx485_0)).trans hx485_0
                   replace hx485_1 := (HB.out.cell (World.block_lt_of_cell? w _ hx485_1)).trans hx485_1
                   replace p485 := eq_true p485
                   replace q485 := eq_true q485
                   go_wp2_with (first | (go_at_call 27; (with_reducible refine (curve_Bounds.calls k1 _ _ l0 a2 a3 t486 t487 t488 _ ?side1 ?side2 A40.out).mono ?_); (case side1 => repeat (first | exact (Kd.C_below HR0.out HB.out) | (with_reducible refine Kd.C_alloc ?_ _) | (with_reducible refine Kd.C_drewN ?_ _) | (with_reducible refine Kd.C_drew ?_))); (case side2 => exact HC0.out); rintro e w47 ⟨rfl, hb⟩; have n0_ := Aside0.mk (below_step (by repeat (first | (with_reducible first | exact HB.out | apply below_alloc | apply pw_below_drewN | apply below_drew1) | exact HB.out)) hb); clear HB; have HB := n0_; clear n0_; (try clear hb); (try clear hb2); (try clear hk); (try clear hi)) | ((with_reducible refine gate_dst (N := 14) rfl ?_); (try (refine gate_guard (by rfl) ?_; dsimp only)); refine box_event ?hg (N := 14) ?hd (cs := #[.int .i64 0, .int .i64 0]) (t := 46) ?hr ?_; (case hd => rfl); (case hg => rfl); (case hr => first | (go_simp; done) | (go_simp; rfl)); intro gb489 hg w48 hbox hb; have n0_ := Aside0.mk (below_step (by repeat (first | (with_reducible first | exact HB.out | apply below_alloc | apply pw_below_drewN | apply below_drew1) | exact HB.out)) hb); have n1_ := Aside0.mk (hbox); have n2_ := Aside0.mk ((by rw [hg]; exact (below_size (by repeat (first | (with_reducible first | exact HB.out | apply below_alloc | apply pw_below_drewN | apply below_drew1) | exact HB.out))) : w.heap.size ≤ gb489)); have n3_ := Aside0.mk ((by rw [hg]; exact (below_size (by repeat (first | (with_reducible first | exact HB.out | apply below_alloc | apply pw_below_drewN | apply below_drew1) | exact HB.out))) : w.heap.size ≤ gb489)); clear HB; have HB := n0_; have BK489 := n1_; have GW489 := n2_; have GE489 := n3_; clear n0_ n1_ n2_ n3_; clear hb hbox hg; have hcz49_0 : w48.cell? ⟨gb489, 0, none⟩ = some (.int .i64 0) := (blk_cell BK489.out 0).trans rfl; have hcz49_1 : w48.cell? ⟨gb489, 1, none⟩ = some (.int .i64 0) := (blk_cell BK489.out 1).trans rfl; have hfz49_0 := blk_frozen BK489.out 0; have hfz49_1 := blk_frozen BK489.out 1))
                   repeat (go_quiet (first | (go_at_call 27; (with_reducible refine (curve_Bounds.calls k1 _ _ l0 a2 a3 t486 t487 t488 _ ?side1 ?side2 A40.out).mono ?_); (case side1 => repeat (first | exact (Kd.C_below HR0.out HB.out) | (with_reducible refine Kd.C_alloc ?_ _) | (with_reducible refine Kd.C_drewN ?_ _) | (with_reducible refine Kd.C_drew ?_))); (case side2 => exact HC0.out); rintro e w47 ⟨rfl, hb⟩; have n0_ := Aside0.mk (below_step (by repeat (first | (with_reducible first | exact HB.out | apply below_alloc | apply pw_below_drewN | apply below_drew1) | exact HB.out)) hb); clear HB; have HB := n0_; clear n0_; (try clear hb); (try clear hb2); (try clear hk); (try clear hi)) | ((with_reducible refine gate_dst (N := 14) rfl ?_); (try (refine gate_guard (by rfl) ?_; dsimp only)); refine box_event ?hg (N := 14) ?hd (cs := #[.int .i64 0, .int .i64 0]) (t := 46) ?hr ?_; (case hd => rfl); (case hg => rfl); (case hr => first | (go_simp; done) | (go_simp; rfl)); intro gb489 hg w48 hbox hb; have n0_ := Aside0.mk (below_step (by repeat (first | (with_reducible first | exact HB.out | apply below_alloc | apply pw_below_drewN | apply below_drew1) | exact HB.out)) hb); have n1_ := Aside0.mk (hbox); have n2_ := Aside0.mk ((by rw [hg]; exact (below_size (by repeat (first | (with_reducible first | exact HB.out | apply below_alloc | apply pw_below_drewN | apply below_drew1) | exact HB.out))) : w.heap.size ≤ gb489)); have n3_ := Aside0.mk ((by rw [hg]; exact (below_size (by repeat (first | (with_reducible first | exact HB.out | apply below_alloc | apply pw_below_drewN | apply below_drew1) | exact HB.out))) : w.heap.size ≤ gb489)); clear HB; have HB := n0_; have BK489 := n1_; have GW489 := n2_; have GE489 := n3_; clear n0_ n1_ n2_ n3_; clear hb hbox hg; have hcz49_0 : w48.cell? ⟨gb489, 0, none⟩ = some (.int .i64 0) := (blk_cell BK489.out 0).trans rfl; have hcz49_1 : w48.cell? ⟨gb489, 1, none⟩ = some (.int .i64 0) := (blk_cell BK489.out 1).trans rfl; have hfz49_0 := blk_frozen BK489.out 0; have hfz49_1 := blk_frozen BK489.out 1)); try go_wp2_with (first | (go_at_call 27; (with_reducible refine (curve_Bounds.calls k1 _ _ l0 a2 a3 t486 t487 t488 _ ?side1 ?side2 A40.out).mono ?_); (case side1 => repeat (first | exact (Kd.C_below HR0.out HB.out) | (with_reducible refine Kd.C_alloc ?_ _) | (with_reducible refine Kd.C_drewN ?_ _) | (with_reducible refine Kd.C_drew ?_))); (case side2 => exact HC0.out); rintro e w47 ⟨rfl, hb⟩; have n0_ := Aside0.mk (below_step (by repeat (first | (with_reducible first | exact HB.out | apply below_alloc | apply pw_below_drewN | apply below_drew1) | exact HB.out)) hb); clear HB; have HB := n0_; clear n0_; (try clear hb); (try clear hb2); (try clear hk); (try clear hi)) | ((with_reducible refine gate_dst (N := 14) rfl ?_); (try (refine gate_guard (by rfl) ?_; dsimp only)); refine box_event ?hg (N := 14) ?hd (cs := #[.int .i64 0, .int .i64 0]) (t := 46) ?hr ?_; (case hd => rfl); (case hg => rfl); (case hr => first | (go_simp; done) | (go_simp; rfl)); intro gb489 hg w48 hbox hb; have n0_ := Aside0.mk (below_step (by repeat (first | (with_reducible first | exact HB.out | apply below_alloc | apply pw_below_drewN | apply below_drew1) | exact HB.out)) hb); have n1_ := Aside0.mk (hbox); have n2_ := Aside0.mk ((by rw [hg]; exact (below_size (by repeat (first | (with_reducible first | exact HB.out | apply below_alloc | apply pw_below_drewN | apply below_drew1) | exact HB.out))) : w.heap.size ≤ gb489)); have n3_ := Aside0.mk ((by rw [hg]; exact (below_size (by repeat (first | (with_reducible first | exact HB.out | apply below_alloc | apply pw_below_drewN | apply below_drew1) | exact HB.out))) : w.heap.size ≤ gb489)); clear HB; have HB := n0_; have BK489 := n1_; have GW489 := n2_; have GE489 := n3_; clear n0_ n1_ n2_ n3_; clear hb hbox hg; have hcz49_0 : w48.cell? ⟨gb489, 0, none⟩ = some (.int .i64 0) := (blk_cell BK489.out 0).trans rfl; have hcz49_1 : w48.cell? ⟨gb489, 1, none⟩ = some (.int .i64 0) := (blk_cell BK489.out 1).trans rfl; have hfz49_0 := blk_frozen BK489.out 0; have hfz49_1 := blk_frozen BK489.out 1)))
                   go_ret
                   exact ⟨by first | rfl | (simp [errW_none, errW_some] <;> rfl) | (simp only [← hji35]; first | rfl | (simp [errW_none, errW_some] <;> rfl)) | (simp [*, errW_none, errW_some] <;> rfl), by repeat (first | (with_reducible first | exact HB.out | apply below_alloc | apply pw_below_drewN | apply below_drew1 | refine below_set ?_ GE489.out) | exact HB.out)⟩
                  ·
                   rw [if_neg c46] at H
                   have c46b0 : decide (a3 < a1) = false := decide_eq_false c46
                   clear c46
                   by_cases c50 : t486 ≤ t480
                   ·
                    rw [if_pos c50] at H
                    have c50b0 : decide (t486 ≤ t480) = true := decide_eq_true c50
                    clear c50
                    obtain rfl := Option.some.inj H
                    have p482 : 0 ≤ (0 : Int) := (by omega)
                    have q482 : 0 < (l0.length : Int) := of_decide_eq_true (by first | (with_reducible assumption) | assumption)
                    obtain ⟨ad482, e482, hx482_0, hx482_1⟩ := at_T50 HR0.out 0 p482 q482
                    cases e482
                    have qi482 : (0 < l0.length) = True := eq_true (by omega)
                    (try rw [show ((0 : Int)).toNat = 0 from rfl] at hx482_0)
                    (try rw [show 0 * 2 = 0 from rfl] at hx482_0)
                    (try rw [Addr.add_zero'] at hx482_0)
                    (try rw [show ((0 : Int)).toNat = 0 from rfl] at hx482_1)
                    (try rw [show 0 * 2 = 0 from rfl] at hx482_1)
                    (try rw [Addr.add_zero'] at hx482_1)
                    replace hx482_0 := (HB.out.cell (World.block_lt_of_cell? w _ hx482_0)).trans hx482_0
                    replace hx482_1 := (HB.out.cell (World.block_lt_of_cell? w _ hx482_1)).trans hx482_1
                    replace p482 := eq_true p482
                    replace q482 := eq_true q482
                    have p483 : 0 ≤ (0 : Int) := (by omega)
                    have q483 : 0 < (l0.length : Int) := of_decide_eq_true (by first | (with_reducible assumption) | assumption)
                    obtain ⟨ad483, e483, hx483_0, hx483_1⟩ := at_T50 HR0.out 0 p483 q483
                    obtain rfl : ad482 = ad483 := (by injection e483)
                    have qi483 : (0 < l0.length) = True := eq_true (by omega)
                    (try rw [show ((0 : Int)).toNat = 0 from rfl] at hx483_0)
                    (try rw [show 0 * 2 = 0 from rfl] at hx483_0)
                    (try rw [Addr.add_zero'] at hx483_0)
                    (try rw [show ((0 : Int)).toNat = 0 from rfl] at hx483_1)
                    (try rw [show 0 * 2 = 0 from rfl] at hx483_1)
                    (try rw [Addr.add_zero'] at hx483_1)
                    replace hx483_0 := (HB.out.cell (World.block_lt_of_cell? w _ hx483_0)).trans hx483_0
                    replace hx483_1 := (HB.out.cell (World.block_lt_of_cell? w _ hx483_1)).trans hx483_1
                    replace p483 := eq_true p483
                    replace q483 := eq_true q483
                    have p484 : 0 ≤ ((ji35) : Int) := of_decide_eq_true (by first | (with_reducible assumption) | assumption)
                    have q484 : (ji35) < (l0.length : Int) := of_decide_eq_true (by first | (with_reducible assumption) | assumption)
                    obtain ⟨ad484, e484, hx484_0, hx484_1⟩ := at_T50 HR0.out (ji35) p484 q484
                    obtain rfl : ad482 = ad484 := (by injection e484)
                    replace hx484_0 := (HB.out.cell (World.block_lt_of_cell? w _ hx484_0)).trans hx484_0
                    replace hx484_1 := (HB.out.cell (World.block_lt_of_cell? w _ hx484_1)).trans hx484_1
                    replace p484 := eq_true p484
                    replace q484 := eq_true q484
                    have p485 : 0 ≤ ((ji35) : Int) := of_decide_eq_true (by first | (with_reducible assumption) | assumption)
                    have q485 : (ji35) < (l0.length : Int) := of_decide_eq_true (by first | (with_reducible assumption) | assumption)
                    obtain ⟨ad485, e485, hx485_0, hx485_1⟩ := at_T50 HR0.out (ji35) p485 q485
                    obtain rfl : ad482 = ad485 := (by injection e485)
                    replace hx485_0 := (HB.out.cell (World.block_lt_of_cell? w _ hx485_0)).trans hx485_0
                    replace hx485_1 := (HB.out.cell (World.block_lt_of_cell? w _ hx485_1)).trans hx485_1
                    replace p485 := eq_true p485
                    replace q485 := eq_true q485
                    go_wp2_with (first | (go_at_call 27; (with_reducible refine (curve_Bounds.calls k1 _ _ l0 a2 a3 t486 t487 t488 _ ?side1 ?side2 A40.out).mono ?_); (case side1 => repeat (first | exact (Kd.C_below HR0.out HB.out) | (with_reducible refine Kd.C_alloc ?_ _) | (with_reducible refine Kd.C_drewN ?_ _) | (with_reducible refine Kd.C_drew ?_))); (case side2 => exact HC0.out); rintro e w51 ⟨rfl, hb⟩; have n0_ := Aside0.mk (below_step (by repeat (first | (with_reducible first | exact HB.out | apply below_alloc | apply pw_below_drewN | apply below_drew1) | exact HB.out)) hb); clear HB; have HB := n0_; clear n0_; (try clear hb); (try clear hb2); (try clear hk); (try clear hi)) | ((with_reducible refine gate_dst (N := 14) rfl ?_); (try (refine gate_guard (by rfl) ?_; dsimp only)); refine box_event ?hg (N := 14) ?hd (cs := #[.int .i64 0, .int .i64 0]) (t := 46) ?hr ?_; (case hd => rfl); (case hg => rfl); (case hr => first | (go_simp; done) | (go_simp; rfl)); intro gb489 hg w52 hbox hb; have n0_ := Aside0.mk (below_step (by repeat (first | (with_reducible first | exact HB.out | apply below_alloc | apply pw_below_drewN | apply below_drew1) | exact HB.out)) hb); have n1_ := Aside0.mk (hbox); have n2_ := Aside0.mk ((by rw [hg]; exact (below_size (by repeat (first | (with_reducible first | exact HB.out | apply below_alloc | apply pw_below_drewN | apply below_drew1) | exact HB.out))) : w.heap.size ≤ gb489)); have n3_ := Aside0.mk ((by rw [hg]; exact (below_size (by repeat (first | (with_reducible first | exact HB.out | apply below_alloc | apply pw_below_drewN | apply below_drew1) | exact HB.out))) : w.heap.size ≤ gb489)); clear HB; have HB := n0_; have BK489 := n1_; have GW489 := n2_; have GE489 := n3_; clear n0_ n1_ n2_ n3_; clear hb hbox hg; have hcz53_0 : w52.cell? ⟨gb489, 0, none⟩ = some (.int .i64 0) := (blk_cell BK489.out 0).trans rfl; have hcz53_1 : w52.cell? ⟨gb489, 1, none⟩ = some (.int .i64 0) := (blk_cell BK489.out 1).trans rfl; have hfz53_0 := blk_frozen BK489.out 0; have hfz53_1 := blk_frozen BK489.out 1))
                    repeat (go_quiet (first | (go_at_call 27; (with_reducible refine (curve_Bounds.calls k1 _ _ l0 a2 a3 t486 t487 t488 _ ?side1 ?side2 A40.out).mono ?_); (case side1 => repeat (first | exact (Kd.C_below HR0.out HB.out) | (with_reducible refine Kd.C_alloc ?_ _) | (with_reducible refine Kd.C_drewN ?_ _) | (with_reducible refine Kd.C_drew ?_))); (case side2 => exact HC0.out); rintro e w51 ⟨rfl, hb⟩; have n0_ := Aside0.mk (below_step (by repeat (first | (with_reducible first | exact HB.out | apply below_alloc | apply pw_below_drewN | apply below_drew1) | exact HB.out)) hb); clear HB; have HB := n0_; clear n0_; (try clear hb); (try clear hb2); (try clear hk); (try clear hi)) | ((with_reducible refine gate_dst (N := 14) rfl ?_); (try (refine gate_guard (by rfl) ?_; dsimp only)); refine box_event ?hg (N := 14) ?hd (cs := #[.int .i64 0, .int .i64 0]) (t := 46) ?hr ?_; (case hd => rfl); (case hg => rfl); (case hr => first | (go_simp; done) | (go_simp; rfl)); intro gb489 hg w52 hbox hb; have n0_ := Aside0.mk (below_step (by repeat (first | (with_reducible first | exact HB.out | apply below_alloc | apply pw_below_drewN | apply below_drew1) | exact HB.out)) hb); have n1_ := Aside0.mk (hbox); have n2_ := Aside0.mk ((by rw [hg]; exact (below_size (by repeat (first | (with_reducible first | exact HB.out | apply below_alloc | apply pw_below_drewN | apply below_drew1) | exact HB.out))) : w.heap.size ≤ gb489)); have n3_ := Aside0.mk ((by rw [hg]; exact (below_size (by repeat (first | (with_reducible first | exact HB.out | apply below_alloc | apply pw_below_drewN | apply below_drew1) | exact HB.out))) : w.heap.size ≤ gb489)); clear HB; have HB := n0_; have BK489 := n1_; have GW489 := n2_; have GE489 := n3_; clear n0_ n1_ n2_ n3_; clear hb hbox hg; have hcz53_0 : w52.cell? ⟨gb489, 0, none⟩ = some (.int .i64 0) := (blk_cell BK489.out 0).trans rfl; have hcz53_1 : w52.cell? ⟨gb489, 1, none⟩ = some (.int .i64 0) := (blk_cell BK489.out 1).trans rfl; have hfz53_0 := blk_frozen BK489.out 0; have hfz53_1 := blk_frozen BK489.out 1)); try go_wp2_with (first | (go_at_call 27; (with_reducible refine (curve_Bounds.calls k1 _ _ l0 a2 a3 t486 t487 t488 _ ?side1 ?side2 A40.out).mono ?_); (case side1 => repeat (first | exact (Kd.C_below HR0.out HB.out) | (with_reducible refine Kd.C_alloc ?_ _) | (with_reducible refine Kd.C_drewN ?_ _) | (with_reducible refine Kd.C_drew ?_))); (case side2 => exact HC0.out); rintro e w51 ⟨rfl, hb⟩; have n0_ := Aside0.mk (below_step (by repeat (first | (with_reducible first | exact HB.out | apply below_alloc | apply pw_below_drewN | apply below_drew1) | exact HB.out)) hb); clear HB; have HB := n0_; clear n0_; (try clear hb); (try clear hb2); (try clear hk); (try clear hi)) | ((with_reducible refine gate_dst (N := 14) rfl ?_); (try (refine gate_guard (by rfl) ?_; dsimp only)); refine box_event ?hg (N := 14) ?hd (cs := #[.int .i64 0, .int .i64 0]) (t := 46) ?hr ?_; (case hd => rfl); (case hg => rfl); (case hr => first | (go_simp; done) | (go_simp; rfl)); intro gb489 hg w52 hbox hb; have n0_ := Aside0.mk (below_step (by repeat (first | (with_reducible first | exact HB.out | apply below_alloc | apply pw_below_drewN | apply below_drew1) | exact HB.out)) hb); have n1_ := Aside0.mk (hbox); have n2_ := Aside0.mk ((by rw [hg]; exact (below_size (by repeat (first | (with_reducible first | exact HB.out | apply below_alloc | apply pw_below_drewN | apply below_drew1) | exact HB.out))) : w.heap.size ≤ gb489)); have n3_ := Aside0.mk ((by rw [hg]; exact (below_size (by repeat (first | (with_reducible first | exact HB.out | apply below_alloc | apply pw_below_drewN | apply below_drew1) | exact HB.out))) : w.heap.size ≤ gb489)); clear HB; have HB := n0_; have BK489 := n1_; have GW489 := n2_; have GE489 := n3_; clear n0_ n1_ n2_ n3_; clear hb hbox hg; have hcz53_0 : w52.cell? ⟨gb489, 0, none⟩ = some (.int .i64 0) := (blk_cell BK489.out 0).trans rfl; have hcz53_1 : w52.cell? ⟨gb489, 1, none⟩ = some (.int .i64 0) := (blk_cell BK489.out 1).trans rfl; have hfz53_0 := blk_frozen BK489.out 0; have hfz53_1 := blk_frozen BK489.out 1)))
                    go_ret
                    exact ⟨by first | rfl | (simp [errW_none, errW_some] <;> rfl) | (simp only [← hji35]; first | rfl | (simp [errW_none, errW_some] <;> rfl)) | (simp [*, errW_none, errW_some] <;> rfl), by repeat (first | (with_reducible first | exact HB.out | apply below_alloc | apply pw_below_drewN | apply below_drew1 | refine below_set ?_ GE489.out) | exact HB.out)⟩
                   ·
                    rw [if_neg c50] at H
                    have c50b0 : decide (t486 ≤ t480) = false := decide_eq_false c50
                    clear c50
                    obtain rfl := Option.some.inj H
                    have p482 : 0 ≤ (0 : Int) := (by omega)
                    have q482 : 0 < (l0.length : Int) := of_decide_eq_true (by first | (with_reducible assumption) | assumption)
                    obtain ⟨ad482, e482, hx482_0, hx482_1⟩ := at_T50 HR0.out 0 p482 q482
                    cases e482
                    have qi482 : (0 < l0.length) = True := eq_true (by omega)
                    (try rw [show ((0 : Int)).toNat = 0 from rfl] at hx482_0)
                    (try rw [show 0 * 2 = 0 from rfl] at hx482_0)
                    (try rw [Addr.add_zero'] at hx482_0)
                    (try rw [show ((0 : Int)).toNat = 0 from rfl] at hx482_1)
                    (try rw [show 0 * 2 = 0 from rfl] at hx482_1)
                    (try rw [Addr.add_zero'] at hx482_1)
                    replace hx482_0 := (HB.out.cell (World.block_lt_of_cell? w _ hx482_0)).trans hx482_0
                    replace hx482_1 := (HB.out.cell (World.block_lt_of_cell? w _ hx482_1)).trans hx482_1
                    replace p482 := eq_true p482
                    replace q482 := eq_true q482
                    have p483 : 0 ≤ (0 : Int) := (by omega)
                    have q483 : 0 < (l0.length : Int) := of_decide_eq_true (by first | (with_reducible assumption) | assumption)
                    obtain ⟨ad483, e483, hx483_0, hx483_1⟩ := at_T50 HR0.out 0 p483 q483
                    obtain rfl : ad482 = ad483 := (by injection e483)
                    have qi483 : (0 < l0.length) = True := eq_true (by omega)
                    (try rw [show ((0 : Int)).toNat = 0 from rfl] at hx483_0)
                    (try rw [show 0 * 2 = 0 from rfl] at hx483_0)
                    (try rw [Addr.add_zero'] at hx483_0)
                    (try rw [show ((0 : Int)).toNat = 0 from rfl] at hx483_1)
                    (try rw [show 0 * 2 = 0 from rfl] at hx483_1)
                    (try rw [Addr.add_zero'] at hx483_1)
                    replace hx483_0 := (HB.out.cell (World.block_lt_of_cell? w _ hx483_0)).trans hx483_0
                    replace hx483_1 := (HB.out.cell (World.block_lt_of_cell? w _ hx483_1)).trans hx483_1
                    replace p483 := eq_true p483
                    replace q483 := eq_true q483
                    have p484 : 0 ≤ ((ji35) : Int) := of_decide_eq_true (by first | (with_reducible assumption) | assumption)
                    have q484 : (ji35) < (l0.length : Int) := of_decide_eq_true (by first | (with_reducible assumption) | assumption)
                    obtain ⟨ad484, e484, hx484_0, hx484_1⟩ := at_T50 HR0.out (ji35) p484 q484
                    obtain rfl : ad482 = ad484 := (by injection e484)
                    replace hx484_0 := (HB.out.cell (World.block_lt_of_cell? w _ hx484_0)).trans hx484_0
                    replace hx484_1 := (HB.out.cell (World.block_lt_of_cell? w _ hx484_1)).trans hx484_1
                    replace p484 := eq_true p484
                    replace q484 := eq_true q484
                    have p485 : 0 ≤ ((ji35) : Int) := of_decide_eq_true (by first | (with_reducible assumption) | assumption)
                    have q485 : (ji35) < (l0.length : Int) := of_decide_eq_true (by first | (with_reducible assumption) | assumption)
                    obtain ⟨ad485, e485, hx485_0, hx485_1⟩ := at_T50 HR0.out (ji35) p485 q485
                    obtain rfl : ad482 = ad485 := (by injection e485)
                    replace hx485_0 := (HB.out.cell (World.block_lt_of_cell? w _ hx485_0)).trans hx485_0
                    replace hx485_1 := (HB.out.cell (World.block_lt_of_cell? w _ hx485_1)).trans hx485_1
                    replace p485 := eq_true p485
                    replace q485 := eq_true q485
                    go_wp2_with (first | (go_at_call 27; (with_reducible refine (curve_Bounds.calls k1 _ _ l0 a2 a3 t486 t487 t488 _ ?side1 ?side2 A40.out).mono ?_); (case side1 => repeat (first | exact (Kd.C_below HR0.out HB.out) | (with_reducible refine Kd.C_alloc ?_ _) | (with_reducible refine Kd.C_drewN ?_ _) | (with_reducible refine Kd.C_drew ?_))); (case side2 => exact HC0.out); rintro e w54 ⟨rfl, hb⟩; have n0_ := Aside0.mk (below_step (by repeat (first | (with_reducible first | exact HB.out | apply below_alloc | apply pw_below_drewN | apply below_drew1) | exact HB.out)) hb); clear HB; have HB := n0_; clear n0_; (try clear hb); (try clear hb2); (try clear hk); (try clear hi)) | ((with_reducible refine gate_dst (N := 14) rfl ?_); (try (refine gate_guard (by rfl) ?_; dsimp only)); refine box_event ?hg (N := 14) ?hd (cs := #[.int .i64 0, .int .i64 0]) (t := 46) ?hr ?_; (case hd => rfl); (case hg => rfl); (case hr => first | (go_simp; done) | (go_simp; rfl)); intro gb489 hg w55 hbox hb; have n0_ := Aside0.mk (below_step (by repeat (first | (with_reducible first | exact HB.out | apply below_alloc | apply pw_below_drewN | apply below_drew1) | exact HB.out)) hb); have n1_ := Aside0.mk (hbox); have n2_ := Aside0.mk ((by rw [hg]; exact (below_size (by repeat (first | (with_reducible first | exact HB.out | apply below_alloc | apply pw_below_drewN | apply below_drew1) | exact HB.out))) : w.heap.size ≤ gb489)); have n3_ := Aside0.mk ((by rw [hg]; exact (below_size (by repeat (first | (with_reducible first | exact HB.out | apply below_alloc | apply pw_below_drewN | apply below_drew1) | exact HB.out))) : w.heap.size ≤ gb489)); clear HB; have HB := n0_; have BK489 := n1_; have GW489 := n2_; have GE489 := n3_; clear n0_ n1_ n2_ n3_; clear hb hbox hg; have hcz56_0 : w55.cell? ⟨gb489, 0, none⟩ = some (.int .i64 0) := (blk_cell BK489.out 0).trans rfl; have hcz56_1 : w55.cell? ⟨gb489, 1, none⟩ = some (.int .i64 0) := (blk_cell BK489.out 1).trans rfl; have hfz56_0 := blk_frozen BK489.out 0; have hfz56_1 := blk_frozen BK489.out 1))
                    repeat (go_quiet (first | (go_at_call 27; (with_reducible refine (curve_Bounds.calls k1 _ _ l0 a2 a3 t486 t487 t488 _ ?side1 ?side2 A40.out).mono ?_); (case side1 => repeat (first | exact (Kd.C_below HR0.out HB.out) | (with_reducible refine Kd.C_alloc ?_ _) | (with_reducible refine Kd.C_drewN ?_ _) | (with_reducible refine Kd.C_drew ?_))); (case side2 => exact HC0.out); rintro e w54 ⟨rfl, hb⟩; have n0_ := Aside0.mk (below_step (by repeat (first | (with_reducible first | exact HB.out | apply below_alloc | apply pw_below_drewN | apply below_drew1) | exact HB.out)) hb); clear HB; have HB := n0_; clear n0_; (try clear hb); (try clear hb2); (try clear hk); (try clear hi)) | ((with_reducible refine gate_dst (N := 14) rfl ?_); (try (refine gate_guard (by rfl) ?_; dsimp only)); refine box_event ?hg (N := 14) ?hd (cs := #[.int .i64 0, .int .i64 0]) (t := 46) ?hr ?_; (case hd => rfl); (case hg => rfl); (case hr => first | (go_simp; done) | (go_simp; rfl)); intro gb489 hg w55 hbox hb; have n0_ := Aside0.mk (below_step (by repeat (first | (with_reducible first | exact HB.out | apply below_alloc | apply pw_below_drewN | apply below_drew1) | exact HB.out)) hb); have n1_ := Aside0.mk (hbox); have n2_ := Aside0.mk ((by rw [hg]; exact (below_size (by repeat (first | (with_reducible first | exact HB.out | apply below_alloc | apply pw_below_drewN | apply below_drew1) | exact HB.out))) : w.heap.size ≤ gb489)); have n3_ := Aside0.mk ((by rw [hg]; exact (below_size (by repeat (first | (with_reducible first | exact HB.out | apply below_alloc | apply pw_below_drewN | apply below_drew1) | exact HB.out))) : w.heap.size ≤ gb489)); clear HB; have HB := n0_; have BK489 := n1_; have GW489 := n2_; have GE489 := n3_; clear n0_ n1_ n2_ n3_; clear hb hbox hg; have hcz56_0 : w55.cell? ⟨gb489, 0, none⟩ = some (.int .i64 0) := (blk_cell BK489.out 0).trans rfl; have hcz56_1 : w55.cell? ⟨gb489, 1, none⟩ = some (.int .i64 0) := (blk_cell BK489.out 1).trans rfl; have hfz56_0 := blk_frozen BK489.out 0; have hfz56_1 := blk_frozen BK489.out 1)); try go_wp2_with (first | (go_at_call 27; (with_reducible refine (curve_Bounds.calls k1 _ _ l0 a2 a3 t486 t487 t488 _ ?side1 ?side2 A40.out).mono ?_); (case side1 => repeat (first | exact (Kd.C_below HR0.out HB.out) | (with_reducible refine Kd.C_alloc ?_ _) | (with_reducible refine Kd.C_drewN ?_ _) | (with_reducible refine Kd.C_drew ?_))); (case side2 => exact HC0.out); rintro e w54 ⟨rfl, hb⟩; have n0_ := Aside0.mk (below_step (by repeat (first | (with_reducible first | exact HB.out | apply below_alloc | apply pw_below_drewN | apply below_drew1) | exact HB.out)) hb); clear HB; have HB := n0_; clear n0_; (try clear hb); (try clear hb2); (try clear hk); (try clear hi)) | ((with_reducible refine gate_dst (N := 14) rfl ?_); (try (refine gate_guard (by rfl) ?_; dsimp only)); refine box_event ?hg (N := 14) ?hd (cs := #[.int .i64 0, .int .i64 0]) (t := 46) ?hr ?_; (case hd => rfl); (case hg => rfl); (case hr => first | (go_simp; done) | (go_simp; rfl)); intro gb489 hg w55 hbox hb; have n0_ := Aside0.mk (below_step (by repeat (first | (with_reducible first | exact HB.out | apply below_alloc | apply pw_below_drewN | apply below_drew1) | exact HB.out)) hb); have n1_ := Aside0.mk (hbox); have n2_ := Aside0.mk ((by rw [hg]; exact (below_size (by repeat (first | (with_reducible first | exact HB.out | apply below_alloc | apply pw_below_drewN | apply below_drew1) | exact HB.out))) : w.heap.size ≤ gb489)); have n3_ := Aside0.mk ((by rw [hg]; exact (below_size (by repeat (first | (with_reducible first | exact HB.out | apply below_alloc | apply pw_below_drewN | apply below_drew1) | exact HB.out))) : w.heap.size ≤ gb489)); clear HB; have HB := n0_; have BK489 := n1_; have GW489 := n2_; have GE489 := n3_; clear n0_ n1_ n2_ n3_; clear hb hbox hg; have hcz56_0 : w55.cell? ⟨gb489, 0, none⟩ = some (.int .i64 0) := (blk_cell BK489.out 0).trans rfl; have hcz56_1 : w55.cell? ⟨gb489, 1, none⟩ = some (.int .i64 0) := (blk_cell BK489.out 1).trans rfl; have hfz56_0 := blk_frozen BK489.out 0; have hfz56_1 := blk_frozen BK489.out 1)))
                    go_ret
                    exact ⟨by first | rfl | (simp [errW_none, errW_some] <;> rfl) | (simp only [← hji35]; first | rfl | (simp [errW_none, errW_some] <;> rfl)) | (simp [*, errW_none, errW_some] <;> rfl), by repeat (first | (with_reducible first | exact HB.out | apply below_alloc | apply pw_below_drewN | apply below_drew1 | refine below_set ?_ GE489.out) | exact HB.out)⟩
                ·
                 rw [if_neg c41] at H
                 have c41b0 : (t488 == 0) = false := beq_eq_false_iff_ne.mpr c41
                 have c41b1 : (t488 != 0) = true := bne_iff_ne.mpr c41
                 obtain rfl := Option.some.inj H
                 have p482 : 0 ≤ (0 : Int) := (by omega)
                 have q482 : 0 < (l0.length : Int) := of_decide_eq_true (by first | (with_reducible assumption) | assumption)
                 obtain ⟨ad482, e482, hx482_0, hx482_1⟩ := at_T50 HR0.out 0 p482 q482
                 cases e482
                 have qi482 : (0 < l0.length) = True := eq_true (by omega)
                 (try rw [show ((0 : Int)).toNat = 0 from rfl] at hx482_0)
                 (try rw [show 0 * 2 = 0 from rfl] at hx482_0)
                 (try rw [Addr.add_zero'] at hx482_0)
                 (try rw [show ((0 : Int)).toNat = 0 from rfl] at hx482_1)
                 (try rw [show 0 * 2 = 0 from rfl] at hx482_1)
                 (try rw [Addr.add_zero'] at hx482_1)
                 replace hx482_0 := (HB.out.cell (World.block_lt_of_cell? w _ hx482_0)).trans hx482_0
                 replace hx482_1 := (HB.out.cell (World.block_lt_of_cell? w _ hx482_1)).trans hx482_1
                 replace p482 := eq_true p482
                 replace q482 := eq_true q482
                 have p483 : 0 ≤ (0 : Int) := (by omega)
                 have q483 : 0 < (l0.length : Int) := of_decide_eq_true (by first | (with_reducible assumption) | assumption)
                 obtain ⟨ad483, e483, hx483_0, hx483_1⟩ := at_T50 HR0.out 0 p483 q483
                 obtain rfl : ad482 = ad483 := (by injection e483)
                 have qi483 : (0 < l0.length) = True := eq_true (by omega)
                 (try rw [show ((0 : Int)).toNat = 0 from rfl] at hx483_0)
                 (try rw [show 0 * 2 = 0 from rfl] at hx483_0)
                 (try rw [Addr.add_zero'] at hx483_0)
                 (try rw [show ((0 : Int)).toNat = 0 from rfl] at hx483_1)
                 (try rw [show 0 * 2 = 0 from rfl] at hx483_1)
                 (try rw [Addr.add_zero'] at hx483_1)
                 replace hx483_0 := (HB.out.cell (World.block_lt_of_cell? w _ hx483_0)).trans hx483_0
                 replace hx483_1 := (HB.out.cell (World.block_lt_of_cell? w _ hx483_1)).trans hx483_1
                 replace p483 := eq_true p483
                 replace q483 := eq_true q483
                 have p484 : 0 ≤ ((ji35) : Int) := of_decide_eq_true (by first | (with_reducible assumption) | assumption)
                 have q484 : (ji35) < (l0.length : Int) := of_decide_eq_true (by first | (with_reducible assumption) | assumption)
                 obtain ⟨ad484, e484, hx484_0, hx484_1⟩ := at_T50 HR0.out (ji35) p484 q484
                 obtain rfl : ad482 = ad484 := (by injection e484)
                 replace hx484_0 := (HB.out.cell (World.block_lt_of_cell? w _ hx484_0)).trans hx484_0
                 replace hx484_1 := (HB.out.cell (World.block_lt_of_cell? w _ hx484_1)).trans hx484_1
                 replace p484 := eq_true p484
                 replace q484 := eq_true q484
                 have p485 : 0 ≤ ((ji35) : Int) := of_decide_eq_true (by first | (with_reducible assumption) | assumption)
                 have q485 : (ji35) < (l0.length : Int) := of_decide_eq_true (by first | (with_reducible assumption) | assumption)
                 obtain ⟨ad485, e485, hx485_0, hx485_1⟩ := at_T50 HR0.out (ji35) p485 q485
                 obtain rfl : ad482 = ad485 := (by injection e485)
                 replace hx485_0 := (HB.out.cell (World.block_lt_of_cell? w _ hx485_0)).trans hx485_0
                 replace hx485_1 := (HB.out.cell (World.block_lt_of_cell? w _ hx485_1)).trans hx485_1
                 replace p485 := eq_true p485
                 replace q485 := eq_true q485
                 go_wp2_with (first | (go_at_call 27; (with_reducible refine (curve_Bounds.calls k1 _ _ l0 a2 a3 t486 t487 t488 _ ?side1 ?side2 A40.out).mono ?_); (case side1 => repeat (first | exact (Kd.C_below HR0.out HB.out) | (with_reducible refine Kd.C_alloc ?_ _) | (with_reducible refine Kd.C_drewN ?_ _) | (with_reducible refine Kd.C_drew ?_))); (case side2 => exact HC0.out); rintro e w57 ⟨rfl, hb⟩; have n0_ := Aside0.mk (below_step (by repeat (first | (with_reducible first | exact HB.out | apply below_alloc | apply pw_below_drewN | apply below_drew1) | exact HB.out)) hb); clear HB; have HB := n0_; clear n0_; (try clear hb); (try clear hb2); (try clear hk); (try clear hi)) | ((with_reducible refine gate_dst (N := 14) rfl ?_); (try (refine gate_guard (by rfl) ?_; dsimp only)); refine box_event ?hg (N := 14) ?hd (cs := #[.int .i64 0, .int .i64 0]) (t := 46) ?hr ?_; (case hd => rfl); (case hg => rfl); (case hr => first | (go_simp; done) | (go_simp; rfl)); intro gb489 hg w58 hbox hb; have n0_ := Aside0.mk (below_step (by repeat (first | (with_reducible first | exact HB.out | apply below_alloc | apply pw_below_drewN | apply below_drew1) | exact HB.out)) hb); have n1_ := Aside0.mk (hbox); have n2_ := Aside0.mk ((by rw [hg]; exact (below_size (by repeat (first | (with_reducible first | exact HB.out | apply below_alloc | apply pw_below_drewN | apply below_drew1) | exact HB.out))) : w.heap.size ≤ gb489)); have n3_ := Aside0.mk ((by rw [hg]; exact (below_size (by repeat (first | (with_reducible first | exact HB.out | apply below_alloc | apply pw_below_drewN | apply below_drew1) | exact HB.out))) : w.heap.size ≤ gb489)); clear HB; have HB := n0_; have BK489 := n1_; have GW489 := n2_; have GE489 := n3_; clear n0_ n1_ n2_ n3_; clear hb hbox hg; have hcz59_0 : w58.cell? ⟨gb489, 0, none⟩ = some (.int .i64 0) := (blk_cell BK489.out 0).trans rfl; have hcz59_1 : w58.cell? ⟨gb489, 1, none⟩ = some (.int .i64 0) := (blk_cell BK489.out 1).trans rfl; have hfz59_0 := blk_frozen BK489.out 0; have hfz59_1 := blk_frozen BK489.out 1))
                 repeat (go_quiet (first | (go_at_call 27; (with_reducible refine (curve_Bounds.calls k1 _ _ l0 a2 a3 t486 t487 t488 _ ?side1 ?side2 A40.out).mono ?_); (case side1 => repeat (first | exact (Kd.C_below HR0.out HB.out) | (with_reducible refine Kd.C_alloc ?_ _) | (with_reducible refine Kd.C_drewN ?_ _) | (with_reducible refine Kd.C_drew ?_))); (case side2 => exact HC0.out); rintro e w57 ⟨rfl, hb⟩; have n0_ := Aside0.mk (below_step (by repeat (first | (with_reducible first | exact HB.out | apply below_alloc | apply pw_below_drewN | apply below_drew1) | exact HB.out)) hb); clear HB; have HB := n0_; clear n0_; (try clear hb); (try clear hb2); (try clear hk); (try clear hi)) | ((with_reducible refine gate_dst (N := 14) rfl ?_); (try (refine gate_guard (by rfl) ?_; dsimp only)); refine box_event ?hg (N := 14) ?hd (cs := #[.int .i64 0, .int .i64 0]) (t := 46) ?hr ?_; (case hd => rfl); (case hg => rfl); (case hr => first | (go_simp; done) | (go_simp; rfl)); intro gb489 hg w58 hbox hb; have n0_ := Aside0.mk (below_step (by repeat (first | (with_reducible first | exact HB.out | apply below_alloc | apply pw_below_drewN | apply below_drew1) | exact HB.out)) hb); have n1_ := Aside0.mk (hbox); have n2_ := Aside0.mk ((by rw [hg]; exact (below_size (by repeat (first | (with_reducible first | exact HB.out | apply below_alloc | apply pw_below_drewN | apply below_drew1) | exact HB.out))) : w.heap.size ≤ gb489)); have n3_ := Aside0.mk ((by rw [hg]; exact (below_size (by repeat (first | (with_reducible first | exact HB.out | apply below_alloc | apply pw_below_drewN | apply below_drew1) | exact HB.out))) : w.heap.size ≤ gb489)); clear HB; have HB := n0_; have BK489 := n1_; have GW489 := n2_; have GE489 := n3_; clear n0_ n1_ n2_ n3_; clear hb hbox hg; have hcz59_0 : w58.cell? ⟨gb489, 0, none⟩ = some (.int .i64 0) := (blk_cell BK489.out 0).trans rfl; have hcz59_1 : w58.cell? ⟨gb489, 1, none⟩ = some (.int .i64 0) := (blk_cell BK489.out 1).trans rfl; have hfz59_0 := blk_frozen BK489.out 0; have hfz59_1 := blk_frozen BK489.out 1)); try go_wp2_with (first | (go_at_call 27; (with_reducible refine (curve_Bounds.calls k1 _ _ l0 a2 a3 t486 t487 t488 _ ?side1 ?side2 A40.out).mono ?_); (case side1 => repeat (first | exact (Kd.C_below HR0.out HB.out) | (with_reducible refine Kd.C_alloc ?_ _) | (with_reducible refine Kd.C_drewN ?_ _) | (with_reducible refine Kd.C_drew ?_))); (case side2 => exact HC0.out); rintro e w57 ⟨rfl, hb⟩; have n0_ := Aside0.mk (below_step (by repeat (first | (with_reducible first | exact HB.out | apply below_alloc | apply pw_below_drewN | apply below_drew1) | exact HB.out)) hb); clear HB; have HB := n0_; clear n0_; (try clear hb); (try clear hb2); (try clear hk); (try clear hi)) | ((with_reducible refine gate_dst (N := 14) rfl ?_); (try (refine gate_guard (by rfl) ?_; dsimp only)); refine box_event ?hg (N := 14) ?hd (cs := #[.int .i64 0, .int .i64 0]) (t := 46) ?hr ?_; (case hd => rfl); (case hg => rfl); (case hr => first | (go_simp; done) | (go_simp; rfl)); intro gb489 hg w58 hbox hb; have n0_ := Aside0.mk (below_step (by repeat (first | (with_reducible first | exact HB.out | apply below_alloc | apply pw_below_drewN | apply below_drew1) | exact HB.out)) hb); have n1_ := Aside0.mk (hbox); have n2_ := Aside0.mk ((by rw [hg]; exact (below_size (by repeat (first | (with_reducible first | exact HB.out | apply below_alloc | apply pw_below_drewN | apply below_drew1) | exact HB.out))) : w.heap.size ≤ gb489)); have n3_ := Aside0.mk ((by rw [hg]; exact (below_size (by repeat (first | (with_reducible first | exact HB.out | apply below_alloc | apply pw_below_drewN | apply below_drew1) | exact HB.out))) : w.heap.size ≤ gb489)); clear HB; have HB := n0_; have BK489 := n1_; have GW489 := n2_; have GE489 := n3_; clear n0_ n1_ n2_ n3_; clear hb hbox hg; have hcz59_0 : w58.cell? ⟨gb489, 0, none⟩ = some (.int .i64 0) := (blk_cell BK489.out 0).trans rfl; have hcz59_1 : w58.cell? ⟨gb489, 1, none⟩ = some (.int .i64 0) := (blk_cell BK489.out 1).trans rfl; have hfz59_0 := blk_frozen BK489.out 0; have hfz59_1 := blk_frozen BK489.out 1)))
                 go_ret
                 exact ⟨by first | rfl | (simp [errW_none, errW_some] <;> rfl) | (simp only [← hji35]; first | rfl | (simp [errW_none, errW_some] <;> rfl)) | (simp [*, errW_none, errW_some] <;> rfl), by repeat (first | (with_reducible first | exact HB.out | apply below_alloc | apply pw_below_drewN | apply below_drew1 | refine below_set ?_ GE489.out) | exact HB.out)⟩
              ·
               as_aux_lemma =>
                rw [if_neg c39] at H
                have c39b0 : (t480 == ((rd_T50 l0 (ji35)).f1)) = false := beq_eq_false_iff_ne.mpr c39
                have c39b1 : (t480 != ((rd_T50 l0 (ji35)).f1)) = true := bne_iff_ne.mpr c39
                obtain rfl := Option.some.inj H
                have p482 : 0 ≤ (0 : Int) := (by omega)
                have q482 : 0 < (l0.length : Int) := of_decide_eq_true (by first | (with_reducible assumption) | assumption)
                obtain ⟨ad482, e482, hx482_0, hx482_1⟩ := at_T50 HR0.out 0 p482 q482
                cases e482
                have qi482 : (0 < l0.length) = True := eq_true (by omega)
                (try rw [show ((0 : Int)).toNat = 0 from rfl] at hx482_0)
                (try rw [show 0 * 2 = 0 from rfl] at hx482_0)
                (try rw [Addr.add_zero'] at hx482_0)
                (try rw [show ((0 : Int)).toNat = 0 from rfl] at hx482_1)
                (try rw [show 0 * 2 = 0 from rfl] at hx482_1)
                (try rw [Addr.add_zero'] at hx482_1)
                replace hx482_0 := (HB.out.cell (World.block_lt_of_cell? w _ hx482_0)).trans hx482_0
                replace hx482_1 := (HB.out.cell (World.block_lt_of_cell? w _ hx482_1)).trans hx482_1
                replace p482 := eq_true p482
                replace q482 := eq_true q482
                have p483 : 0 ≤ (0 : Int) := (by omega)
                have q483 : 0 < (l0.length : Int) := of_decide_eq_true (by first | (with_reducible assumption) | assumption)
                obtain ⟨ad483, e483, hx483_0, hx483_1⟩ := at_T50 HR0.out 0 p483 q483
                obtain rfl : ad482 = ad483 := (by injection e483)
                have qi483 : (0 < l0.length) = True := eq_true (by omega)
                (try rw [show ((0 : Int)).toNat = 0 from rfl] at hx483_0)
                (try rw [show 0 * 2 = 0 from rfl] at hx483_0)
                (try rw [Addr.add_zero'] at hx483_0)
                (try rw [show ((0 : Int)).toNat = 0 from rfl] at hx483_1)
                (try rw [show 0 * 2 = 0 from rfl] at hx483_1)
                (try rw [Addr.add_zero'] at hx483_1)
                replace hx483_0 := (HB.out.cell (World.block_lt_of_cell? w _ hx483_0)).trans hx483_0
                replace hx483_1 := (HB.out.cell (World.block_lt_of_cell? w _ hx483_1)).trans hx483_1
                replace p483 := eq_true p483
                replace q483 := eq_true q483
                have p484 : 0 ≤ ((ji35) : Int) := of_decide_eq_true (by first | (with_reducible assumption) | assumption)
                have q484 : (ji35) < (l0.length : Int) := of_decide_eq_true (by first | (with_reducible assumption) | assumption)
                obtain ⟨ad484, e484, hx484_0, hx484_1⟩ := at_T50 HR0.out (ji35) p484 q484
                obtain rfl : ad482 = ad484 := (by injection e484)
                replace hx484_0 := (HB.out.cell (World.block_lt_of_cell? w _ hx484_0)).trans hx484_0
                replace hx484_1 := (HB.out.cell (World.block_lt_of_cell? w _ hx484_1)).trans hx484_1
                replace p484 := eq_true p484
                replace q484 := eq_true q484
                have p485 : 0 ≤ ((ji35) : Int) := of_decide_eq_true (by first | (with_reducible assumption) | assumption)
                have q485 : (ji35) < (l0.length : Int) := of_decide_eq_true (by first | (with_reducible assumption) | assumption)
                obtain ⟨ad485, e485, hx485_0, hx485_1⟩ := at_T50 HR0.out (ji35) p485 q485
                obtain rfl : ad482 = ad485 := (by injection e485)
                replace hx485_0 := (HB.out.cell (World.block_lt_of_cell? w _ hx485_0)).trans hx485_0
                replace hx485_1 := (HB.out.cell (World.block_lt_of_cell? w _ hx485_1)).trans hx485_1
                replace p485 := eq_true p485
                replace q485 := eq_true q485
                go_wp2
                repeat (go_quiet (fail); try go_wp2)
                go_ret
                exact ⟨by first | rfl | (simp [errW_none, errW_some] <;> rfl) | (simp only [← hji35]; first | rfl | (simp [errW_none, errW_some] <;> rfl)) | (simp [*, errW_none, errW_some] <;> rfl), by repeat (first | (with_reducible first | exact HB.out | apply below_alloc | apply pw_below_drewN | apply below_drew1) | exact HB.out)⟩
             ·
              rw [if_neg c38] at H
              have c38b0 : decide (((rd_T50 l0 (ji35)).f0) ≤ a1) = false := decide_eq_false c38
              clear c38
              replace H := Option.bind_eq_some_iff.mp H
              obtain ⟨⟨t490, t491, t492⟩, A600, H⟩ := H
              replace H : (if t492 = 0 then (if a1 < a2 then (some true) else (if a1 > a3 then (some true) else (if t490 ≤ t480 then (some (decide (t480 ≤ t491))) else (some false)))) else (some true)) = some r := H
              have A60 := Aside0.mk A600
              clear A600
              by_cases c61 : t492 = 0
              ·
               rw [if_pos c61] at H
               have c61b0 : (t492 == 0) = true := beq_iff_eq.mpr c61
               have c61b1 : (t492 != 0) = false := bne_eq_false_iff_eq.mpr c61
               clear c61
               by_cases c62 : a1 < a2
               ·
                rw [if_pos c62] at H
                have c62b0 : decide (a1 < a2) = true := decide_eq_true c62
                clear c62
                obtain rfl := Option.some.inj H
                have p482 : 0 ≤ (0 : Int) := (by omega)
                have q482 : 0 < (l0.length : Int) := of_decide_eq_true (by first | (with_reducible assumption) | assumption)
                obtain ⟨ad482, e482, hx482_0, hx482_1⟩ := at_T50 HR0.out 0 p482 q482
                cases e482
                have qi482 : (0 < l0.length) = True := eq_true (by omega)
                (try rw [show ((0 : Int)).toNat = 0 from rfl] at hx482_0)
                (try rw [show 0 * 2 = 0 from rfl] at hx482_0)
                (try rw [Addr.add_zero'] at hx482_0)
                (try rw [show ((0 : Int)).toNat = 0 from rfl] at hx482_1)
                (try rw [show 0 * 2 = 0 from rfl] at hx482_1)
                (try rw [Addr.add_zero'] at hx482_1)
                replace hx482_0 := (HB.out.cell (World.block_lt_of_cell? w _ hx482_0)).trans hx482_0
                replace hx482_1 := (HB.out.cell (World.block_lt_of_cell? w _ hx482_1)).trans hx482_1
                replace p482 := eq_true p482
                replace q482 := eq_true q482
                have p483 : 0 ≤ (0 : Int) := (by omega)
                have q483 : 0 < (l0.length : Int) := of_decide_eq_true (by first | (with_reducible assumption) | assumption)
                obtain ⟨ad483, e483, hx483_0, hx483_1⟩ := at_T50 HR0.out 0 p483 q483
                obtain rfl : ad482 = ad483 := (by injection e483)
                have qi483 : (0 < l0.length) = True := eq_true (by omega)
                (try rw [show ((0 : Int)).toNat = 0 from rfl] at hx483_0)
                (try rw [show 0 * 2 = 0 from rfl] at hx483_0)
                (try rw [Addr.add_zero'] at hx483_0)
                (try rw [show ((0 : Int)).toNat = 0 from rfl] at hx483_1)
                (try rw [show 0 * 2 = 0 from rfl] at hx483_1)
                (try rw [Addr.add_zero'] at hx483_1)
                replace hx483_0 := (HB.out.cell (World.block_lt_of_cell? w _ hx483_0)).trans hx483_0
                replace hx483_1 := (HB.out.cell (World.block_lt_of_cell? w _ hx483_1)).trans hx483_1
                replace p483 := eq_true p483
                replace q483 := eq_true q483
                have p484 : 0 ≤ ((ji35) : Int) := of_decide_eq_true (by first | (with_reducible assumption) | assumption)
                have q484 : (ji35) < (l0.length : Int) := of_decide_eq_true (by first | (with_reducible assumption) | assumption)
                obtain ⟨ad484, e484, hx484_0, hx484_1⟩ := at_T50 HR0.out (ji35) p484 q484
                obtain rfl : ad482 = ad484 := (by injection e484)
                replace hx484_0 := (HB.out.cell (World.block_lt_of_cell? w _ hx484_0)).trans hx484_0
                replace hx484_1 := (HB.out.cell (World.block_lt_of_cell? w _ hx484_1)).trans hx484_1
                replace p484 := eq_true p484
                replace q484 := eq_true q484
                go_wp2_with (first | (go_at_call 27; (with_reducible refine (curve_Bounds.calls k1 _ _ l0 a2 a3 t490 t491 t492 _ ?side1 ?side2 A60.out).mono ?_); (case side1 => repeat (first | exact (Kd.C_below HR0.out HB.out) | (with_reducible refine Kd.C_alloc ?_ _) | (with_reducible refine Kd.C_drewN ?_ _) | (with_reducible refine Kd.C_drew ?_))); (case side2 => exact HC0.out); rintro e w63 ⟨rfl, hb⟩; have n0_ := Aside0.mk (below_step (by repeat (first | (with_reducible first | exact HB.out | apply below_alloc | apply pw_below_drewN | apply below_drew1) | exact HB.out)) hb); clear HB; have HB := n0_; clear n0_; (try clear hb); (try clear hb2); (try clear hk); (try clear hi)) | ((with_reducible refine gate_dst (N := 14) rfl ?_); (try (refine gate_guard (by rfl) ?_; dsimp only)); refine box_event ?hg (N := 14) ?hd (cs := #[.int .i64 0, .int .i64 0]) (t := 46) ?hr ?_; (case hd => rfl); (case hg => rfl); (case hr => first | (go_simp; done) | (go_simp; rfl)); intro gb493 hg w64 hbox hb; have n0_ := Aside0.mk (below_step (by repeat (first | (with_reducible first | exact HB.out | apply below_alloc | apply pw_below_drewN | apply below_drew1) | exact HB.out)) hb); have n1_ := Aside0.mk (hbox); have n2_ := Aside0.mk ((by rw [hg]; exact (below_size (by repeat (first | (with_reducible first | exact HB.out | apply below_alloc | apply pw_below_drewN | apply below_drew1) | exact HB.out))) : w.heap.size ≤ gb493)); have n3_ := Aside0.mk ((by rw [hg]; exact (below_size (by repeat (first | (with_reducible first | exact HB.out | apply below_alloc | apply pw_below_drewN | apply below_drew1) | exact HB.out))) : w.heap.size ≤ gb493)); clear HB; have HB := n0_; have BK493 := n1_; have GW493 := n2_; have GE493 := n3_; clear n0_ n1_ n2_ n3_; clear hb hbox hg; have hcz65_0 : w64.cell? ⟨gb493, 0, none⟩ = some (.int .i64 0) := (blk_cell BK493.out 0).trans rfl; have hcz65_1 : w64.cell? ⟨gb493, 1, none⟩ = some (.int .i64 0) := (blk_cell BK493.out 1).trans rfl; have hfz65_0 := blk_frozen BK493.out 0; have hfz65_1 := blk_frozen BK493.out 1))
                repeat (go_quiet (first | (go_at_call 27; (with_reducible refine (curve_Bounds.calls k1 _ _ l0 a2 a3 t490 t491 t492 _ ?side1 ?side2 A60.out).mono ?_); (case side1 => repeat (first | exact (Kd.C_below HR0.out HB.out) | (with_reducible refine Kd.C_alloc ?_ _) | (with_reducible refine Kd.C_drewN ?_ _) | (with_reducible refine Kd.C_drew ?_))); (case side2 => exact HC0.out); rintro e w63 ⟨rfl, hb⟩; have n0_ := Aside0.mk (below_step (by repeat (first | (with_reducible first | exact HB.out | apply below_alloc | apply pw_below_drewN | apply below_drew1) | exact HB.out)) hb); clear HB; have HB := n0_; clear n0_; (try clear hb); (try clear hb2); (try clear hk); (try clear hi)) | ((with_reducible refine gate_dst (N := 14) rfl ?_); (try (refine gate_guard (by rfl) ?_; dsimp only)); refine box_event ?hg (N := 14) ?hd (cs := #[.int .i64 0, .int .i64 0]) (t := 46) ?hr ?_; (case hd => rfl); (case hg => rfl); (case hr => first | (go_simp; done) | (go_simp; rfl)); intro gb493 hg w64 hbox hb; have n0_ := Aside0.mk (below_step (by repeat (first | (with_reducible first | exact HB.out | apply below_alloc | apply pw_below_drewN | apply below_drew1) | exact HB.out)) hb); have n1_ := Aside0.mk (hbox); have n2_ := Aside0.mk ((by rw [hg]; exact (below_size (by repeat (first | (with_reducible first | exact HB.out | apply below_alloc | apply pw_below_drewN | apply below_drew1) | exact HB.out))) : w.heap.size ≤ gb493)); have n3_ := Aside0.mk ((by rw [hg]; exact (below_size (by repeat (first | (with_reducible first | exact HB.out | apply below_alloc | apply pw_below_drewN | apply below_drew1) | exact HB.out))) : w.heap.size ≤ gb493)); clear HB; have HB := n0_; have BK493 := n1_; have GW493 := n2_; have GE493 := n3_; clear n0_ n1_ n2_ n3_; clear hb hbox hg; have hcz65_0 : w64.cell? ⟨gb493, 0, none⟩ = some (.int .i64 0) := (blk_cell BK493.out 0).trans rfl; have hcz65_1 : w64.cell? ⟨gb493, 1, none⟩ = some (.int .i64 0) := (blk_cell BK493.out 1).trans rfl; have hfz65_0 := blk_frozen BK493.out 0; have hfz65_1 := blk_frozen BK493.out 1)); try go_wp2_with (first | (go_at_call 27; (with_reducible refine (curve_Bounds.calls k1 _ _ l0 a2 a3 t490 t491 t492 _ ?side1 ?side2 A60.out).mono ?_); (case side1 => repeat (first | exact (Kd.C_below HR0.out HB.out) | (with_reducible refine Kd.C_alloc ?_ _) | (with_reducible refine Kd.C_drewN ?_ _) | (with_reducible refine Kd.C_drew ?_))); (case side2 => exact HC0.out); rintro e w63 ⟨rfl, hb⟩; have n0_ := Aside0.mk (below_step (by repeat (first | (with_reducible first | exact HB.out | apply below_alloc | apply pw_below_drewN | apply below_drew1) | exact HB.out)) hb); clear HB; have HB := n0_; clear n0_; (try clear hb); (try clear hb2); (try clear hk); (try clear hi)) | ((with_reducible refine gate_dst (N := 14) rfl ?_); (try (refine gate_guard (by rfl) ?_; dsimp only)); refine box_event ?hg (N := 14) ?hd (cs := #[.int .i64 0, .int .i64 0]) (t := 46) ?hr ?_; (case hd => rfl); (case hg => rfl); (case hr => first | (go_simp; done) | (go_simp; rfl)); intro gb493 hg w64 hbox hb; have n0_ := Aside0.mk (below_step (by repeat (first | (with_reducible first | exact HB.out | apply below_alloc | apply pw_below_drewN | apply below_drew1) | exact HB.out)) hb); have n1_ := Aside0.mk (hbox); have n2_ := Aside0.mk ((by rw [hg]; exact (below_size (by repeat (first | (with_reducible first | exact HB.out | apply below_alloc | apply pw_below_drewN | apply below_drew1) | exact HB.out))) : w.heap.size ≤ gb493)); have n3_ := Aside0.mk ((by rw [hg]; exact (below_size (by repeat (first | (with_reducible first | exact HB.out | apply below_alloc | apply pw_below_drewN | apply below_drew1) | exact HB.out))) : w.heap.size ≤ gb493)); clear HB; have HB := n0_; have BK493 := n1_; have GW493 := n2_; have GE493 := n3_; clear n0_ n1_ n2_ n3_; clear hb hbox hg; have hcz65_0 : w64.cell? ⟨gb493, 0, none⟩ = some (.int .i64 0) := (blk_cell BK493.out 0).trans rfl; have hcz65_1 : w64.cell? ⟨gb493, 1, none⟩ = some (.int .i64 0) := (blk_cell BK493.out 1).trans rfl; have hfz65_0 := blk_frozen BK493.out 0; have hfz65_1 := blk_frozen BK493.out 1)))
                go_ret
                exact ⟨by first | rfl | (simp [errW_none, errW_some] <;> rfl) | (simp only [← hji35]; first | rfl | (simp [errW_none, errW_some] <;> rfl)) | (simp [*, errW_none, errW_some] <;> rfl), by repeat (first | (with_reducible first | exact HB.out | apply below_alloc | apply pw_below_drewN | apply below_drew1 | refine below_set ?_ GE493.out) | exact HB.out)⟩
               ·
                rw [if_neg c62] at H
                have c62b0 : decide (a1 < a2) = false := decide_eq_false c62
                clear c62
                by_cases c66 : a1 > a3
                ·
                 rw [if_pos c66] at H
                 have c66b0 : decide (a3 < a1) = true := decide_eq_true c66
                 clear c66
                 obtain rfl := Option.some.inj H
                 have p482 : 0 ≤ (0 : Int) := (by omega)
                 have q482 : 0 < (l0.length : Int) := of_decide_eq_true (by first | (with_reducible assumption) | assumption)
                 obtain ⟨ad482, e482, hx482_0, hx482_1⟩ := at_T50 HR0.out 0 p482 q482
                 cases e482
                 have qi482 : (0 < l0.length) = True := eq_true (by omega)
                 (try rw [show ((0 : Int)).toNat = 0 from rfl] at hx482_0)
                 (try rw [show 0 * 2 = 0 from rfl] at hx482_0)
                 (try rw [Addr.add_zero'] at hx482_0)
                 (try rw [show ((0 : Int)).toNat = 0 from rfl] at hx482_1)
                 (try rw [show 0 * 2 = 0 from rfl] at hx482_1)
                 (try rw [Addr.add_zero'] at hx482_1)
                 replace hx482_0 := (HB.out.cell (World.block_lt_of_cell? w _ hx482_0)).trans hx482_0
                 replace hx482_1 := (HB.out.cell (World.block_lt_of_cell? w _ hx482_1)).trans hx482_1
                 replace p482 := eq_true p482
                 replace q482 := eq_true q482
                 have p483 : 0 ≤ (0 : Int) := (by omega)
                 have q483 : 0 < (l0.length : Int) := of_decide_eq_true (by first | (with_reducible assumption) | assumption)
                 obtain ⟨ad483, e483, hx483_0, hx483_1⟩ := at_T50 HR0.out 0 p483 q483
                 obtain rfl : ad482 = ad483 := (by injection e483)
                 have qi483 : (0 < l0.length) = True := eq_true (by omega)
                 (try rw [show ((0 : Int)).toNat = 0 from rfl] at hx483_0)
                 (try rw [show 0 * 2 = 0 from rfl] at hx483_0)
                 (try rw [Addr.add_zero'] at hx483_0)
                 (try rw [show ((0 : Int)).toNat = 0 from rfl] at hx483_1)
                 (try rw [show 0 * 2 = 0 from rfl] at hx483_1)
                 (try rw [Addr.add_zero'] at hx483_1)
                 replace hx483_0 := (HB.out.cell (World.block_lt_of_cell? w _ hx483_0)).trans hx483_0
                 replace hx483_1 := (HB.out.cell (World.block_lt_of_cell? w _ hx483_1)).trans hx483_1
                 replace p483 := eq_true p483
                 replace q483 := eq_true q483
                 have p484 : 0 ≤ ((ji35) : Int) := of_decide_eq_true (by first | (with_reducible assumption) | assumption)
                 have q484 : (ji35) < (l0.length : Int) := of_decide_eq_true (by first | (with_reducible assumption) | assumption)
                 obtain ⟨ad484, e484, hx484_0, hx484_1⟩ := at_T50 HR0.out (ji35) p484 q484
                 obtain rfl : ad482 = ad484 := (by injection e484)
                 replace hx484_0 := (HB.out.cell (World.block_lt_of_cell? w _ hx484_0)).trans hx484_0
                 replace hx484_1 := (HB.out.cell (World.block_lt_of_cell? w _ hx484_1)).trans hx484_1
                 replace p484 := eq_true p484
                 replace q484 := eq_true q484
                 go_wp2_with (first | (go_at_call 27; (with_reducible refine (curve_Bounds.calls k1 _ _ l0 a2 a3 t490 t491 t492 _ ?side1 ?side2 A60.out).mono ?_); (case side1 => repeat (first | exact (Kd.C_below HR0.out HB.out) | (with_reducible refine Kd.C_alloc ?_ _) | (with_reducible refine Kd.C_drewN ?_ _) | (with_reducible refine Kd.C_drew ?_))); (case side2 => exact HC0.out); rintro e w67 ⟨rfl, hb⟩; have n0_ := Aside0.mk (below_step (by repeat (first | (with_reducible first | exact HB.out | apply below_alloc | apply pw_below_drewN | apply below_drew1) | exact HB.out)) hb); clear HB; have HB := n0_; clear n0_; (try clear hb); (try clear hb2); (try clear hk); (try clear hi)) | ((with_reducible refine gate_dst (N := 14) rfl ?_); (try (refine gate_guard (by rfl) ?_; dsimp only)); refine box_event ?hg (N := 14) ?hd (cs := #[.int .i64 0, .int .i64 0]) (t := 46) ?hr ?_; (case hd => rfl); (case hg => rfl); (case hr => first | (go_simp; done) | (go_simp; rfl)); intro gb493 hg w68 hbox hb; have n0_ := Aside0.mk (below_step (by repeat (first | (with_reducible first | exact HB.out | apply below_alloc | apply pw_below_drewN | apply below_drew1) | exact HB.out)) hb); have n1_ := Aside0.mk (hbox); have n2_ := Aside0.mk ((by rw [hg]; exact (below_size (by repeat (first | (with_reducible first | exact HB.out | apply below_alloc | apply pw_below_drewN | apply below_drew1) | exact HB.out))) : w.heap.size ≤ gb493)); have n3_ := Aside0.mk ((by rw [hg]; exact (below_size (by repeat (first | (with_reducible first | exact HB.out | apply below_alloc | apply pw_below_drewN | apply below_drew1) | exact HB.out))) : w.heap.size ≤ gb493)); clear HB; have HB := n0_; have BK493 := n1_; have GW493 := n2_; have GE493 := n3_; clear n0_ n1_ n2_ n3_; clear hb hbox hg; have hcz69_0 : w68.cell? ⟨gb493, 0, none⟩ = some (.int .i64 0) := (blk_cell BK493.out 0).trans rfl; have hcz69_1 : w68.cell? ⟨gb493, 1, none⟩ = some (.int .i64 0) := (blk_cell BK493.out 1).trans rfl; have hfz69_0 := blk_frozen BK493.out 0; have hfz69_1 := blk_frozen BK493.out 1))
                 repeat (go_quiet (first | (go_at_call 27; (with_reducible refine (curve_Bounds.calls k1 _ _ l0 a2 a3 t490 t491 t492 _ ?side1 ?side2 A60.out).mono ?_); (case side1 => repeat (first | exact (Kd.C_below HR0.out HB.out) | (with_reducible refine Kd.C_alloc ?_ _) | (with_reducible refine Kd.C_drewN ?_ _) | (with_reducible refine Kd.C_drew ?_))); (case side2 => exact HC0.out); rintro e w67 ⟨rfl, hb⟩; have n0_ := Aside0.mk (below_step (by repeat (first | (with_reducible first | exact HB.out | apply below_alloc | apply pw_below_drewN | apply below_drew1) | exact HB.out)) hb); clear HB; have HB := n0_; clear n0_; (try clear hb); (try clear hb2); (try clear hk); (try clear hi)) | ((with_reducible refine gate_dst (N := 14) rfl ?_); (try (refine gate_guard (by rfl) ?_; dsimp only)); refine box_event ?hg (N := 14) ?hd (cs := #[.int .i64 0, .int .i64 0]) (t := 46) ?hr ?_; (case hd => rfl); (case hg => rfl); (case hr => first | (go_simp; done) | (go_simp; rfl)); intro gb493 hg w68 hbox hb; have n0_ := Aside0.mk (below_step (by repeat (first | (with_reducible first | exact HB.out | apply below_alloc | apply pw_below_drewN | apply below_drew1) | exact HB.out)) hb); have n1_ := Aside0.mk (hbox); have n2_ := Aside0.mk ((by rw [hg]; exact (below_size (by repeat (first | (with_reducible first | exact HB.out | apply below_alloc | apply pw_below_drewN | apply below_drew1) | exact HB.out))) : w.heap.size ≤ gb493)); have n3_ := Aside0.mk ((by rw [hg]; exact (below_size (by repeat (first | (with_reducible first | exact HB.out | apply below_alloc | apply pw_below_drewN | apply below_drew1) | exact HB.out))) : w.heap.size ≤ gb493)); clear HB; have HB := n0_; have BK493 := n1_; have GW493 := n2_; have GE493 := n3_; clear n0_ n1_ n2_ n3_; clear hb hbox hg; have hcz69_0 : w68.cell? ⟨gb493, 0, none⟩ = some (.int .i64 0) := (blk_cell BK493.out 0).trans rfl; have hcz69_1 : w68.cell? ⟨gb493, 1, none⟩ = some (.int .i64 0) := (blk_cell BK493.out 1).trans rfl; have hfz69_0 := blk_frozen BK493.out 0; have hfz69_1 := blk_frozen BK493.out 1)); try go_wp2_with (first | (go_at_call 27; (with_reducible refine (curve_Bounds.calls k1 _ _ l0 a2 a3 t490 t491 t492 _ ?side1 ?side2 A60.out).mono ?_); (case side1 => repeat (first | exact (Kd.C_below HR0.out HB.out) | (with_reducible refine Kd.C_alloc ?_ _) | (with_reducible refine Kd.C_drewN ?_ _) | (with_reducible refine Kd.C_drew ?_))); (case side2 => exact HC0.out); rintro e w67 ⟨rfl, hb⟩; have n0_ := Aside0.mk (below_step (by repeat (first | (with_reducible first | exact HB.out | apply below_alloc | apply pw_below_drewN | apply below_drew1) | exact HB.out)) hb); clear HB; have HB := n0_; clear n0_; (try clear hb); (try clear hb2); (try clear hk); (try clear hi)) | ((with_reducible refine gate_dst (N := 14) rfl ?_); (try (refine gate_guard (by rfl) ?_; dsimp only)); refine box_event ?hg (N := 14) ?hd (cs := #[.int .i64 0, .int .i64 0]) (t := 46) ?hr ?_; (case hd => rfl); (case hg => rfl); (case hr => first | (go_simp; done) | (go_simp; rfl)); intro gb493 hg w68 hbox hb; have n0_ := Aside0.mk (below_step (by repeat (first | (with_reducible first | exact HB.out | apply below_alloc | apply pw_below_drewN | apply below_drew1) | exact HB.out)) hb); have n1_ := Aside0.mk (hbox); have n2_ := Aside0.mk ((by rw [hg]; exact (below_size (by repeat (first | (with_reducible first | exact HB.out | apply below_alloc | apply pw_below_drewN | apply below_drew1) | exact HB.out))) : w.heap.size ≤ gb493)); have n3_ := Aside0.mk ((by rw [hg]; exact (below_size (by repeat (first | (with_reducible first | exact HB.out | apply below_alloc | apply pw_below_drewN | apply below_drew1) | exact HB.out))) : w.heap.size ≤ gb493)); clear HB; have HB := n0_; have BK493 := n1_; have GW493 := n2_; have GE493 := n3_; clear n0_ n1_ n2_ n3_; clear hb hbox hg; have hcz69_0 : w68.cell? ⟨gb493, 0, none⟩ = some (.int .i64 0) := (blk_cell BK493.out 0).trans rfl; have hcz69_1 : w68.cell? ⟨gb493, 1, none⟩ = some (.int .i64 0) := (blk_cell BK493.out 1).trans rfl; have hfz69_0 := blk_frozen BK493.out 0; have hfz69_1 := blk_frozen BK493.out 1)))
                 go_ret
                 exact ⟨by first | rfl | (simp [errW_none, errW_some] <;> rfl) | (simp only [← hji35]; first | rfl | (simp [errW_none, errW_some] <;> rfl)) | (simp [*, errW_none, errW_some] <;> rfl), by repeat (first | (with_reducible first | exact HB.out | apply below_alloc | apply pw_below_drewN | apply below_drew1 | refine below_set ?_ GE493.out) | exact HB.out)⟩
                ·
                 rw [if_neg c66] at H
                 have c66b0 : decide (a3 < a1) = false := decide_eq_false c66
                 clear c66
                 by_cases c70 : t490 ≤ t480
                 ·
                  rw [if_pos c70] at H
                  have c70b0 : decide (t490 ≤ t480) = true := decide_eq_true c70
                  clear c70
                  obtain rfl := Option.some.inj H
                  have p482 : 0 ≤ (0 : Int) := (by omega)
                  have q482 : 0 < (l0.length : Int) := of_decide_eq_true (by first | (with_reducible assumption) | assumption)
                  obtain ⟨ad482, e482, hx482_0, hx482_1⟩ := at_T50 HR0.out 0 p482 q482
                  cases e482
                  have qi482 : (0 < l0.length) = True := eq_true (by omega)
                  (try rw [show ((0 : Int)).toNat = 0 from rfl] at hx482_0)
                  (try rw [show 0 * 2 = 0 from rfl] at hx482_0)
                  (try rw [Addr.add_zero'] at hx482_0)
                  (try rw [show ((0 : Int)).toNat = 0 from rfl] at hx482_1)
                  (try rw [show 0 * 2 = 0 from rfl] at hx482_1)
                  (try rw [Addr.add_zero'] at hx482_1)
                  replace hx482_0 := (HB.out.cell (World.block_lt_of_cell? w _ hx482_0)).trans hx482_0
                  replace hx482_1 := (HB.out.cell (World.block_lt_of_cell? w _ hx482_1)).trans hx482_1
                  replace p482 := eq_true p482
                  replace q482 := eq_true q482
                  have p483 : 0 ≤ (0 : Int) := (by omega)
                  have q483 : 0 < (l0.length : Int) := of_decide_eq_true (by first | (with_reducible assumption) | assumption)
                  obtain ⟨ad483, e483, hx483_0, hx483_1⟩ := at_T50 HR0.out 0 p483 q483
                  obtain rfl : ad482 = ad483 := (by injection e483)
                  have qi483 : (0 < l0.length) = True := eq_true (by omega)
                  (try rw [show ((0 : Int)).toNat = 0 from rfl] at hx483_0)
                  (try rw [show 0 * 2 = 0 from rfl] at hx483_0)
                  (try rw [Addr.add_zero'] at hx483_0)
                  (try rw [show ((0 : Int)).toNat = 0 from rfl] at hx483_1)
                  (try rw [show 0 * 2 = 0 from rfl] at hx483_1)
                  (try rw [Addr.add_zero'] at hx483_1)
                  replace hx483_0 := (HB.out.cell (World.block_lt_of_cell? w _ hx483_0)).trans hx483_0
                  replace hx483_1 := (HB.out.cell (World.block_lt_of_cell? w _ hx483_1)).trans hx483_1
                  replace p483 := eq_true p483
                  replace q483 := eq_true q483
                  have p484 : 0 ≤ ((ji35) : Int) := of_decide_eq_true (by first | (with_reducible assumption) | assumption)
                  have q484 : (ji35) < (l0.length : Int) := of_decide_eq_true (by first | (with_reducible assumption) | assumption)
                  obtain ⟨ad484, e484, hx484_0, hx484_1⟩ := at_T50 HR0.out (ji35) p484 q484
                  obtain rfl : ad482 = ad484 := (by injection e484)
                  replace hx484_0 := (HB.out.cell (World.block_lt_of_cell? w _ hx484_0)).trans hx484_0
                  replace hx484_1 := (HB.out.cell (World.block_lt_of_cell? w _ hx484_1)).trans hx484_1
                  replace p484 := eq_true p484
                  replace q484 := eq_true q484
                  go_wp2_with (first | (go_at_call 27; (with_reducible refine (curve_Bounds.calls k1 _ _ l0 a2 a3 t490 t491 t492 _ ?side1 ?side2 A60.out).mono ?_); (case side1 => repeat (first | exact (Kd.C_below HR0.out HB.out) | (with_reducible refine Kd.C_alloc ?_ _) | (with_reducible refine Kd.C_drewN ?_ _) | (with_reducible refine Kd.C_drew ?_))); (case side2 => exact HC0.out); rintro e w71 ⟨rfl, hb⟩; have n0_ := Aside0.mk (below_step (by repeat (first | (with_reducible first | exact HB.out | apply below_alloc | apply pw_below_drewN | apply below_drew1) | exact HB.out)) hb); clear HB; have HB := n0_; clear n0_; (try clear hb); (try clear hb2); (try clear hk); (try clear hi)) | ((with_reducible refine gate_dst (N := 14) rfl ?_); (try (refine gate_guard (by rfl) ?_; dsimp only)); refine box_event ?hg (N := 14) ?hd (cs := #[.int .i64 0, .int .i64 0]) (t := 46) ?hr ?_; (case hd => rfl); (case hg => rfl); (case hr => first | (go_simp; done) | (go_simp; rfl)); intro gb493 hg w72 hbox hb; have n0_ := Aside0.mk (below_step (by repeat (first | (with_reducible first | exact HB.out | apply below_alloc | apply pw_below_drewN | apply below_drew1) | exact HB.out)) hb); have n1_ := Aside0.mk (hbox); have n2_ := Aside0.mk ((by rw [hg]; exact (below_size (by repeat (first | (with_reducible first | exact HB.out | apply below_alloc | apply pw_below_drewN | apply below_drew1) | exact HB.out))) : w.heap.size ≤ gb493)); have n3_ := Aside0.mk ((by rw [hg]; exact (below_size (by repeat (first | (with_reducible first | exact HB.out | apply below_alloc | apply pw_below_drewN | apply below_drew1) | exact HB.out))) : w.heap.size ≤ gb493)); clear HB; have HB := n0_; have BK493 := n1_; have GW493 := n2_; have GE493 := n3_; clear n0_ n1_ n2_ n3_; clear hb hbox hg; have hcz73_0 : w72.cell? ⟨gb493, 0, none⟩ = some (.int .i64 0) := (blk_cell BK493.out 0).trans rfl; have hcz73_1 : w72.cell? ⟨gb493, 1, none⟩ = some (.int .i64 0) := (blk_cell BK493.out 1).trans rfl; have hfz73_0 := blk_frozen BK493.out 0; have hfz73_1 := blk_frozen BK493.out 1))
                  repeat (go_quiet (first | (go_at_call 27; (with_reducible refine (curve_Bounds.calls k1 _ _ l0 a2 a3 t490 t491 t492 _ ?side1 ?side2 A60.out).mono ?_); (case side1 => repeat (first | exact (Kd.C_below HR0.out HB.out) | (with_reducible refine Kd.C_alloc ?_ _) | (with_reducible refine Kd.C_drewN ?_ _) | (with_reducible refine Kd.C_drew ?_))); (case side2 => exact HC0.out); rintro e w71 ⟨rfl, hb⟩; have n0_ := Aside0.mk (below_step (by repeat (first | (with_reducible first | exact HB.out | apply below_alloc | apply pw_below_drewN | apply below_drew1) | exact HB.out)) hb); clear HB; have HB := n0_; clear n0_; (try clear hb); (try clear hb2); (try clear hk); (try clear hi)) | ((with_reducible refine gate_dst (N := 14) rfl ?_); (try (refine gate_guard (by rfl) ?_; dsimp only)); refine box_event ?hg (N := 14) ?hd (cs := #[.int .i64 0, .int .i64 0]) (t := 46) ?hr ?_; (case hd => rfl); (case hg => rfl); (case hr => first | (go_simp; done) | (go_simp; rfl)); intro gb493 hg w72 hbox hb; have n0_ := Aside0.mk (below_step (by repeat (first | (with_reducible first | exact HB.out | apply below_alloc | apply pw_below_drewN | apply below_drew1) | exact HB.out)) hb); have n1_ := Aside0.mk (hbox); have n2_ := Aside0.mk ((by rw [hg]; exact (below_size (by repeat (first | (with_reducible first | exact HB.out | apply below_alloc | apply pw_below_drewN | apply below_drew1) | exact HB.out))) : w.heap.size ≤ gb493)); have n3_ := Aside0.mk ((by rw [hg]; exact (below_size (by repeat (first | (with_reducible first | exact HB.out | apply below_alloc | apply pw_below_drewN | apply below_drew1) | exact HB.out))) : w.heap.size ≤ gb493)); clear HB; have HB := n0_; have BK493 := n1_; have GW493 := n2_; have GE493 := n3_; clear n0_ n1_ n2_ n3_; clear hb hbox hg; have hcz73_0 : w72.cell? ⟨gb493, 0, none⟩ = some (.int .i64 0) := (blk_cell BK493.out 0).trans rfl; have hcz73_1 : w72.cell? ⟨gb493, 1, none⟩ = some (.int .i64 0) := (blk_cell BK493.out 1).trans rfl; have hfz73_0 := blk_frozen BK493.out 0; have hfz73_1 := blk_frozen BK493.out 1)); try go_wp2_with (first | (go_at_call 27; (with_reducible refine (curve_Bounds.calls k1 _ _ l0 a2 a3 t490 t491 t492 _ ?side1 ?side2 A60.out).mono ?_); (case side1 => repeat (first | exact (Kd.C_below HR0.out HB.out) | (with_reducible refine Kd.C_alloc ?_ _) | (with_reducible refine Kd.C_drewN ?_ _) | (with_reducible refine Kd.C_drew ?_))); (case side2 => exact HC0.out); rintro e w71 ⟨rfl, hb⟩; have n0_ := Aside0.mk (below_step (by repeat (first | (with_reducible first | exact HB.out | apply below_alloc | apply pw_below_drewN | apply below_drew1) | exact HB.out)) hb); clear HB; have HB := n0_; clear n0_; (try clear hb); (try clear hb2); (try clear hk); (try clear hi)) | ((with_reducible refine gate_dst (N := 14) rfl ?_); (try (refine gate_guard (by rfl) ?_; dsimp only)); refine box_event ?hg (N := 14) ?hd (cs := #[.int .i64 0, .int .i64 0]) (t := 46) ?hr ?_; (case hd => rfl); (case hg => rfl); (case hr => first | (go_simp; done) | (go_simp; rfl)); intro gb493 hg w72 hbox hb; have n0_ := Aside0.mk (below_step (by repeat (first | (with_reducible first | exact HB.out | apply below_alloc | apply pw_below_drewN | apply below_drew1) | exact HB.out)) hb); have n1_ := Aside0.mk (hbox); have n2_ := Aside0.mk ((by rw [hg]; exact (below_size (by repeat (first | (with_reducible first | exact HB.out | apply below_alloc | apply pw_below_drewN | apply below_drew1) | exact HB.out))) : w.heap.size ≤ gb493)); have n3_ := Aside0.mk ((by rw [hg]; exact (below_size (by repeat (first | (with_reducible first | exact HB.out | apply below_alloc | apply pw_below_drewN | apply below_drew1) | exact HB.out))) : w.heap.size ≤ gb493)); clear HB; have HB := n0_; have BK493 := n1_; have GW493 := n2_; have GE493 := n3_; clear n0_ n1_ n2_ n3_; clear hb hbox hg; have hcz73_0 : w72.cell? ⟨gb493, 0, none⟩ = some (.int .i64 0) := (blk_cell BK493.out 0).trans rfl; have hcz73_1 : w72.cell? ⟨gb493, 1, none⟩ = some (.int .i64 0) := (blk_cell BK493.out 1).trans rfl; have hfz73_0 := blk_frozen BK493.out 0; have hfz73_1 := blk_frozen BK493.out 1)))
                  go_ret
                  exact ⟨by first | rfl | (simp [errW_none, errW_some] <;> rfl) | (simp only [← hji35]; first | rfl | (simp [errW_none, errW_some] <;> rfl)) | (simp [*, errW_none, errW_some] <;> rfl), by repeat (first | (with_reducible first | exact HB.out | apply below_alloc | apply pw_below_drewN | apply below_drew1 | refine below_set ?_ GE493.out) | exact HB.out)⟩
                 ·
                  rw [if_neg c70] at H
                  have c70b0 : decide (t490 ≤ t480) = false := decide_eq_false c70
                  clear c70
                  obtain rfl := Option.some.inj H
                  have p482 : 0 ≤ (0 : Int) := (by omega)
                  have q482 : 0 < (l0.length : Int) := of_decide_eq_true (by first | (with_reducible assumption) | assumption)
                  obtain ⟨ad482, e482, hx482_0, hx482_1⟩ := at_T50 HR0.out 0 p482 q482
                  cases e482
                  have qi482 : (0 < l0.length) = True := eq_true (by omega)
                  (try rw [show ((0 : Int)).toNat = 0 from rfl] at hx482_0)
                  (try rw [show 0 * 2 = 0 from rfl] at hx482_0)
                  (try rw [Addr.add_zero'] at hx482_0)
                  (try rw [show ((0 : Int)).toNat = 0 from rfl] at hx482_1)
                  (try rw [show 0 * 2 = 0 from rfl] at hx482_1)
                  (try rw [Addr.add_zero'] at hx482_1)
                  replace hx482_0 := (HB.out.cell (World.block_lt_of_cell? w _ hx482_0)).trans hx482_0
                  replace hx482_1 := (HB.out.cell (World.block_lt_of_cell? w _ hx482_1)).trans hx482_1
                  replace p482 := eq_true p482
                  replace q482 := eq_true q482
                  have p483 : 0 ≤ (0 : Int) := (by omega)
                  have q483 : 0 < (l0.length : Int) := of_decide_eq_true (by first | (with_reducible assumption) | assumption)
                  obtain ⟨ad483, e483, hx483_0, hx483_1⟩ := at_T50 HR0.out 0 p483 q483
                  obtain rfl : ad482 = ad483 := (by injection e483)
                  have qi483 : (0 < l0.length) = True := eq_true (by omega)
                  (try rw [show ((0 : Int)).toNat = 0 from rfl] at hx483_0)
                  (try rw [show 0 * 2 = 0 from rfl] at hx483_0)
                  (try rw [Addr.add_zero'] at hx483_0)
                  (try rw [show ((0 : Int)).toNat = 0 from rfl] at hx483_1)
                  (try rw [show 0 * 2 = 0 from rfl] at hx483_1)
                  (try rw [Addr.add_zero'] at hx483_1)
                  replace hx483_0 := (HB.out.cell (World.block_lt_of_cell? w _ hx483_0)).trans hx483_0
                  replace hx483_1 := (HB.out.cell (World.block_lt_of_cell? w _ hx483_1)).trans hx483_1
                  replace p483 := eq_true p483
                  replace q483 := eq_true q483
                  have p484 : 0 ≤ ((ji35) : Int) := of_decide_eq_true (by first | (with_reducible assumption) | assumption)
                  have q484 : (ji35) < (l0.length : Int) := of_decide_eq_true (by first | (with_reducible assumption) | assumption)
                  obtain ⟨ad484, e484, hx484_0, hx484_1⟩ := at_T50 HR0.out (ji35) p484 q484
                  obtain rfl : ad482 = ad484 := (by injection e484)
                  replace hx484_0 := (HB.out.cell (World.block_lt_of_cell? w _ hx484_0)).trans hx484_0
                  replace hx484_1 := (HB.out.cell (World.block_lt_of_cell? w _ hx484_1)).trans hx484_1
                  replace p484 := eq_true p484
                  replace q484 := eq_true q484
                  go_wp2_with (first | (go_at_call 27; (with_reducible refine (curve_Bounds.calls k1 _ _ l0 a2 a3 t490 t491 t492 _ ?side1 ?side2 A60.out).mono ?_); (case side1 => repeat (first | exact (Kd.C_below HR0.out HB.out) | (with_reducible refine Kd.C_alloc ?_ _) | (with_reducible refine Kd.C_drewN ?_ _) | (with_reducible refine Kd.C_drew ?_))); (case side2 => exact HC0.out); rintro e w74 ⟨rfl, hb⟩; have n0_ := Aside0.mk (below_step (by repeat (first | (with_reducible first | exact HB.out | apply below_alloc | apply pw_below_drewN | apply below_drew1) | exact HB.out)) hb); clear HB; have HB := n0_; clear n0_; (try clear hb); (try clear hb2); (try clear hk); (try clear hi)) | ((with_reducible refine gate_dst (N := 14) rfl ?_); (try (refine gate_guard (by rfl) ?_; dsimp only)); refine box_event ?hg (N := 14) ?hd (cs := #[.int .i64 0, .int .i64 0]) (t := 46) ?hr ?_; (case hd => rfl); (case hg => rfl); (case hr => first | (go_simp; done) | (go_simp; rfl)); intro gb493 hg w75 hbox hb; have n0_ := Aside0.mk (below_step (by repeat (first | (with_reducible first | exact HB.out | apply below_alloc | apply pw_below_drewN | apply below_drew1) | exact HB.out)) hb); have n1_ := Aside0.mk (hbox); have n2_ := Aside0.mk ((by rw [hg]; exact (below_size (by repeat (first | (with_reducible first | exact HB.out | apply below_alloc | apply pw_below_drewN | apply below_drew1) | exact HB.out))) : w.heap.size ≤ gb493)); have n3_ := Aside0.mk ((by rw [hg]; exact (below_size (by repeat (first | (with_reducible first | exact HB.out | apply below_alloc | apply pw_below_drewN | apply below_drew1) | exact HB.out))) : w.heap.size ≤ gb493)); clear HB; have HB := n0_; have BK493 := n1_; have GW493 := n2_; have GE493 := n3_; clear n0_ n1_ n2_ n3_; clear hb hbox hg; have hcz76_0 : w75.cell? ⟨gb493, 0, none⟩ = some (.int .i64 0) := (blk_cell BK493.out 0).trans rfl; have hcz76_1 : w75.cell? ⟨gb493, 1, none⟩ = some (.int .i64 0) := (blk_cell BK493.out 1).trans rfl; have hfz76_0 := blk_frozen BK493.out 0; have hfz76_1 := blk_frozen BK493.out 1))
                  repeat (go_quiet (first | (go_at_call 27; (with_reducible refine (curve_Bounds.calls k1 _ _ l0 a2 a3 t490 t491 t492 _ ?side1 ?side2 A60.out).mono ?_); (case side1 => repeat (first | exact (Kd.C_below HR0.out HB.out) | (with_reducible refine Kd.C_alloc ?_ _) | (with_reducible refine Kd.C_drewN ?_ _) | (with_reducible refine Kd.C_drew ?_))); (case side2 => exact HC0.out); rintro e w74 ⟨rfl, hb⟩; have n0_ := Aside0.mk (below_step (by repeat (first | (with_reducible first | exact HB.out | apply below_alloc | apply pw_below_drewN | apply below_drew1) | exact HB.out)) hb); clear HB; have HB := n0_; clear n0_; (try clear hb); (try clear hb2); (try clear hk); (try clear hi)) | ((with_reducible refine gate_dst (N := 14) rfl ?_); (try (refine gate_guard (by rfl) ?_; dsimp only)); refine box_event ?hg (N := 14) ?hd (cs := #[.int .i64 0, .int .i64 0]) (t := 46) ?hr ?_; (case hd => rfl); (case hg => rfl); (case hr => first | (go_simp; done) | (go_simp; rfl)); intro gb493 hg w75 hbox hb; have n0_ := Aside0.mk (below_step (by repeat (first | (with_reducible first | exact HB.out | apply below_alloc | apply pw_below_drewN | apply below_drew1) | exact HB.out)) hb); have n1_ := Aside0.mk (hbox); have n2_ := Aside0.mk ((by rw [hg]; exact (below_size (by repeat (first | (with_reducible first | exact HB.out | apply below_alloc | apply pw_below_drewN | apply below_drew1) | exact HB.out))) : w.heap.size ≤ gb493)); have n3_ := Aside0.mk ((by rw [hg]; exact (below_size (by repeat (first | (with_reducible first | exact HB.out | apply below_alloc | apply pw_below_drewN | apply below_drew1) | exact HB.out))) : w.heap.size ≤ gb493)); clear HB; have HB := n0_; have BK493 := n1_; have GW493 := n2_; have GE493 := n3_; clear n0_ n1_ n2_ n3_; clear hb hbox hg; have hcz76_0 : w75.cell? ⟨gb493, 0, none⟩ = some (.int .i64 0) := (blk_cell BK493.out 0).trans rfl; have hcz76_1 : w75.cell? ⟨gb493, 1, none⟩ = some (.int .i64 0) := (blk_cell BK493.out 1).trans rfl; have hfz76_0 := blk_frozen BK493.out 0; have hfz76_1 := blk_frozen BK493.out 1)); try go_wp2_with (first | (go_at_call 27; (with_reducible refine (curve_Bounds.calls k1 _ _ l0 a2 a3 t490 t491 t492 _ ?side1 ?side2 A60.out).mono ?_); (case side1 => repeat (first | exact (Kd.C_below HR0.out HB.out) | (with_reducible refine Kd.C_alloc ?_ _) | (with_reducible refine Kd.C_drewN ?_ _) | (with_reducible refine Kd.C_drew ?_))); (case side2 => exact HC0.out); rintro e w74 ⟨rfl, hb⟩; have n0_ := Aside0.mk (below_step (by repeat (first | (with_reducible first | exact HB.out | apply below_alloc | apply pw_below_drewN | apply below_drew1) | exact HB.out)) hb); clear HB; have HB := n0_; clear n0_; (try clear hb); (try clear hb2); (try clear hk); (try clear hi)) | ((with_reducible refine gate_dst (N := 14) rfl ?_); (try (refine gate_guard (by rfl) ?_; dsimp only)); refine box_event ?hg (N := 14) ?hd (cs := #[.int .i64 0, .int .i64 0]) (t := 46) ?hr ?_; (case hd => rfl); (case hg => rfl); (case hr => first | (go_simp; done) | (go_simp; rfl)); intro gb493 hg w75 hbox hb; have n0_ := Aside0.mk (below_step (by repeat (first | (with_reducible first | exact HB.out | apply below_alloc | apply pw_below_drewN | apply below_drew1) | exact HB.out)) hb); have n1_ := Aside0.mk (hbox); have n2_ := Aside0.mk ((by rw [hg]; exact (below_size (by repeat (first | (with_reducible first | exact HB.out | apply below_alloc | apply pw_below_drewN | apply below_drew1) | exact HB.out))) : w.heap.size ≤ gb493)); have n3_ := Aside0.mk ((by rw [hg]; exact (below_size (by repeat (first | (with_reducible first | exact HB.out | apply below_alloc | apply pw_below_drewN | apply below_drew1) | exact HB.out))) : w.heap.size ≤ gb493)); clear HB; have HB := n0_; have BK493 := n1_; have GW493 := n2_; have GE493 := n3_; clear n0_ n1_ n2_ n3_; clear hb hbox hg; have hcz76_0 : w75.cell? ⟨gb493, 0, none⟩ = some (.int .i64 0) := (blk_cell BK493.out 0).trans rfl; have hcz76_1 : w75.cell? ⟨gb493, 1, none⟩ = some (.int .i64 0) := (blk_cell BK493.out 1).trans rfl; have hfz76_0 := blk_frozen BK493.out 0; have hfz76_1 := blk_frozen BK493.out 1)))
                  go_ret
                  exact ⟨by first | rfl | (simp [errW_none, errW_some] <;> rfl) | (simp only [← hji35]; first | rfl | (simp [errW_none, errW_some] <;> rfl)) | (simp [*, errW_none, errW_some] <;> rfl), by repeat (first | (with_reducible first | exact HB.out | apply below_alloc | apply pw_below_drewN | apply below_drew1 | refine below_set ?_ GE493.out) | exact HB.out)⟩
              ·
               rw [if_neg c61] at H
               have c61b0 : (t492 == 0) = false := beq_eq_false_iff_ne.mpr c61
               have c61b1 : (t492 != 0) = true := bne_iff_ne.mpr c61
               obtain rfl := Option.some.inj H
               have p482 : 0 ≤ (0 : Int) := (by omega)
               have q482 : 0 < (l0.length : Int) := of_decide_eq_true (by first | (with_reducible assumption) | assumption)
               obtain ⟨ad482, e482, hx482_0, hx482_1⟩ := at_T50 HR0.out 0 p482 q482
               cases e482
               have qi482 : (0 < l0.length) = True := eq_true (by omega)
               (try rw [show ((0 : Int)).toNat = 0 from rfl] at hx482_0)
               (try rw [show 0 * 2 = 0 from rfl] at hx482_0)
               (try rw [Addr.add_zero'] at hx482_0)
               (try rw [show ((0 : Int)).toNat = 0 from rfl] at hx482_1)
               (try rw [show 0 * 2 = 0 from rfl] at hx482_1)
               (try rw [Addr.add_zero'] at hx482_1)
               replace hx482_0 := (HB.out.cell (World.block_lt_of_cell? w _ hx482_0)).trans hx482_0
               replace hx482_1 := (HB.out.cell (World.block_lt_of_cell? w _ hx482_1)).trans hx482_1
               replace p482 := eq_true p482
               replace q482 := eq_true q482
               have p483 : 0 ≤ (0 : Int) := (by omega)
               have q483 : 0 < (l0.length : Int) := of_decide_eq_true (by first | (with_reducible assumption) | assumption)
               obtain ⟨ad483, e483, hx483_0, hx483_1⟩ := at_T50 HR0.out 0 p483 q483
               obtain rfl : ad482 = ad483 := (by injection e483)
               have qi483 : (0 < l0.length) = True := eq_true (by omega)
               (try rw [show ((0 : Int)).toNat = 0 from rfl] at hx483_0)
               (try rw [show 0 * 2 = 0 from rfl] at hx483_0)
               (try rw [Addr.add_zero'] at hx483_0)
               (try rw [show ((0 : Int)).toNat = 0 from rfl] at hx483_1)
               (try rw [show 0 * 2 = 0 from rfl] at hx483_1)
               (try rw [Addr.add_zero'] at hx483_1)
               replace hx483_0 := (HB.out.cell (World.block_lt_of_cell? w _ hx483_0)).trans hx483_0
               replace hx483_1 := (HB.out.cell (World.block_lt_of_cell? w _ hx483_1)).trans hx483_1
               replace p483 := eq_true p483
               replace q483 := eq_true q483
               have p484 : 0 ≤ ((ji35) : Int) := of_decide_eq_true (by first | (with_reducible assumption) | assumption)
               have q484 : (ji35) < (l0.length : Int) := of_decide_eq_true (by first | (with_reducible assumption) | assumption)
               obtain ⟨ad484, e484, hx484_0, hx484_1⟩ := at_T50 HR0.out (ji35) p484 q484
               obtain rfl : ad482 = ad484 := (by injection e484)
               replace hx484_0 := (HB.out.cell (World.block_lt_of_cell? w _ hx484_0)).trans hx484_0
               replace hx484_1 := (HB.out.cell (World.block_lt_of_cell? w _ hx484_1)).trans hx484_1
               replace p484 := eq_true p484
               replace q484 := eq_true q484
               go_wp2_with (first | (go_at_call 27; (with_reducible refine (curve_Bounds.calls k1 _ _ l0 a2 a3 t490 t491 t492 _ ?side1 ?side2 A60.out).mono ?_); (case side1 => repeat (first | exact (Kd.C_below HR0.out HB.out) | (with_reducible refine Kd.C_alloc ?_ _) | (with_reducible refine Kd.C_drewN ?_ _) | (with_reducible refine Kd.C_drew ?_))); (case side2 => exact HC0.out); rintro e w77 ⟨rfl, hb⟩; have n0_ := Aside0.mk (below_step (by repeat (first | (with_reducible first | exact HB.out | apply below_alloc | apply pw_below_drewN | apply below_drew1) | exact HB.out)) hb); clear HB; have HB := n0_; clear n0_; (try clear hb); (try clear hb2); (try clear hk); (try clear hi)) | ((with_reducible refine gate_dst (N := 14) rfl ?_); (try (refine gate_guard (by rfl) ?_; dsimp only)); refine box_event ?hg (N := 14) ?hd (cs := #[.int .i64 0, .int .i64 0]) (t := 46) ?hr ?_; (case hd => rfl); (case hg => rfl); (case hr => first | (go_simp; done) | (go_simp; rfl)); intro gb493 hg w78 hbox hb; have n0_ := Aside0.mk (below_step (by repeat (first | (with_reducible first | exact HB.out | apply below_alloc | apply pw_below_drewN | apply below_drew1) | exact HB.out)) hb); have n1_ := Aside0.mk (hbox); have n2_ := Aside0.mk ((by rw [hg]; exact (below_size (by repeat (first | (with_reducible first | exact HB.out | apply below_alloc | apply pw_below_drewN | apply below_drew1) | exact HB.out))) : w.heap.size ≤ gb493)); have n3_ := Aside0.mk ((by rw [hg]; exact (below_size (by repeat (first | (with_reducible first | exact HB.out | apply below_alloc | apply pw_below_drewN | apply below_drew1) | exact HB.out))) : w.heap.size ≤ gb493)); clear HB; have HB := n0_; have BK493 := n1_; have GW493 := n2_; have GE493 := n3_; clear n0_ n1_ n2_ n3_; clear hb hbox hg; have hcz79_0 : w78.cell? ⟨gb493, 0, none⟩ = some (.int .i64 0) := (blk_cell BK493.out 0).trans rfl; have hcz79_1 : w78.cell? ⟨gb493, 1, none⟩ = some (.int .i64 0) := (blk_cell BK493.out 1).trans rfl; have hfz79_0 := blk_frozen BK493.out 0; have hfz79_1 := blk_frozen BK493.out 1))
               repeat (go_quiet (first | (go_at_call 27; (with_reducible refine (curve_Bounds.calls k1 _ _ l0 a2 a3 t490 t491 t492 _ ?side1 ?side2 A60.out).mono ?_); (case side1 => repeat (first | exact (Kd.C_below HR0.out HB.out) | (with_reducible refine Kd.C_alloc ?_ _) | (with_reducible refine Kd.C_drewN ?_ _) | (with_reducible refine Kd.C_drew ?_))); (case side2 => exact HC0.out); rintro e w77 ⟨rfl, hb⟩; have n0_ := Aside0.mk (below_step (by repeat (first | (with_reducible first | exact HB.out | apply below_alloc | apply pw_below_drewN | apply below_drew1) | exact HB.out)) hb); clear HB; have HB := n0_; clear n0_; (try clear hb); (try clear hb2); (try clear hk); (try clear hi)) | ((with_reducible refine gate_dst (N := 14) rfl ?_); (try (refine gate_guard (by rfl) ?_; dsimp only)); refine box_event ?hg (N := 14) ?hd (cs := #[.int .i64 0, .int .i64 0]) (t := 46) ?hr ?_; (case hd => rfl); (case hg => rfl); (case hr => first | (go_simp; done) | (go_simp; rfl)); intro gb493 hg w78 hbox hb; have n0_ := Aside0.mk (below_step (by repeat (first | (with_reducible first | exact HB.out | apply below_alloc | apply pw_below_drewN | apply below_drew1) | exact HB.out)) hb); have n1_ := Aside0.mk (hbox); have n2_ := Aside0.mk ((by rw [hg]; exact (below_size (by repeat (first | (with_reducible first | exact HB.out | apply below_alloc | apply pw_below_drewN | apply below_drew1) | exact HB.out))) : w.heap.size ≤ gb493)); have n3_ := Aside0.mk ((by rw [hg]; exact (below_size (by repeat (first | (with_reducible first | exact HB.out | apply below_alloc | apply pw_below_drewN | apply below_drew1) | exact HB.out))) : w.heap.size ≤ gb493)); clear HB; have HB := n0_; have BK493 := n1_; have GW493 := n2_; have GE493 := n3_; clear n0_ n1_ n2_ n3_; clear hb hbox hg; have hcz79_0 : w78.cell? ⟨gb493, 0, none⟩ = some (.int .i64 0) := (blk_cell BK493.out 0).trans rfl; have hcz79_1 : w78.cell? ⟨gb493, 1, none⟩ = some (.int .i64 0) := (blk_cell BK493.out 1).trans rfl; have hfz79_0 := blk_frozen BK493.out 0; have hfz79_1 := blk_frozen BK493.out 1)); try go_wp2_with (first | (go_at_call 27; (with_reducible refine (curve_Bounds.calls k1 _ _ l0 a2 a3 t490 t491 t492 _ ?side1 ?side2 A60.out).mono ?_); (case side1 => repeat (first | exact (Kd.C_below HR0.out HB.out) | (with_reducible refine Kd.C_alloc ?_ _) | (with_reducible refine Kd.C_drewN ?_ _) | (with_reducible refine Kd.C_drew ?_))); (case side2 => exact HC0.out); rintro e w77 ⟨rfl, hb⟩; have n0_ := Aside0.mk (below_step (by repeat (first | (with_reducible first | exact HB.out | apply below_alloc | apply pw_below_drewN | apply below_drew1) | exact HB.out)) hb); clear HB; have HB := n0_; clear n0_; (try clear hb); (try clear hb2); (try clear hk); (try clear hi)) | ((with_reducible refine gate_dst (N := 14) rfl ?_); (try (refine gate_guard (by rfl) ?_; dsimp only)); refine box_event ?hg (N := 14) ?hd (cs := #[.int .i64 0, .int .i64 0]) (t := 46) ?hr ?_; (case hd => rfl); (case hg => rfl); (case hr => first | (go_simp; done) | (go_simp; rfl)); intro gb493 hg w78 hbox hb; have n0_ := Aside0.mk (below_step (by repeat (first | (with_reducible first | exact HB.out | apply below_alloc | apply pw_below_drewN | apply below_drew1) | exact HB.out)) hb); have n1_ := Aside0.mk (hbox); have n2_ := Aside0.mk ((by rw [hg]; exact (below_size (by repeat (first | (with_reducible first | exact HB.out | apply below_alloc | apply pw_below_drewN | apply below_drew1) | exact HB.out))) : w.heap.size ≤ gb493)); have n3_ := Aside0.mk ((by rw [hg]; exact (below_size (by repeat (first | (with_reducible first | exact HB.out | apply below_alloc | apply pw_below_drewN | apply below_drew1) | exact HB.out))) : w.heap.size ≤ gb493)); clear HB; have HB := n0_; have BK493 := n1_; have GW493 := n2_; have GE493 := n3_; clear n0_ n1_ n2_ n3_; clear hb hbox hg; have hcz79_0 : w78.cell? ⟨gb493, 0, none⟩ = some (.int .i64 0) := (blk_cell BK493.out 0).trans rfl; have hcz79_1 : w78.cell? ⟨gb493, 1, none⟩ = some (.int .i64 0) := (blk_cell BK493.out 1).trans rfl; have hfz79_0 := blk_frozen BK493.out 0; have hfz79_1 := blk_frozen BK493.out 1)))
               go_ret
               exact ⟨by first | rfl | (simp [errW_none, errW_some] <;> rfl) | (simp only [← hji35]; first | rfl | (simp [errW_none, errW_some] <;> rfl)) | (simp [*, errW_none, errW_some] <;> rfl), by repeat (first | (with_reducible first | exact HB.out | apply below_alloc | apply pw_below_drewN | apply below_drew1 | refine below_set ?_ GE493.out) | exact HB.out)⟩
            ·
             rw [if_neg c37] at H
             exact absurd H (by simp)
           ·
            rw [if_neg c36] at H
            exact absurd H (by simp)
          ·
           rw [if_neg c34] at H
           have c34b0 : (t480 == ((rd_T50 l0 0).f1)) = false := beq_eq_false_iff_ne.mpr c34
           have c34b1 : (t480 != ((rd_T50 l0 0).f1)) = true := bne_iff_ne.mpr c34
           obtain rfl := Option.some.inj H
           have p482 : 0 ≤ (0 : Int) := (by omega)
           have q482 : 0 < (l0.length : Int) := of_decide_eq_true (by first | (with_reducible assumption) | assumption)
           obtain ⟨ad482, e482, hx482_0, hx482_1⟩ := at_T50 HR0.out 0 p482 q482
           cases e482
           have qi482 : (0 < l0.length) = True := eq_true (by omega)
           (try rw [show ((0 : Int)).toNat = 0 from rfl] at hx482_0)
           (try rw [show 0 * 2 = 0 from rfl] at hx482_0)
           (try rw [Addr.add_zero'] at hx482_0)
           (try rw [show ((0 : Int)).toNat = 0 from rfl] at hx482_1)
           (try rw [show 0 * 2 = 0 from rfl] at hx482_1)
           (try rw [Addr.add_zero'] at hx482_1)
           replace hx482_0 := (HB.out.cell (World.block_lt_of_cell? w _ hx482_0)).trans hx482_0
           replace hx482_1 := (HB.out.cell (World.block_lt_of_cell? w _ hx482_1)).trans hx482_1
           replace p482 := eq_true p482
           replace q482 := eq_true q482
           have p483 : 0 ≤ (0 : Int) := (by omega)
           have q483 : 0 < (l0.length : Int) := of_decide_eq_true (by first | (with_reducible assumption) | assumption)
           obtain ⟨ad483, e483, hx483_0, hx483_1⟩ := at_T50 HR0.out 0 p483 q483
           obtain rfl : ad482 = ad483 := (by injection e483)
           have qi483 : (0 < l0.length) = True := eq_true (by omega)
           (try rw [show ((0 : Int)).toNat = 0 from rfl] at hx483_0)
           (try rw [show 0 * 2 = 0 from rfl] at hx483_0)
           (try rw [Addr.add_zero'] at hx483_0)
           (try rw [show ((0 : Int)).toNat = 0 from rfl] at hx483_1)
           (try rw [show 0 * 2 = 0 from rfl] at hx483_1)
           (try rw [Addr.add_zero'] at hx483_1)
           replace hx483_0 := (HB.out.cell (World.block_lt_of_cell? w _ hx483_0)).trans hx483_0
           replace hx483_1 := (HB.out.cell (World.block_lt_of_cell? w _ hx483_1)).trans hx483_1
           replace p483 := eq_true p483
           replace q483 := eq_true q483
           go_wp2
           repeat (go_quiet (fail); try go_wp2)
           go_ret
           exact ⟨by first | rfl | (simp [errW_none, errW_some] <;> rfl) | (simp [*, errW_none, errW_some] <;> rfl), by repeat (first | (with_reducible first | exact HB.out | apply below_alloc | apply pw_below_drewN | apply below_drew1) | exact HB.out)⟩
        ·
         as_aux_lemma =>
          rw [if_neg c33] at H
          have c33b0 : decide (a1 ≤ ((rd_T50 l0 0).f0)) = false := decide_eq_false c33
          clear c33
          obtain ⟨ji80, hji80⟩ : ∃ j_ : Int, (wrap64 ((l0.length : Int) - 1)) = j_ := ⟨_, rfl⟩
          replace H : (if 0 ≤ (ji80) then (if (ji80) < (l0.length : Int) then (if a1 ≥ ((rd_T50 l0 (ji80)).f0) then (if t480 = ((rd_T50 l0 (ji80)).f1) then ((curve_Bounds.f k1 l0 a2 a3).bind fun bt496 => (if bt496.2.2 = 0 then (if a1 < a2 then (some true) else (if a1 > a3 then (some true) else (if bt496.1 ≤ t480 then (some (decide (t480 ≤ bt496.2.1))) else (some false)))) else (some true))) else (some false)) else ((curve_Bounds.f k1 l0 a2 a3).bind fun bt500 => (if bt500.2.2 = 0 then (if a1 < a2 then (some true) else (if a1 > a3 then (some true) else (if bt500.1 ≤ t480 then (some (decide (t480 ≤ bt500.2.1))) else (some false)))) else (some true)))) else (none)) else (none)) = some r := by first | (rw [hji80] at H; exact H) | (simp only [hji80] at H ⊢; exact H)
          have hji80w : (IntKind.i64.wrap ((l0.length : Int) - 1)) = ji80 := (i64_w _).trans hji80
          by_cases c81 : 0 ≤ (ji80)
          ·
           rw [if_pos c81] at H
           have c81b0 : decide (0 ≤ (ji80)) = true := decide_eq_true c81
           clear c81
           by_cases c82 : (ji80) < (l0.length : Int)
           ·
            rw [if_pos c82] at H
            have c82b0 : decide ((ji80) < (l0.length : Int)) = true := decide_eq_true c82
            clear c82
            by_cases c83 : a1 ≥ ((rd_T50 l0 (ji80)).f0)
            ·
             rw [if_pos c83] at H
             have c83b0 : decide (((rd_T50 l0 (ji80)).f0) ≤ a1) = true := decide_eq_true c83
             clear c83
             by_cases c84 : t480 = ((rd_T50 l0 (ji80)).f1)
             ·
              as_aux_lemma =>
               rw [if_pos c84] at H
               have c84b0 : (t480 == ((rd_T50 l0 (ji80)).f1)) = true := beq_iff_eq.mpr c84
               have c84b1 : (t480 != ((rd_T50 l0 (ji80)).f1)) = false := bne_eq_false_iff_eq.mpr c84
               clear c84
               replace H := Option.bind_eq_some_iff.mp H
               obtain ⟨⟨t496, t497, t498⟩, A850, H⟩ := H
               replace H : (if t498 = 0 then (if a1 < a2 then (some true) else (if a1 > a3 then (some true) else (if t496 ≤ t480 then (some (decide (t480 ≤ t497))) else (some false)))) else (some true)) = some r := H
               have A85 := Aside0.mk A850
               clear A850
               by_cases c86 : t498 = 0
               ·
                rw [if_pos c86] at H
                have c86b0 : (t498 == 0) = true := beq_iff_eq.mpr c86
                have c86b1 : (t498 != 0) = false := bne_eq_false_iff_eq.mpr c86
                clear c86
                by_cases c87 : a1 < a2
                ·
                 rw [if_pos c87] at H
                 have c87b0 : decide (a1 < a2) = true := decide_eq_true c87
                 clear c87
                 obtain rfl := Option.some.inj H
                 have p482 : 0 ≤ (0 : Int) := (by omega)
                 have q482 : 0 < (l0.length : Int) := of_decide_eq_true (by first | (with_reducible assumption) | assumption)
                 obtain ⟨ad482, e482, hx482_0, hx482_1⟩ := at_T50 HR0.out 0 p482 q482
                 cases e482
                 have qi482 : (0 < l0.length) = True := eq_true (by omega)
                 (try rw [show ((0 : Int)).toNat = 0 from rfl] at hx482_0)
                 (try rw [show 0 * 2 = 0 from rfl] at hx482_0)
                 (try rw [Addr.add_zero'] at hx482_0)
                 (try rw [show ((0 : Int)).toNat = 0 from rfl] at hx482_1)
                 (try rw [show 0 * 2 = 0 from rfl] at hx482_1)
                 (try rw [Addr.add_zero'] at hx482_1)
                 replace hx482_0 := (HB.out.cell (World.block_lt_of_cell? w _ hx482_0)).trans hx482_0
                 replace hx482_1 := (HB.out.cell (World.block_lt_of_cell? w _ hx482_1)).trans hx482_1
                 replace p482 := eq_true p482
                 replace q482 := eq_true q482
                 have p494 : 0 ≤ ((ji80) : Int) := of_decide_eq_true (by first | (with_reducible assumption) | assumption)
                 have q494 : (ji80) < (l0.length : Int) := of_decide_eq_true (by first | (with_reducible assumption) | assumption)
                 obtain ⟨ad494, e494, hx494_0, hx494_1⟩ := at_T50 HR0.out (ji80) p494 q494
                 obtain rfl : ad482 = ad494 := (by injection e494)
                 replace hx494_0 := (HB.out.cell (World.block_lt_of_cell? w _ hx494_0)).trans hx494_0
                 replace hx494_1 := (HB.out.cell (World.block_lt_of_cell? w _ hx494_1)).trans hx494_1
                 replace p494 := eq_true p494
                 replace q494 := eq_true q494
                 have p495 : 0 ≤ ((ji80) : Int) := of_decide_eq_true (by first | (with_reducible assumption) | assumption)
                 have q495 : (ji80) < (l0.length : Int) := of_decide_eq_true (by first | (with_reducible assumption) | assumption)
                 obtain ⟨ad495, e495, hx495_0, hx495_1⟩ := at_T50 HR0.out (ji80) p495 q495
                 obtain rfl : ad482 = ad495 := (by injection e495)
                 replace hx495_0 := (HB.out.cell (World.block_lt_of_cell? w _ hx495_0)).trans hx495_0
                 replace hx495_1 := (HB.out.cell (World.block_lt_of_cell? w _ hx495_1)).trans hx495_1
                 replace p495 := eq_true p495
                 replace q495 := eq_true q495
                 go_wp2_with (first | (go_at_call 27; (with_reducible refine (curve_Bounds.calls k1 _ _ l0 a2 a3 t496 t497 t498 _ ?side1 ?side2 A85.out).mono ?_); (case side1 => repeat (first | exact (Kd.C_below HR0.out HB.out) | (with_reducible refine Kd.C_alloc ?_ _) | (with_reducible refine Kd.C_drewN ?_ _) | (with_reducible refine Kd.C_drew ?_))); (case side2 => exact HC0.out); rintro e w88 ⟨rfl, hb⟩; have n0_ := Aside0.mk (below_step (by repeat (first | (with_reducible first | exact HB.out | apply below_alloc | apply pw_below_drewN | apply below_drew1) | exact HB.out)) hb); clear HB; have HB := n0_; clear n0_; (try clear hb); (try clear hb2); (try clear hk); (try clear hi)) | ((with_reducible refine gate_dst (N := 14) rfl ?_); (try (refine gate_guard (by rfl) ?_; dsimp only)); refine box_event ?hg (N := 14) ?hd (cs := #[.int .i64 0, .int .i64 0]) (t := 46) ?hr ?_; (case hd => rfl); (case hg => rfl); (case hr => first | (go_simp; done) | (go_simp; rfl)); intro gb499 hg w89 hbox hb; have n0_ := Aside0.mk (below_step (by repeat (first | (with_reducible first | exact HB.out | apply below_alloc | apply pw_below_drewN | apply below_drew1) | exact HB.out)) hb); have n1_ := Aside0.mk (hbox); have n2_ := Aside0.mk ((by rw [hg]; exact (below_size (by repeat (first | (with_reducible first | exact HB.out | apply below_alloc | apply pw_below_drewN | apply below_drew1) | exact HB.out))) : w.heap.size ≤ gb499)); have n3_ := Aside0.mk ((by rw [hg]; exact (below_size (by repeat (first | (with_reducible first | exact HB.out | apply below_alloc | apply pw_below_drewN | apply below_drew1) | exact HB.out))) : w.heap.size ≤ gb499)); clear HB; have HB := n0_; have BK499 := n1_; have GW499 := n2_; have GE499 := n3_; clear n0_ n1_ n2_ n3_; clear hb hbox hg; have hcz90_0 : w89.cell? ⟨gb499, 0, none⟩ = some (.int .i64 0) := (blk_cell BK499.out 0).trans rfl; have hcz90_1 : w89.cell? ⟨gb499, 1, none⟩ = some (.int .i64 0) := (blk_cell BK499.out 1).trans rfl; have hfz90_0 := blk_frozen BK499.out 0; have hfz90_1 := blk_frozen BK499.out 1))
                 repeat (go_quiet (first | (go_at_call 27; (with_reducible refine (curve_Bounds.calls k1 _ _ l0 a2 a3 t496 t497 t498 _ ?side1 ?side2 A85.out).mono ?_); (case side1 => repeat (first | exact (Kd.C_below HR0.out HB.out) | (with_reducible refine Kd.C_alloc ?_ _) | (with_reducible refine Kd.C_drewN ?_ _) | (with_reducible refine Kd.C_drew ?_))); (case side2 => exact HC0.out); rintro e w88 ⟨rfl, hb⟩; have n0_ := Aside0.mk (below_step (by repeat (first | (with_reducible first | exact HB.out | apply below_alloc | apply pw_below_drewN | apply below_drew1) | exact HB.out)) hb); clear HB; have HB := n0_; clear n0_; (try clear hb); (try clear hb2); (try clear hk); (try clear hi)) | ((with_reducible refine gate_dst (N := 14) rfl ?_); (try (refine gate_guard (by rfl) ?_; dsimp only)); refine box_event ?hg (N := 14) ?hd (cs := #[.int .i64 0, .int .i64 0]) (t := 46) ?hr ?_; (case hd => rfl); (case hg => rfl); (case hr => first | (go_simp; done) | (go_simp; rfl)); intro gb499 hg w89 hbox hb; have n0_ := Aside0.mk (below_step (by repeat (first | (with_reducible first | exact HB.out | apply below_alloc | apply pw_below_drewN | apply below_drew1) | exact HB.out)) hb); have n1_ := Aside0.mk (hbox); have n2_ := Aside0.mk ((by rw [hg]; exact (below_size (by repeat (first | (with_reducible first | exact HB.out | apply below_alloc | apply pw_below_drewN | apply below_drew1) | exact HB.out))) : w.heap.size ≤ gb499)); have n3_ := Aside0.mk ((by rw [hg]; exact (below_size (by repeat (first | (with_reducible first | exact HB.out | apply below_alloc | apply pw_below_drewN | apply below_drew1) | exact HB.out))) : w.heap.size ≤ gb499)); clear HB; have HB := n0_; have BK499 := n1_; have GW499 := n2_; have GE499 := n3_; clear n0_ n1_ n2_ n3_; clear hb hbox hg; have hcz90_0 : w89.cell? ⟨gb499, 0, none⟩ = some (.int .i64 0) := (blk_cell BK499.out 0).trans rfl; have hcz90_1 : w89.cell? ⟨gb499, 1, none⟩ = some (.int .i64 0) := (blk_cell BK499.out 1).trans rfl; have hfz90_0 := blk_frozen BK499.out 0; have hfz90_1 := blk_frozen BK499.out 1)); try go_wp2_with (first | (go_at_call 27; (with_reducible refine (curve_Bounds.calls k1 _ _ l0 a2 a3 t496 t497 t498 _ ?side1 ?side2 A85.out).mono ?_); (case side1 => repeat (first | exact (Kd.C_below HR0.out HB.out) | (with_reducible refine Kd.C_alloc ?_ _) | (with_reducible refine Kd.C_drewN ?_ _) | (with_reducible refine Kd.C_drew ?_))); (case side2 => exact HC0.out); rintro e w88 ⟨rfl, hb⟩; have n0_ := Aside0.mk (below_step (by repeat (first | (with_reducible first | exact HB.out | apply below_alloc | apply pw_below_drewN | apply below_drew1) | exact HB.out)) hb); clear HB; have HB := n0_; clear n0_; (try clear hb); (try clear hb2); (try clear hk); (try clear hi)) | ((with_reducible refine gate_dst (N := 14) rfl ?_); (try (refine gate_guard (by rfl) ?_; dsimp only)); refine box_event ?hg (N := 14) ?hd (cs := #[.int .i64 0, .int .i64 0]) (t := 46) ?hr ?_; (case hd => rfl); (case hg => rfl); (case hr => first | (go_simp; done) | (go_simp; rfl)); intro gb499 hg w89 hbox hb; have n0_ := Aside0.mk (below_step (by repeat (first | (with_reducible first | exact HB.out | apply below_alloc | apply pw_below_drewN | apply below_drew1) | exact HB.out)) hb); have n1_ := Aside0.mk (hbox); have n2_ := Aside0.mk ((by rw [hg]; exact (below_size (by repeat (first | (with_reducible first | exact HB.out | apply below_alloc | apply pw_below_drewN | apply below_drew1) | exact HB.out))) : w.heap.size ≤ gb499)); have n3_ := Aside0.mk ((by rw [hg]; exact (below_size (by repeat (first | (with_reducible first | exact HB.out | apply below_alloc | apply pw_below_drewN | apply below_drew1) | exact HB.out))) : w.heap.size ≤ gb499)); clear HB; have HB := n0_; have BK499 := n1_; have GW499 := n2_; have GE499 := n3_; clear n0_ n1_ n2_ n3_; clear hb hbox hg; have hcz90_0 : w89.cell? ⟨gb499, 0, none⟩ = some (.int .i64 0) := (blk_cell BK499.out 0).trans rfl; have hcz90_1 : w89.cell? ⟨gb499, 1, none⟩ = some (.int .i64 0) := (blk_cell BK499.out 1).trans rfl; have hfz90_0 := blk_frozen BK499.out 0; have hfz90_1 := blk_frozen BK499.out 1)))
                 go_ret
                 exact ⟨by first | rfl | (simp [errW_none, errW_some] <;> rfl) | (simp only [← hji80]; first | rfl | (simp [errW_none, errW_some] <;> rfl)) | (simp [*, errW_none, errW_some] <;> rfl), by repeat (first | (with_reducible first | exact HB.out | apply below_alloc | apply pw_below_drewN | apply below_drew1 | refine below_set ?_ GE499.out) | exact HB.out)⟩
                ·
                 rw [if_neg c87] at H
                 have c87b0 : decide (a1 < a2) = false := decide_eq_false c87
                 clear c87
                 by_cases c91 : a1 > a3
                 ·
                  rw [if_pos c91] at H
                  have c91b0 : decide (a3 < a1) = true := decide_eq_true c91
                  clear c91
                  obtain rfl := Option.some.inj H
                  have p482 : 0 ≤ (0 : Int) := (by omega)
                  have q482 : 0 < (l0.length : Int) := of_decide_eq_true (by first | (with_reducible assumption) | assumption)
                  obtain ⟨ad482, e482, hx482_0, hx482_1⟩ := at_T50 HR0.out 0 p482 q482
                  cases e482
                  have qi482 : (0 < l0.length) = True := eq_true (by omega)
                  (try rw [show ((0 : Int)).toNat = 0 from rfl] at hx482_0)
                  (try rw [show 0 * 2 = 0 from rfl] at hx482_0)
                  (try rw [Addr.add_zero'] at hx482_0)
                  (try rw [show ((0 : Int)).toNat = 0 from rfl] at hx482_1)
                  (try rw [show 0 * 2 = 0 from rfl] at hx482_1)
                  (try rw [Addr.add_zero'] at hx482_1)
                  replace hx482_0 := (HB.out.cell (World.block_lt_of_cell? w _ hx482_0)).trans hx482_0
                  replace hx482_1 := (HB.out.cell (World.block_lt_of_cell? w _ hx482_1)).trans hx482_1
                  replace p482 := eq_true p482
                  replace q482 := eq_true q482
                  have p494 : 0 ≤ ((ji80) : Int) := of_decide_eq_true (by first | (with_reducible assumption) | assumption)
                  have q494 : (ji80) < (l0.length : Int) := of_decide_eq_true (by first | (with_reducible assumption) | assumption)
                  obtain ⟨ad494, e494, hx494_0, hx494_1⟩ := at_T50 HR0.out (ji80) p494 q494
                  obtain rfl : ad482 = ad494 := (by injection e494)
                  replace hx494_0 := (HB.out.cell (World.block_lt_of_cell? w _ hx494_0)).trans hx494_0
                  replace hx494_1 := (HB.out.cell (World.block_lt_of_cell? w _ hx494_1)).trans hx494_1
                  replace p494 := eq_true p494
                  replace q494 := eq_true q494
                  have p495 : 0 ≤ ((ji80) : Int) := of_decide_eq_true (by first | (with_reducible assumption) | assumption)
                  have q495 : (ji80) < (l0.length : Int) := of_decide_eq_true (by first | (with_reducible assumption) | assumption)
                  obtain ⟨ad495, e495, hx495_0, hx495_1⟩ := at_T50 HR0.out (ji80) p495 q495
                  obtain rfl : ad482 = ad495 := (by injection e495)
                  replace hx495_0 := (HB.out.cell (World.block_lt_of_cell? w _ hx495_0)).trans hx495_0
                  replace hx495_1 := (HB.out.cell (World.block_lt_of_cell? w _ hx495_1)).trans hx495_1
                  replace p495 := eq_true p495
                  replace q495 := eq_true q495
                  go_wp2_with (first | (go_at_call 27; (with_reducible refine (curve_Bounds.calls k1 _ _ l0 a2 a3 t496 t497 t498 _ ?side1 ?side2 A85.out).mono ?_); (case side1 => repeat (first | exact (Kd.C_below HR0.out HB.out) | (with_reducible refine Kd.C_alloc ?_ _) | (with_reducible refine Kd.C_drewN ?_ _) | (with_reducible refine Kd.C_drew ?_))); (case side2 => exact HC0.out); rintro e w92 ⟨rfl, hb⟩; have n0_ := Aside0.mk (below_step (by repeat (first | (with_reducible first | exact HB.out | apply below_alloc | apply pw_below_drewN | apply below_drew1) | exact HB.out)) hb); clear HB; have HB := n0_; clear n0_; (try clear hb); (try clear hb2); (try clear hk); (try clear hi)) | ((with_reducible refine gate_dst (N := 14) rfl ?_); (try (refine gate_guard (by rfl) ?_; dsimp only)); refine box_event ?hg (N := 14) ?hd (cs := #[.int .i64 0, .int .i64 0]) (t := 46) ?hr ?_; (case hd => rfl); (case hg => rfl); (case hr => first | (go_simp; done) | (go_simp; rfl)); intro gb499 hg w93 hbox hb; have n0_ := Aside0.mk (below_step (by repeat (first | (with_reducible first | exact HB.out | apply below_alloc | apply pw_below_drewN | apply below_drew1) | exact HB.out)) hb); have n1_ := Aside0.mk (hbox); have n2_ := Aside0.mk ((by rw [hg]; exact (below_size (by repeat (first | (with_reducible first | exact HB.out | apply below_alloc | apply pw_below_drewN | apply below_drew1) | exact HB.out))) : w.heap.size ≤ gb499)); have n3_ := Aside0.mk ((by rw [hg]; exact (below_size (by repeat (first | (with_reducible first | exact HB.out | apply below_alloc | apply pw_below_drewN | apply below_drew1) | exact HB.out))) : w.heap.size ≤ gb499)); clear HB; have HB := n0_; have BK499 := n1_; have GW499 := n2_; have GE499 := n3_; clear n0_ n1_ n2_ n3_; clear hb hbox hg; have hcz94_0 : w93.cell? ⟨gb499, 0, none⟩ = some (.int .i64 0) := (blk_cell BK499.out 0).trans rfl; have hcz94_1 : w93.cell? ⟨gb499, 1, none⟩ = some (.int .i64 0) := (blk_cell BK499.out 1).trans rfl; have hfz94_0 := blk_frozen BK499.out 0; have hfz94_1 := blk_frozen BK499.out 1))
                  repeat (go_quiet (first | (go_at_call 27; (with_reducible refine (curve_Bounds.calls k1 _ _ l0 a2 a3 t496 t497 t498 _ ?side1 ?side2 A85.out).mono ?_); (case side1 => repeat (first | exact (Kd.C_below HR0.out HB.out) | (with_reducible refine Kd.C_alloc ?_ _) | (with_reducible refine Kd.C_drewN ?_ _) | (with_reducible refine Kd.C_drew ?_))); (case side2 => exact HC0.out); rintro e w92 ⟨rfl, hb⟩; have n0_ := Aside0.mk (below_step (by repeat (first | (with_reducible first | exact HB.out | apply below_alloc | apply pw_below_drewN | apply below_drew1) | exact HB.out)) hb); clear HB; have HB := n0_; clear n0_; (try clear hb); (try clear hb2); (try clear hk); (try clear hi)) | ((with_reducible refine gate_dst (N := 14) rfl ?_); (try (refine gate_guard (by rfl) ?_; dsimp only)); refine box_event ?hg (N := 14) ?hd (cs := #[.int .i64 0, .int .i64 0]) (t := 46) ?hr ?_; (case hd => rfl); (case hg => rfl); (case hr => first | (go_simp; done) | (go_simp; rfl)); intro gb499 hg w93 hbox hb; have n0_ := Aside0.mk (below_step (by repeat (first | (with_reducible first | exact HB.out | apply below_alloc | apply pw_below_drewN | apply below_drew1) | exact HB.out)) hb); have n1_ := Aside0.mk (hbox); have n2_ := Aside0.mk ((by rw [hg]; exact (below_size (by repeat (first | (with_reducible first | exact HB.out | apply below_alloc | apply pw_below_drewN | apply below_drew1) | exact HB.out))) : w.heap.size ≤ gb499)); have n3_ := Aside0.mk ((by rw [hg]; exact (below_size (by repeat (first | (with_reducible first | exact HB.out | apply below_alloc | apply pw_below_drewN | apply below_drew1) | exact HB.out))) : w.heap.size ≤ gb499)); clear HB; have HB := n0_; have BK499 := n1_; have GW499 := n2_; have GE499 := n3_; clear n0_ n1_ n2_ n3_; clear hb hbox hg; have hcz94_0 : w93.cell? ⟨gb499, 0, none⟩ = some (.int .i64 0) := (blk_cell BK499.out 0).trans rfl; have hcz94_1 : w93.cell? ⟨gb499, 1, none⟩ = some (.int .i64 0) := (blk_cell BK499.out 1).trans rfl; have hfz94_0 := blk_frozen BK499.out 0; have hfz94_1 := blk_frozen BK499.out 1)); try go_wp2_with (first | (go_at_call 27; (with_reducible refine (curve_Bounds.calls k1 _ _ l0 a2 a3 t496 t497 t498 _ ?side1 ?side2 A85.out).mono ?_); (case side1 => repeat (first | exact (Kd.C_below HR0.out HB.out) | (with_reducible refine Kd.C_alloc ?_ _) | (with_reducible refine Kd.C_drewN ?_ _) | (with_reducible refine Kd.C_drew ?_))); (case side2 => exact HC0.out); rintro e w92 ⟨rfl, hb⟩; have n0_ := Aside0.mk (below_step (by repeat (first | (with_reducible first | exact HB.out | apply below_alloc | apply pw_below_drewN | apply below_drew1) | exact HB.out)) hb); clear HB; have HB := n0_; clear n0_; (try clear hb); (try clear hb2); (try clear hk); (try clear hi)) | ((with_reducible refine gate_dst (N := 14) rfl ?_); (try (refine gate_guard (by rfl) ?_; dsimp only)); refine box_event ?hg (N := 14) ?hd (cs := #[.int .i64 0, .int .i64 0]) (t := 46) ?hr ?_; (case hd => rfl); (case hg => rfl); (case hr => first | (go_simp; done) | (go_simp; rfl)); intro gb499 hg w93 hbox hb; have n0_ := Aside0.mk (below_step (by repeat (first | (with_reducible first | exact HB.out | apply below_alloc | apply pw_below_drewN | apply below_drew1) | exact HB.out)) hb); have n1_ := Aside0.mk (hbox); have n2_ := Aside0.mk ((by rw [hg]; exact (below_size (by repeat (first | (with_reducible first | exact HB.out | apply below_alloc | apply pw_below_drewN | apply below_drew1) | exact HB.out))) : w.heap.size ≤ gb499)); have n3_ := Aside0.mk ((by rw [hg]; exact (below_size (by repeat (first | (with_reducible first | exact HB.out | apply below_alloc | apply pw_below_drewN | apply below_drew1) | exact HB.out))) : w.heap.size ≤ gb499)); clear HB; have HB := n0_; have BK499 := n1_; have GW499 := n2_; have GE499 := n3_; clear n0_ n1_ n2_ n3_; clear hb hbox hg; have hcz94_0 : w93.cell? ⟨gb499, 0, none⟩ = some (.int .i64 0) := (blk_cell BK499.out 0).trans rfl; have hcz94_1 : w93.cell? ⟨gb499, 1, none⟩ = some (.int .i64 0) := (blk_cell BK499.out 1).trans rfl; have hfz94_0 := blk_frozen BK499.out 0; have hfz94_1 := blk_frozen BK499.out 1)))
                  go_ret
                  exact ⟨by first | rfl | (simp [errW_none, errW_some] <;> rfl) | (simp only [← hji80]; first | rfl | (simp [errW_none, errW_some] <;> rfl)) | (simp [*, errW_none, errW_some] <;> rfl), by repeat (first | (with_reducible first | exact HB.out | apply below_alloc | apply pw_below_drewN | apply below_drew1 | refine below_set ?_ GE499.out) | exact HB.out)⟩
                 ·
                  rw [if_neg c91] at H
                  have c91b0 : decide (a3 < a1) = false := decide_eq_false c91
                  clear c91
                  by_cases c95 : t496 ≤ t480
                  ·
                   rw [if_pos c95] at H
                   have c95b0 : decide (t496 ≤ t480) = true := decide_eq_true c95
                   clear c95
                   obtain rfl := Option.some.inj H
                   have p482 : 0 ≤ (0 : Int) := (by omega)
                   have q482 : 0 < (l0.length : Int) := of_decide_eq_true (by first | (with_reducible assumption) | assumption)
                   obtain ⟨ad482, e482, hx482_0, hx482_1⟩ := at_T50 HR0.out 0 p482 q482
                   cases e482
                   have qi482 : (0 < l0.length) = True := eq_true (by omega)
                   (try rw [show ((0 : Int)).toNat = 0 from rfl] at hx482_0)
                   (try rw [show 0 * 2 = 0 from rfl] at hx482_0)
                   (try rw [Addr.add_zero'] at hx482_0)
                   (try rw [show ((0 : Int)).toNat = 0 from rfl] at hx482_1)
                   (try rw [show 0 * 2 = 0 from rfl] at hx482_1)
                   (try rw [Addr.add_zero'] at hx482_1)
                   replace hx482_0 := (HB.out.cell (World.block_lt_of_cell? w _ hx482_0)).trans hx482_0
                   replace hx482_1 := (HB.out.cell (World.block_lt_of_cell? w _ hx482_1)).trans hx482_1
                   replace p482 := eq_true p482
                   replace q482 := eq_true q482
                   have p494 : 0 ≤ ((ji80) : Int) := of_decide_eq_true (by first | (with_reducible assumption) | assumption)
                   have q494 : (ji80) < (l0.length : Int) := of_decide_eq_true (by first | (with_reducible assumption) | assumption)
                   obtain ⟨ad494, e494, hx494_0, hx494_1⟩ := at_T50 HR0.out (ji80) p494 q494
                   obtain rfl : ad482 = ad494 := (by injection e494)
                   replace hx494_0 := (HB.out.cell (World.block_lt_of_cell? w _ hx494_0)).trans hx494_0
                   replace hx494_1 := (HB.out.cell (World.block_lt_of_cell? w _ hx494_1)).trans hx494_1
                   replace p494 := eq_true p494
                   replace q494 := eq_true q494
                   have p495 : 0 ≤ ((ji80) : Int) := of_decide_eq_true (by first | (with_reducible assumption) | assumption)
                   have q495 : (ji80) < (l0.length : Int) := of_decide_eq_true (by first | (with_reducible assumption) | assumption)
                   obtain ⟨ad495, e495, hx495_0, hx495_1⟩ := at_T50 HR0.out (ji80) p495 q495
                   obtain rfl : ad482 = ad495 := (by injection e495)
                   replace hx495_0 := (HB.out.cell (World.block_lt_of_cell? w _ hx495_0)).trans hx495_0
                   replace hx495_1 := (HB.out.cell (World.block_lt_of_cell? w _ hx495_1)).trans hx495_1
                   replace p495 := eq_true p495
                   replace q495 := eq_true q495
                   go_wp2_with (first | (go_at_call 27; (with_reducible refine (curve_Bounds.calls k1 _ _ l0 a2 a3 t496 t497 t498 _ ?side1 ?side2 A85.out).mono ?_); (case side1 => repeat (first | exact (Kd.C_below HR0.out HB.out) | (with_reducible refine Kd.C_alloc ?_ _) | (with_reducible refine Kd.C_drewN ?_ _) | (with_reducible refine Kd.C_drew ?_))); (case side2 => exact HC0.out); rintro e w96 ⟨rfl, hb⟩; have n0_ := Aside0.mk (below_step (by repeat (first | (with_reducible first | exact HB.out | apply below_alloc | apply pw_below_drewN | apply below_drew1) | exact HB.out)) hb); clear HB; have HB := n0_; clear n0_; (try clear hb); (try clear hb2); (try clear hk); (try clear hi)) | ((with_reducible refine gate_dst (N := 14) rfl ?_); (try (refine gate_guard (by rfl) ?_; dsimp only)); refine box_event ?hg (N := 14) ?hd (cs := #[.int .i64 0, .int .i64 0]) (t := 46) ?hr ?_; (case hd => rfl); (case hg => rfl); (case hr => first | (go_simp; done) | (go_simp; rfl)); intro gb499 hg w97 hbox hb; have n0_ := Aside0.mk (below_step (by repeat (first | (with_reducible first | exact HB.out | apply below_alloc | apply pw_below_drewN | apply below_drew1) | exact HB.out)) hb); have n1_ := Aside0.mk (hbox); have n2_ := Aside0.mk ((by rw [hg]; exact (below_size (by repeat (first | (with_reducible first | exact HB.out | apply below_alloc | apply pw_below_drewN | apply below_drew1) | exact HB.out))) : w.heap.size ≤ gb499)); have n3_ := Aside0.mk ((by rw [hg]; exact (below_size (by repeat (first | (with_reducible first | exact HB.out | apply below_alloc | apply pw_below_drewN | apply below_drew1) | exact HB.out))) : w.heap.size ≤ gb499)); clear HB; have HB := n0_; have BK499 := n1_; have GW499 := n2_; have GE499 := n3_; clear n0_ n1_ n2_ n3_; clear hb hbox hg; have hcz98_0 : w97.cell? ⟨gb499, 0, none⟩ = some (.int .i64 0) := (blk_cell BK499.out 0).trans rfl; have hcz98_1 : w97.cell? ⟨gb499, 1, none⟩ = some (.int .i64 0) := (blk_cell BK499.out 1).trans rfl; have hfz98_0 := blk_frozen BK499.out 0; have hfz98_1 := blk_frozen BK499.out 1))
                   repeat (go_quiet (first | (go_at_call 27; (with_reducible refine (curve_Bounds.calls k1 _ _ l0 a2 a3 t496 t497 t498 _ ?side1 ?side2 A85.out).mono ?_); (case side1 => repeat (first | exact (Kd.C_below HR0.out HB.out) | (with_reducible refine Kd.C_alloc ?_ _) | (with_reducible refine Kd.C_drewN ?_ _) | (with_reducible refine Kd.C_drew ?_))); (case side2 => exact HC0.out); rintro e w96 ⟨rfl, hb⟩; have n0_ := Aside0.mk (below_step (by repeat (first | (with_reducible first | exact HB.out | apply below_alloc | apply pw_below_drewN | apply below_drew1) | exact HB.out)) hb); clear HB; have HB := n0_; clear n0_; (try clear hb); (try clear hb2); (try clear hk); (try clear hi)) | ((with_reducible refine gate_dst (N := 14) rfl ?_); (try (refine gate_guard (by rfl) ?_; dsimp only)); refine box_event ?hg (N := 14) ?hd (cs := #[.int .i64 0, .int .i64 0]) (t := 46) ?hr ?_; (case hd => rfl); (case hg => rfl); (case hr => first | (go_simp; done) | (go_simp; rfl)); intro gb499 hg w97 hbox hb; have n0_ := Aside0.mk (below_step (by repeat (first | (with_reducible first | exact HB.out | apply below_alloc | apply pw_below_drewN | apply below_drew1) | exact HB.out)) hb); have n1_ := Aside0.mk (hbox); have n2_ := Aside0.mk ((by rw [hg]; exact (below_size (by repeat (first | (with_reducible first | exact HB.out | apply below_alloc | apply pw_below_drewN | apply below_drew1) | exact HB.out))) : w.heap.size ≤ gb499)); have n3_ := Aside0.mk ((by rw [hg]; exact (below_size (by repeat (first | (with_reducible first | exact HB.out | apply below_alloc | apply pw_below_drewN | apply below_drew1) | exact HB.out))) : w.heap.size ≤ gb499)); clear HB; have HB := n0_; have BK499 := n1_; have GW499 := n2_; have GE499 := n3_; clear n0_ n1_ n2_ n3_; clear hb hbox hg; have hcz98_0 : w97.cell? ⟨gb499, 0, none⟩ = some (.int .i64 0) := (blk_cell BK499.out 0).trans rfl; have hcz98_1 : w97.cell? ⟨gb499, 1, none⟩ = some (.int .i64 0) := (blk_cell BK499.out 1).trans rfl; have hfz98_0 := blk_frozen BK499.out 0; have hfz98_1 := blk_frozen BK499.out 1)); try go_wp2_with (first | (go_at_call 27; (with_reducible refine (curve_Bounds.calls k1 _ _ l0 a2 a3 t496 t497 t498 _ ?side1 ?side2 A85.out).mono ?_); (case side1 => repeat (first | exact (Kd.C_below HR0.out HB.out) | (with_reducible refine Kd.C_alloc ?_ _) | (with_reducible refine Kd.C_drewN ?_ _) | (with_reducible refine Kd.C_drew ?_))); (case side2 => exact HC0.out); rintro e w96 ⟨rfl, hb⟩; have n0_ := Aside0.mk (below_step (by repeat (first | (with_reducible first | exact HB.out | apply below_alloc | apply pw_below_drewN | apply below_drew1) | exact HB.out)) hb); clear HB; have HB := n0_; clear n0_; (try clear hb); (try clear hb2); (try clear hk); (try clear hi)) | ((with_reducible refine gate_dst (N := 14) rfl ?_); (try (refine gate_guard (by rfl) ?_; dsimp only)); refine box_event ?hg (N := 14) ?hd (cs := #[.int .i64 0, .int .i64 0]) (t := 46) ?hr ?_; (case hd => rfl); (case hg => rfl); (case hr => first | (go_simp; done) | (go_simp; rfl)); intro gb499 hg w97 hbox hb; have n0_ := Aside0.mk (below_step (by repeat (first | (with_reducible first | exact HB.out | apply below_alloc | apply pw_below_drewN | apply below_drew1) | exact HB.out)) hb); have n1_ := Aside0.mk (hbox); have n2_ := Aside0.mk ((by rw [hg]; exact (below_size (by repeat (first | (with_reducible first | exact HB.out | apply below_alloc | apply pw_below_drewN | apply below_drew1) | exact HB.out))) : w.heap.size ≤ gb499)); have n3_ := Aside0.mk ((by rw [hg]; exact (below_size (by repeat (first | (with_reducible first | exact HB.out | apply below_alloc | apply pw_below_drewN | apply below_drew1) | exact HB.out))) : w.heap.size ≤ gb499)); clear HB; have HB := n0_; have BK499 := n1_; have GW499 := n2_; have GE499 := n3_; clear n0_ n1_ n2_ n3_; clear hb hbox hg; have hcz98_0 : w97.cell? ⟨gb499, 0, none⟩ = some (.int .i64 0) := (blk_cell BK499.out 0).trans rfl; have hcz98_1 : w97.cell? ⟨gb499, 1, none⟩ = some (.int .i64 0) := (blk_cell BK499.out 1).trans rfl; have hfz98_0 := blk_frozen BK499.out 0; have hfz98_1 := blk_frozen BK499.out 1)))
                   go_ret
                   exact ⟨by first | rfl | (simp [errW_none, errW_some] <;> rfl) | (simp only [← hji80]; first | rfl | (simp [errW_none, errW_some] <;> rfl)) | (simp [*, errW_none, errW_some] <;> rfl), by repeat (first | (with_reducible first | exact HB.out | apply below_alloc | apply pw_below_drewN | apply below_drew1 | refine below_set ?_ GE499.out) | exact HB.out)⟩
                  ·
                   rw [if_neg c95] at H
                   have c95b0 : decide (t496 ≤ t480) = false := decide_eq_false c95
                   clear c95
                   obtain rfl := Option.some.inj H
                   have p482 : 0 ≤ (0 : Int) := (by omega)
                   have q482 : 0 < (l0.length : Int) := of_decide_eq_true (by first | (with_reducible assumption) | assumption)
                   obtain ⟨ad482, e482, hx482_0, hx482_1⟩ := at_T50 HR0.out 0 p482 q482
                   cases e482
                   have qi482 : (0 < l0.length) = True := eq_true (by omega)
                   (try rw [show ((0 : Int)).toNat = 0 from rfl] at hx482_0)
                   (try rw [show 0 * 2 = 0 from rfl] at hx482_0)
                   (try rw [Addr.add_zero'] at hx482_0)
                   (try rw [show ((0 : Int)).toNat = 0 from rfl] at hx482_1)
                   (try rw [show 0 * 2 = 0 from rfl] at hx482_1)
                   (try rw [Addr.add_zero'] at hx482_1)
                   replace hx482_0 := (HB.out.cell (World.block_lt_of_cell? w _ hx482_0)).trans hx482_0
                   replace hx482_1 := (HB.out.cell (World.block_lt_of_cell? w _ hx482_1)).trans hx482_1
                   replace p482 := eq_true p482
                   replace q482 := eq_true q482
                   have p494 : 0 ≤ ((ji80) : Int) := of_decide_eq_true (by first | (with_reducible assumption) | assumption)
                   have q494 : (ji80) < (l0.length : Int) := of_decide_eq_true (by first | (with_reducible assumption) | assumption)
                   obtain ⟨ad494, e494, hx494_0, hx494_1⟩ := at_T50 HR0.out (ji80) p494 q494
                   obtain rfl : ad482 = ad494 := (by injection e494)
                   replace hx494_0 := (HB.out.cell (World.block_lt_of_cell? w _ hx494_0)).trans hx494_0
                   replace hx494_1 := (HB.out.cell (World.block_lt_of_cell? w _ hx494_1)).trans hx494_1
                   replace p494 := eq_true p494
                   replace q494 := eq_true q494
                   have p495 : 0 ≤ ((ji80) : Int) := of_decide_eq_true (by first | (with_reducible assumption) | assumption)
                   have q495 : (ji80) < (l0.length : Int) := of_decide_eq_true (by first | (with_reducible assumption) | assumption)
                   obtain ⟨ad495, e495, hx495_0, hx495_1⟩ := at_T50 HR0.out (ji80) p495 q495
                   obtain rfl : ad482 = ad495 := (by injection e495)
                   replace hx495_0 := (HB.out.cell (World.block_lt_of_cell? w _ hx495_0)).trans hx495_0
                   replace hx495_1 := (HB.out.cell (World.block_lt_of_cell? w _ hx495_1)).trans hx495_1
                   replace p495 := eq_true p495
                   replace q495 := eq_true q495
                   go_wp2_with (first | (go_at_call 27; (with_reducible refine (curve_Bounds.calls k1 _ _ l0 a2 a3 t496 t497 t498 _ ?side1 ?side2 A85.out).mono ?_); (case side1 => repeat (first | exact (Kd.C_below HR0.out HB.out) | (with_reducible refine Kd.C_alloc ?_ _) | (with_reducible refine Kd.C_drewN ?_ _) | (with_reducible refine Kd.C_drew ?_))); (case side2 => exact HC0.out); rintro e w99 ⟨rfl, hb⟩; have n0_ := Aside0.mk (below_step (by repeat (first | (with_reducible first | exact HB.out | apply below_alloc | apply pw_below_drewN | apply below_drew1) | exact HB.out)) hb); clear HB; have HB := n0_; clear n0_; (try clear hb); (try clear hb2); (try clear hk); (try clear hi)) | ((with_reducible refine gate_dst (N := 14) rfl ?_); (try (refine gate_guard (by rfl) ?_; dsimp only)); refine box_event ?hg (N := 14) ?hd (cs := #[.int .i64 0, .int .i64 0]) (t := 46) ?hr ?_; (case hd => rfl); (case hg => rfl); (case hr => first | (go_simp; done) | (go_simp; rfl)); intro gb499 hg w100 hbox hb; have n0_ := Aside0.mk (below_step (by repeat (first | (with_reducible first | exact HB.out | apply below_alloc | apply pw_below_drewN | apply below_drew1) | exact HB.out)) hb); have n1_ := Aside0.mk (hbox); have n2_ := Aside0.mk ((by rw [hg]; exact (below_size (by repeat (first | (with_reducible first | exact HB.out | apply below_alloc | apply pw_below_drewN | apply below_drew1) | exact HB.out))) : w.heap.size ≤ gb499)); have n3_ := Aside0.mk ((by rw [hg]; exact (below_size (by repeat (first | (with_reducible first | exact HB.out | apply below_alloc | apply pw_below_drewN | apply below_drew1) | exact HB.out))) : w.heap.size ≤ gb499)); clear HB; have HB := n0_; have BK499 := n1_; have GW499 := n2_; have GE499 := n3_; clear n0_ n1_ n2_ n3_; clear hb hbox hg; have hcz101_0 : w100.cell? ⟨gb499, 0, none⟩ = some (.int .i64 0) := (blk_cell BK499.out 0).trans rfl; have hcz101_1 : w100.cell? ⟨gb499, 1, none⟩ = some (.int .i64 0) := (blk_cell BK499.out 1).trans rfl; have hfz101_0 := blk_frozen BK499.out 0; have hfz101_1 := blk_frozen BK499.out 1))
                   repeat (go_quiet (first | (go_at_call 27; (with_reducible refine (curve_Bounds.calls k1 _ _ l0 a2 a3 t496 t497 t498 _ ?side1 ?side2 A85.out).mono ?_); (case side1 => repeat (first | exact (Kd.C_below HR0.out HB.out) | (with_reducible refine Kd.C_alloc ?_ _) | (with_reducible refine Kd.C_drewN ?_ _) | (with_reducible refine Kd.C_drew ?_))); (case side2 => exact HC0.out); rintro e w99 ⟨rfl, hb⟩; have n0_ := Aside0.mk (below_step (by repeat (first | (with_reducible first | exact HB.out | apply below_alloc | apply pw_below_drewN | apply below_drew1) | exact HB.out)) hb); clear HB; have HB := n0_; clear n0_; (try clear hb); (try clear hb2); (try clear hk); (try clear hi)) | ((with_reducible refine gate_dst (N := 14) rfl ?_); (try (refine gate_guard (by rfl) ?_; dsimp only)); refine box_event ?hg (N := 14) ?hd (cs := #[.int .i64 0, .int .i64 0]) (t := 46) ?hr ?_; (case hd => rfl); (case hg => rfl); (case hr => first | (go_simp; done) | (go_simp; rfl)); intro gb499 hg w100 hbox hb; have n0_ := Aside0.mk (below_step (by repeat (first | (with_reducible first | exact HB.out | apply below_alloc | apply pw_below_drewN | apply below_drew1) | exact HB.out)) hb); have n1_ := Aside0.mk (hbox); have n2_ := Aside0.mk ((by rw [hg]; exact (below_size (by repeat (first | (with_reducible first | exact HB.out | apply below_alloc | apply pw_below_drewN | apply below_drew1) | exact HB.out))) : w.heap.size ≤ gb499)); have n3_ := Aside0.mk ((by rw [hg]; exact (below_size (by repeat (first | (with_reducible first | exact HB.out | apply below_alloc | apply pw_below_drewN | apply below_drew1) | exact HB.out))) : w.heap.size ≤ gb499)); clear HB; have HB := n0_; have BK499 := n1_; have GW499 := n2_; have GE499 := n3_; clear n0_ n1_ n2_ n3_; clear hb hbox hg; have hcz101_0 : w100.cell? ⟨gb499, 0, none⟩ = some (.int .i64 0) := (blk_cell BK499.out 0).trans rfl; have hcz101_1 : w100.cell? ⟨gb499, 1, none⟩ = some (.int .i64 0) := (blk_cell BK499.out 1).trans rfl; have hfz101_0 := blk_frozen BK499.out 0; have hfz101_1 := blk_frozen BK499.out 1)); try go_wp2_with (first | (go_at_call 27; (with_reducible refine (curve_Bounds.calls k1 _ _ l0 a2 a3 t496 t497 t498 _ ?side1 ?side2 A85.out).mono ?_); (case side1 => repeat (first | exact (Kd.C_below HR0.out HB.out) | (with_reducible refine Kd.C_alloc ?_ _) | (with_reducible refine Kd.C_drewN ?_ _) | (with_reducible refine Kd.C_drew ?_))); (case side2 => exact HC0.out); rintro e w99 ⟨rfl, hb⟩; have n0_ := Aside0.mk (below_step (by repeat (first | (with_reducible first | exact HB.out | apply below_alloc | apply pw_below_drewN | apply below_drew1) | exact HB.out)) hb); clear HB; have HB := n0_; clear n0_; (try clear hb); (try clear hb2); (try clear hk); (try clear hi)) | ((with_reducible refine gate_dst (N := 14) rfl ?_); (try (refine gate_guard (by rfl) ?_; dsimp only)); refine box_event ?hg (N := 14) ?hd (cs := #[.int .i64 0, .int .i64 0]) (t := 46) ?hr ?_; (case hd => rfl); (case hg => rfl); (case hr => first | (go_simp; done) | (go_simp; rfl)); intro gb499 hg w100 hbox hb; have n0_ := Aside0.mk (below_step (by repeat (first | (with_reducible first | exact HB.out | apply below_alloc | apply pw_below_drewN | apply below_drew1) | exact HB.out)) hb); have n1_ := Aside0.mk (hbox); have n2_ := Aside0.mk ((by rw [hg]; exact (below_size (by repeat (first | (with_reducible first | exact HB.out | apply below_alloc | apply pw_below_drewN | apply below_drew1) | exact HB.out))) : w.heap.size ≤ gb499)); have n3_ := Aside0.mk ((by rw [hg]; exact (below_size (by repeat (first | (with_reducible first | exact HB.out | apply below_alloc | apply pw_below_drewN | apply below_drew1) | exact HB.out))) : w.heap.size ≤ gb499)); clear HB; have HB := n0_; have BK499 := n1_; have GW499 := n2_; have GE499 := n3_; clear n0_ n1_ n2_ n3_; clear hb hbox hg; have hcz101_0 : w100.cell? ⟨gb499, 0, none⟩ = some (.int .i64 0) := (blk_cell BK499.out 0).trans rfl; have hcz101_1 : w100.cell? ⟨gb499, 1, none⟩ = some (.int .i64 0) := (blk_cell BK499.out 1).trans rfl; have hfz101_0 := blk_frozen BK499.out 0; have hfz101_1 := blk_frozen BK499.out 1)))
                   go_ret
                   exact ⟨by first | rfl | (simp [errW_none, errW_some] <;> rfl) | (simp only [← hji80]; first | rfl | (simp [errW_none, errW_some] <;> rfl)) | (simp [*, errW_none, errW_some] <;> rfl), by repeat (first | (with_reducible first | exact HB.out | apply below_alloc | apply pw_below_drewN | apply below_drew1 | refine below_set ?_ GE499.out) | exact HB.out)⟩
               ·
                rw [if_neg c86] at H
                have c86b0 : (t498 == 0) = false := beq_eq_false_iff_ne.mpr c86
                have c86b1 : (t498 != 0) = true := bne_iff_ne.mpr c86
                obtain rfl := Option.some.inj H
                have p482 : 0 ≤ (0 : Int) := (by omega)
                have q482 : 0 < (l0.length : Int) := of_decide_eq_true (by first | (with_reducible assumption) | assumption)
                obtain ⟨ad482, e482, hx482_0, hx482_1⟩ := at_T50 HR0.out 0 p482 q482
                cases e482
                have qi482 : (0 < l0.length) = True := eq_true (by omega)
                (try rw [show ((0 : Int)).toNat = 0 from rfl] at hx482_0)
                (try rw [show 0 * 2 = 0 from rfl] at hx482_0)
                (try rw [Addr.add_zero'] at hx482_0)
                (try rw [show ((0 : Int)).toNat = 0 from rfl] at hx482_1)
                (try rw [show 0 * 2 = 0 from rfl] at hx482_1)
                (try rw [Addr.add_zero'] at hx482_1)
                replace hx482_0 := (HB.out.cell (World.block_lt_of_cell? w _ hx482_0)).trans hx482_0
                replace hx482_1 := (HB.out.cell (World.block_lt_of_cell? w _ hx482_1)).trans hx482_1
                replace p482 := eq_true p482
                replace q482 := eq_true q482
                have p494 : 0 ≤ ((ji80) : Int) := of_decide_eq_true (by first | (with_reducible assumption) | assumption)
                have q494 : (ji80) < (l0.length : Int) := of_decide_eq_true (by first | (with_reducible assumption) | assumption)
                obtain ⟨ad494, e494, hx494_0, hx494_1⟩ := at_T50 HR0.out (ji80) p494 q494
                obtain rfl : ad482 = ad494 := (by injection e494)
                replace hx494_0 := (HB.out.cell (World.block_lt_of_cell? w _ hx494_0)).trans hx494_0
                replace hx494_1 := (HB.out.cell (World.block_lt_of_cell? w _ hx494_1)).trans hx494_1
                replace p494 := eq_true p494
                replace q494 := eq_true q494
                have p495 : 0 ≤ ((ji80) : Int) := of_decide_eq_true (by first | (with_reducible assumption) | assumption)
                have q495 : (ji80) < (l0.length : Int) := of_decide_eq_true (by first | (with_reducible assumption) | assumption)
                obtain ⟨ad495, e495, hx495_0, hx495_1⟩ := at_T50 HR0.out (ji80) p495 q495
                obtain rfl : ad482 = ad495 := (by injection e495)
                replace hx495_0 := (HB.out.cell (World.block_lt_of_cell? w _ hx495_0)).trans hx495_0
                replace hx495_1 := (HB.out.cell (World.block_lt_of_cell? w _ hx495_1)).trans hx495_1
                replace p495 := eq_true p495
                replace q495 := eq_true q495
                go_wp2_with (first | (go_at_call 27; (with_reducible refine (curve_Bounds.calls k1 _ _ l0 a2 a3 t496 t497 t498 _ ?side1 ?side2 A85.out).mono ?_); (case side1 => repeat (first | exact (Kd.C_below HR0.out HB.out) | (with_reducible refine Kd.C_alloc ?_ _) | (with_reducible refine Kd.C_drewN ?_ _) | (with_reducible refine Kd.C_drew ?_))); (case side2 => exact HC0.out); rintro e w102 ⟨rfl, hb⟩; have n0_ := Aside0.mk (below_step (by repeat (first | (with_reducible first | exact HB.out | apply below_alloc | apply pw_below_drewN | apply below_drew1) | exact HB.out)) hb); clear HB; have HB := n0_; clear n0_; (try clear hb); (try clear hb2); (try clear hk); (try clear hi)) | ((with_reducible refine gate_dst (N := 14) rfl ?_); (try (refine gate_guard (by rfl) ?_; dsimp only)); refine box_event ?hg (N := 14) ?hd (cs := #[.int .i64 0, .int .i64 0]) (t := 46) ?hr ?_; (case hd => rfl); (case hg => rfl); (case hr => first | (go_simp; done) | (go_simp; rfl)); intro gb499 hg w103 hbox hb; have n0_ := Aside0.mk (below_step (by repeat (first | (with_reducible first | exact HB.out | apply below_alloc | apply pw_below_drewN | apply below_drew1) | exact HB.out)) hb); have n1_ := Aside0.mk (hbox); have n2_ := Aside0.mk ((by rw [hg]; exact (below_size (by repeat (first | (with_reducible first | exact HB.out | apply below_alloc | apply pw_below_drewN | apply below_drew1) | exact HB.out))) : w.heap.size ≤ gb499)); have n3_ := Aside0.mk ((by rw [hg]; exact (below_size (by repeat (first | (with_reducible first | exact HB.out | apply below_alloc | apply pw_below_drewN | apply below_drew1) | exact HB.out))) : w.heap.size ≤ gb499)); clear HB; have HB := n0_; have BK499 := n1_; have GW499 := n2_; have GE499 := n3_; clear n0_ n1_ n2_ n3_; clear hb hbox hg; have hcz104_0 : w103.cell? ⟨gb499, 0, none⟩ = some (.int .i64 0) := (blk_cell BK499.out 0).trans rfl; have hcz104_1 : w103.cell? ⟨gb499, 1, none⟩ = some (.int .i64 0) := (blk_cell BK499.out 1).trans rfl; have hfz104_0 := blk_frozen BK499.out 0; have hfz104_1 := blk_frozen BK499.out 1))
                repeat (go_quiet (first | (go_at_call 27; (with_reducible refine (curve_Bounds.calls k1 _ _ l0 a2 a3 t496 t497 t498 _ ?side1 ?side2 A85.out).mono ?_); (case side1 => repeat (first | exact (Kd.C_below HR0.out HB.out) | (with_reducible refine Kd.C_alloc ?_ _) | (with_reducible refine Kd.C_drewN ?_ _) | (with_reducible refine Kd.C_drew ?_))); (case side2 => exact HC0.out); rintro e w102 ⟨rfl, hb⟩; have n0_ := Aside0.mk (below_step (by repeat (first | (with_reducible first | exact HB.out | apply below_alloc | apply pw_below_drewN | apply below_drew1) | exact HB.out)) hb); clear HB; have HB := n0_; clear n0_; (try clear hb); (try clear hb2); (try clear hk); (try clear hi)) | ((with_reducible refine gate_dst (N := 14) rfl ?_); (try (refine gate_guard (by rfl) ?_; dsimp only)); refine box_event ?hg (N := 14) ?hd (cs := #[.int .i64 0, .int .i64 0]) (t := 46) ?hr ?_; (case hd => rfl); (case hg => rfl); (case hr => first | (go_simp; done) | (go_simp; rfl)); intro gb499 hg w103 hbox hb; have n0_ := Aside0.mk (below_step (by repeat (first | (with_reducible first | exact HB.out | apply below_alloc | apply pw_below_drewN | apply below_drew1) | exact HB.out)) hb); have n1_ := Aside0.mk (hbox); have n2_ := Aside0.mk ((by rw [hg]; exact (below_size (by repeat (first | (with_reducible first | exact HB.out | apply below_alloc | apply pw_below_drewN | apply below_drew1) | exact HB.out))) : w.heap.size ≤ gb499)); have n3_ := Aside0.mk ((by rw [hg]; exact (below_size (by repeat (first | (with_reducible first | exact HB.out | apply below_alloc | apply pw_below_drewN | apply below_drew1) | exact HB.out))) : w.heap.size ≤ gb499)); clear HB; have HB := n0_; have BK499 := n1_; have GW499 := n2_; have GE499 := n3_; clear n0_ n1_ n2_ n3_; clear hb hbox hg; have hcz104_0 : w103.cell? ⟨gb499, 0, none⟩ = some (.int .i64 0) := (blk_cell BK499.out 0).trans rfl; have hcz104_1 : w103.cell? ⟨gb499, 1, none⟩ = some (.int .i64 0) := (blk_cell BK499.out 1).trans rfl; have hfz104_0 := blk_frozen BK499.out 0; have hfz104_1 := blk_frozen BK499.out 1)); try go_wp2_with (first | (go_at_call 27; (with_reducible refine (curve_Bounds.calls k1 _ _ l0 a2 a3 t496 t497 t498 _ ?side1 ?side2 A85.out).mono ?_); (case side1 => repeat (first | exact (Kd.C_below HR0.out HB.out) | (with_reducible refine Kd.C_alloc ?_ _) | (with_reducible refine Kd.C_drewN ?_ _) | (with_reducible refine Kd.C_drew ?_))); (case side2 => exact HC0.out); rintro e w102 ⟨rfl, hb⟩; have n0_ := Aside0.mk (below_step (by repeat (first | (with_reducible first | exact HB.out | apply below_alloc | apply pw_below_drewN | apply below_drew1) | exact HB.out)) hb); clear HB; have HB := n0_; clear n0_; (try clear hb); (try clear hb2); (try clear hk); (try clear hi)) | ((with_reducible refine gate_dst (N := 14) rfl ?_); (try (refine gate_guard (by rfl) ?_; dsimp only)); refine box_event ?hg (N := 14) ?hd (cs := #[.int .i64 0, .int .i64 0]) (t := 46) ?hr ?_; (case hd => rfl); (case hg => rfl); (case hr => first | (go_simp; done) | (go_simp; rfl)); intro gb499 hg w103 hbox hb; have n0_ := Aside0.mk (below_step (by repeat (first | (with_reducible first | exact HB.out | apply below_alloc | apply pw_below_drewN | apply below_drew1) | exact HB.out)) hb); have n1_ := Aside0.mk (hbox); have n2_ := Aside0.mk ((by rw [hg]; exact (below_size (by repeat (first | (with_reducible first | exact HB.out | apply below_alloc | apply pw_below_drewN | apply below_drew1) | exact HB.out))) : w.heap.size ≤ gb499)); have n3_ := Aside0.mk ((by rw [hg]; exact (below_size (by repeat (first | (with_reducible first | exact HB.out | apply below_alloc | apply pw_below_drewN | apply below_drew1) | exact HB.out))) : w.heap.size ≤ gb499)); clear HB; have HB := n0_; have BK499 := n1_; have GW499 := n2_; have GE499 := n3_; clear n0_ n1_ n2_ n3_; clear hb hbox hg; have hcz104_0 : w103.cell? ⟨gb499, 0, none⟩ = some (.int .i64 0) := (blk_cell BK499.out 0).trans rfl; have hcz104_1 : w103.cell? ⟨gb499, 1, none⟩ = some (.int .i64 0) := (blk_cell BK499.out 1).trans rfl; have hfz104_0 := blk_frozen BK499.out 0; have hfz104_1 := blk_frozen BK499.out 1)))
                go_ret
                exact ⟨by first | rfl | (simp [errW_none, errW_some] <;> rfl) | (simp only [← hji80]; first | rfl | (simp [errW_none, errW_some] <;> rfl)) | (simp [*, errW_none, errW_some] <;> rfl), by repeat (first | (with_reducible first | exact HB.out | apply below_alloc | apply pw_below_drewN | apply below_drew1 | refine below_set ?_ GE499.out) | exact HB.out)⟩
             ·
              as_aux_lemma =>
               rw [if_neg c84] at H
               have c84b0 : (t480 == ((rd_T50 l0 (ji80)).f1)) = false := beq_eq_false_iff_ne.mpr c84
               have c84b1 : (t480 != ((rd_T50 l0 (ji80)).f1)) = true := bne_iff_ne.mpr c84
               obtain rfl := Option.some.inj H
               have p482 : 0 ≤ (0 : Int) := (by omega)
               have q482 : 0 < (l0.length : Int) := of_decide_eq_true (by first | (with_reducible assumption) | assumption)
               obtain ⟨ad482, e482, hx482_0, hx482_1⟩ := at_T50 HR0.out 0 p482 q482
               cases e482
               have qi482 : (0 < l0.length) = True := eq_true (by omega)
               (try rw [show ((0 : Int)).toNat = 0 from rfl] at hx482_0)
               (try rw [show 0 * 2 = 0 from rfl] at hx482_0)
               (try rw [Addr.add_zero'] at hx482_0)
               (try rw [show ((0 : Int)).toNat = 0 from rfl] at hx482_1)
               (try rw [show 0 * 2 = 0 from rfl] at hx482_1)
               (try rw [Addr.add_zero'] at hx482_1)
               replace hx482_0 := (HB.out.cell (World.block_lt_of_cell? w _ hx482_0)).trans hx482_0
               replace hx482_1 := (HB.out.cell (World.block_lt_of_cell? w _ hx482_1)).trans hx482_1
               replace p482 := eq_true p482
               replace q482 := eq_true q482
               have p494 : 0 ≤ ((ji80) : Int) := of_decide_eq_true (by first | (with_reducible assumption) | assumption)
               have q494 : (ji80) < (l0.length : Int) := of_decide_eq_true (by first | (with_reducible assumption) | assumption)
               obtain ⟨ad494, e494, hx494_0, hx494_1⟩ := at_T50 HR0.out (ji80) p494 q494
               obtain rfl : ad482 = ad494 := (by injection e494)
               replace hx494_0 := (HB.out.cell (World.block_lt_of_cell? w _ hx494_0)).trans hx494_0
               replace hx494_1 := (HB.out.cell (World.block_lt_of_cell? w _ hx494_1)).trans hx494_1
               replace p494 := eq_true p494
               replace q494 := eq_true q494
               have p495 : 0 ≤ ((ji80) : Int) := of_decide_eq_true (by first | (with_reducible assumption) | assumption)
               have q495 : (ji80) < (l0.length : Int) := of_decide_eq_true (by first | (with_reducible assumption) | assumption)
               obtain ⟨ad495, e495, hx495_0, hx495_1⟩ := at_T50 HR0.out (ji80) p495 q495
               obtain rfl : ad482 = ad495 := (by injection e495)
               replace hx495_0 := (HB.out.cell (World.block_lt_of_cell? w _ hx495_0)).trans hx495_0
               replace hx495_1 := (HB.out.cell (World.block_lt_of_cell? w _ hx495_1)).trans hx495_1
               replace p495 := eq_true p495
               replace q495 := eq_true q495
               go_wp2
               repeat (go_quiet (fail); try go_wp2)
               go_ret
               exact ⟨by first | rfl | (simp [errW_none, errW_some] <;> rfl) | (simp only [← hji80]; first | rfl | (simp [errW_none, errW_some] <;> rfl)) | (simp [*, errW_none, errW_some] <;> rfl), by repeat (first | (with_reducible first | exact HB.out | apply below_alloc | apply pw_below_drewN | apply below_drew1) | exact HB.out)⟩
            ·
             rw [if_neg c83] at H
             have c83b0 : decide (((rd_T50 l0 (ji80)).f0) ≤ a1) = false := decide_eq_false c83
             clear c83
             replace H := Option.bind_eq_some_iff.mp H
             obtain ⟨⟨t500, t501, t502⟩, A1050, H⟩ := H
             replace H : (if t502 = 0 then (if a1 < a2 then (some true) else (if a1 > a3 then (some true) else (if t500 ≤ t480 then (some (decide (t480 ≤ t501))) else (some false)))) else (some true)) = some r := H
             have A105 := Aside0.mk A1050
             clear A1050
             by_cases c106 : t502 = 0
             ·
              rw [if_pos c106] at H
              have c106b0 : (t502 == 0) = true := beq_iff_eq.mpr c106
              have c106b1 : (t502 != 0) = false := bne_eq_false_iff_eq.mpr c106
              clear c106
              by_cases c107 : a1 < a2
              ·
               rw [if_pos c107] at H
               have c107b0 : decide (a1 < a2) = true := decide_eq_true c107
               clear c107
               obtain rfl := Option.some.inj H
               have p482 : 0 ≤ (0 : Int) := (by omega)
               have q482 : 0 < (l0.length : Int) := of_decide_eq_true (by first | (with_reducible assumption) | assumption)
               obtain ⟨ad482, e482, hx482_0, hx482_1⟩ := at_T50 HR0.out 0 p482 q482
               cases e482
               have qi482 : (0 < l0.length) = True := eq_true (by omega)
               (try rw [show ((0 : Int)).toNat = 0 from rfl] at hx482_0)
               (try rw [show 0 * 2 = 0 from rfl] at hx482_0)
               (try rw [Addr.add_zero'] at hx482_0)
               (try rw [show ((0 : Int)).toNat = 0 from rfl] at hx482_1)
               (try rw [show 0 * 2 = 0 from rfl] at hx482_1)
               (try rw [Addr.add_zero'] at hx482_1)
               replace hx482_0 := (HB.out.cell (World.block_lt_of_cell? w _ hx482_0)).trans hx482_0
               replace hx482_1 := (HB.out.cell (World.block_lt_of_cell? w _ hx482_1)).trans hx482_1
               replace p482 := eq_true p482
               replace q482 := eq_true q482
               have p494 : 0 ≤ ((ji80) : Int) := of_decide_eq_true (by first | (with_reducible assumption) | assumption)
               have q494 : (ji80) < (l0.length : Int) := of_decide_eq_true (by first | (with_reducible assumption) | assumption)
               obtain ⟨ad494, e494, hx494_0, hx494_1⟩ := at_T50 HR0.out (ji80) p494 q494
               obtain rfl : ad482 = ad494 := (by injection e494)
               replace hx494_0 := (HB.out.cell (World.block_lt_of_cell? w _ hx494_0)).trans hx494_0
               replace hx494_1 := (HB.out.cell (World.block_lt_of_cell? w _ hx494_1)).trans hx494_1
               replace p494 := eq_true p494
               replace q494 := eq_true q494
               go_wp2_with (first | (go_at_call 27; (with_reducible refine (curve_Bounds.calls k1 _ _ l0 a2 a3 t500 t501 t502 _ ?side1 ?side2 A105.out).mono ?_); (case side1 => repeat (first | exact (Kd.C_below HR0.out HB.out) | (with_reducible refine Kd.C_alloc ?_ _) | (with_reducible refine Kd.C_drewN ?_ _) | (with_reducible refine Kd.C_drew ?_))); (case side2 => exact HC0.out); rintro e w108 ⟨rfl, hb⟩; have n0_ := Aside0.mk (below_step (by repeat (first | (with_reducible first | exact HB.out | apply below_alloc | apply pw_below_drewN | apply below_drew1) | exact HB.out)) hb); clear HB; have HB := n0_; clear n0_; (try clear hb); (try clear hb2); (try clear hk); (try clear hi)) | ((with_reducible refine gate_dst (N := 14) rfl ?_); (try (refine gate_guard (by rfl) ?_; dsimp only)); refine box_event ?hg (N := 14) ?hd (cs := #[.int .i64 0, .int .i64 0]) (t := 46) ?hr ?_; (case hd => rfl); (case hg => rfl); (case hr => first | (go_simp; done) | (go_simp; rfl)); intro gb503 hg w109 hbox hb; have n0_ := Aside0.mk (below_step (by repeat (first | (with_reducible first | exact HB.out | apply below_alloc | apply pw_below_drewN | apply below_drew1) | exact HB.out)) hb); have n1_ := Aside0.mk (hbox); have n2_ := Aside0.mk ((by rw [hg]; exact (below_size (by repeat (first | (with_reducible first | exact HB.out | apply below_alloc | apply pw_below_drewN | apply below_drew1) | exact HB.out))) : w.heap.size ≤ gb503)); have n3_ := Aside0.mk ((by rw [hg]; exact (below_size (by repeat (first | (with_reducible first | exact HB.out | apply below_alloc | apply pw_below_drewN | apply below_drew1) | exact HB.out))) : w.heap.size ≤ gb503)); clear HB; have HB := n0_; have BK503 := n1_; have GW503 := n2_; have GE503 := n3_; clear n0_ n1_ n2_ n3_; clear hb hbox hg; have hcz110_0 : w109.cell? ⟨gb503, 0, none⟩ = some (.int .i64 0) := (blk_cell BK503.out 0).trans rfl; have hcz110_1 : w109.cell? ⟨gb503, 1, none⟩ = some (.int .i64 0) := (blk_cell BK503.out 1).trans rfl; have hfz110_0 := blk_frozen BK503.out 0; have hfz110_1 := blk_frozen BK503.out 1))
               repeat (go_quiet (first | (go_at_call 27; (with_reducible refine (curve_Bounds.calls k1 _ _ l0 a2 a3 t500 t501 t502 _ ?side1 ?side2 A105.out).mono ?_); (case side1 => repeat (first | exact (Kd.C_below HR0.out HB.out) | (with_reducible refine Kd.C_alloc ?_ _) | (with_reducible refine Kd.C_drewN ?_ _) | (with_reducible refine Kd.C_drew ?_))); (case side2 => exact HC0.out); rintro e w108 ⟨rfl, hb⟩; have n0_ := Aside0.mk (below_step (by repeat (first | (with_reducible first | exact HB.out | apply below_alloc | apply pw_below_drewN | apply below_drew1) | exact HB.out)) hb); clear HB; have HB := n0_; clear n0_; (try clear hb); (try clear hb2); (try clear hk); (try clear hi)) | ((with_reducible refine gate_dst (N := 14) rfl ?_); (try (refine gate_guard (by rfl) ?_; dsimp only)); refine box_event ?hg (N := 14) ?hd (cs := #[.int .i64 0, .int .i64 0]) (t := 46) ?hr ?_; (case hd => rfl); (case hg => rfl); (case hr => first | (go_simp; done) | (go_simp; rfl)); intro gb503 hg w109 hbox hb; have n0_ := Aside0.mk (below_step (by repeat (first | (with_reducible first | exact HB.out | apply below_alloc | apply pw_below_drewN | apply below_drew1) | exact HB.out)) hb); have n1_ := Aside0.mk (hbox); have n2_ := Aside0.mk ((by rw [hg]; exact (below_size (by repeat (first | (with_reducible first | exact HB.out | apply below_alloc | apply pw_below_drewN | apply below_drew1) | exact HB.out))) : w.heap.size ≤ gb503)); have n3_ := Aside0.mk ((by rw [hg]; exact (below_size (by repeat (first | (with_reducible first | exact HB.out | apply below_alloc | apply pw_below_drewN | apply below_drew1) | exact HB.out))) : w.heap.size ≤ gb503)); clear HB; have HB := n0_; have BK503 := n1_; have GW503 := n2_; have GE503 := n3_; clear n0_ n1_ n2_ n3_; clear hb hbox hg; have hcz110_0 : w109.cell? ⟨gb503, 0, none⟩ = some (.int .i64 0) := (blk_cell BK503.out 0).trans rfl; have hcz110_1 : w109.cell? ⟨gb503, 1, none⟩ = some (.int .i64 0) := (blk_cell BK503.out 1).trans rfl; have hfz110_0 := blk_frozen BK503.out 0; have hfz110_1 := blk_frozen BK503.out 1)); try go_wp2_with (first | (go_at_call 27; (with_reducible refine (curve_Bounds.calls k1 _ _ l0 a2 a3 t500 t501 t502 _ ?side1 ?side2 A105.out).mono ?_); (case side1 => repeat (first | exact (Kd.C_below HR0.out HB.out) | (with_reducible refine Kd.C_alloc ?_ _) | (with_reducible refine Kd.C_drewN ?_ _) | (with_reducible refine Kd.C_drew ?_))); (case side2 => exact HC0.out); rintro e w108 ⟨rfl, hb⟩; have n0_ := Aside0.mk (below_step (by repeat (first | (with_reducible first | exact HB.out | apply below_alloc | apply pw_below_drewN | apply below_drew1) | exact HB.out)) hb); clear HB; have HB := n0_; clear n0_; (try clear hb); (try clear hb2); (try clear hk); (try clear hi)) | ((with_reducible refine gate_dst (N := 14) rfl ?_); (try (refine gate_guard (by rfl) ?_; dsimp only)); refine box_event ?hg (N := 14) ?hd (cs := #[.int .i64 0, .int .i64 0]) (t := 46) ?hr ?_; (case hd => rfl); (case hg => rfl); (case hr => first | (go_simp; done) | (go_simp; rfl)); intro gb503 hg w109 hbox hb; have n0_ := Aside0.mk (below_step (by repeat (first | (with_reducible first | exact HB.out | apply below_alloc | apply pw_below_drewN | apply below_drew1) | exact HB.out)) hb); have n1_ := Aside0.mk (hbox); have n2_ := Aside0.mk ((by rw [hg]; exact (below_size (by repeat (first | (with_reducible first | exact HB.out | apply below_alloc | apply pw_below_drewN | apply below_drew1) | exact HB.out))) : w.heap.size ≤ gb503)); have n3_ := Aside0.mk ((by rw [hg]; exact (below_size (by repeat (first | (with_reducible first | exact HB.out | apply below_alloc | apply pw_below_drewN | apply below_drew1) | exact HB.out))) : w.heap.size ≤ gb503)); clear HB; have HB := n0_; have BK503 := n1_; have GW503 := n2_; have GE503 := n3_; clear n0_ n1_ n2_ n3_; clear hb hbox hg; have hcz110_0 : w109.cell? ⟨gb503, 0, none⟩ = some (.int .i64 0) := (blk_cell BK503.out 0).trans rfl; have hcz110_1 : w109.cell? ⟨gb503, 1, none⟩ = some (.int .i64 0) := (blk_cell BK503.out 1).trans rfl; have hfz110_0 := blk_frozen BK503.out 0; have hfz110_1 := blk_frozen BK503.out 1)))
               go_ret
               exact ⟨by first | rfl | (simp [errW_none, errW_some] <;> rfl) | (simp only [← hji80]; first | rfl | (simp [errW_none, errW_some] <;> rfl)) | (simp [*, errW_none, errW_some] <;> rfl), by repeat (first | (with_reducible first | exact HB.out | apply below_alloc | apply pw_below_drewN | apply below_drew1 | refine below_set ?_ GE503.out) | exact HB.out)⟩
              ·
               rw [if_neg c107] at H
               have c107b0 : decide (a1 < a2) = false := decide_eq_false c107
               clear c107
               by_cases c111 : a1 > a3
               ·
                rw [if_pos c111] at H
                have c111b0 : decide (a3 < a1) = true := decide_eq_true c111
                clear c111
                obtain rfl := Option.some.inj H
                have p482 : 0 ≤ (0 : Int) := (by omega)
                have q482 : 0 < (l0.length : Int) := of_decide_eq_true (by first | (with_reducible assumption) | assumption)
                obtain ⟨ad482, e482, hx482_0, hx482_1⟩ := at_T50 HR0.out 0 p482 q482
                cases e482
                have qi482 : (0 < l0.length) = True := eq_true (by omega)
                (try rw [show ((0 : Int)).toNat = 0 from rfl] at hx482_0)
                (try rw [show 0 * 2 = 0 from rfl] at hx482_0)
                (try rw [Addr.add_zero'] at hx482_0)
                (try rw [show ((0 : Int)).toNat = 0 from rfl] at hx482_1)
                (try rw [show 0 * 2 = 0 from rfl] at hx482_1)
                (try rw [Addr.add_zero'] at hx482_1)
                replace hx482_0 := (HB.out.cell (World.block_lt_of_cell? w _ hx482_0)).trans hx482_0
                replace hx482_1 := (HB.out.cell (World.block_lt_of_cell? w _ hx482_1)).trans hx482_1
                replace p482 := eq_true p482
                replace q482 := eq_true q482
                have p494 : 0 ≤ ((ji80) : Int) := of_decide_eq_true (by first | (with_reducible assumption) | assumption)
                have q494 : (ji80) < (l0.length : Int) := of_decide_eq_true (by first | (with_reducible assumption) | assumption)
                obtain ⟨ad494, e494, hx494_0, hx494_1⟩ := at_T50 HR0.out (ji80) p494 q494
                obtain rfl : ad482 = ad494 := (by injection e494)
                replace hx494_0 := (HB.out.cell (World.block_lt_of_cell? w _ hx494_0)).trans hx494_0
                replace hx494_1 := (HB.out.cell (World.block_lt_of_cell? w _ hx494_1)).trans hx494_1
                replace p494 := eq_true p494
                replace q494 := eq_true q494
                go_wp2_with (first | (go_at_call 27; (with_reducible refine (curve_Bounds.calls k1 _ _ l0 a2 a3 t500 t501 t502 _ ?side1 ?side2 A105.out).mono ?_); (case side1 => repeat (first | exact (Kd.C_below HR0.out HB.out) | (with_reducible refine Kd.C_alloc ?_ _) | (with_reducible refine Kd.C_drewN ?_ _) | (with_reducible refine Kd.C_drew ?_))); (case side2 => exact HC0.out); rintro e w112 ⟨rfl, hb⟩; have n0_ := Aside0.mk (below_step (by repeat (first | (with_reducible first | exact HB.out | apply below_alloc | apply pw_below_drewN | apply below_drew1) | exact HB.out)) hb); clear HB; have HB := n0_; clear n0_; (try clear hb); (try clear hb2); (try clear hk); (try clear hi)) | ((with_reducible refine gate_dst (N := 14) rfl ?_); (try (refine gate_guard (by rfl) ?_; dsimp only)); refine box_event ?hg (N := 14) ?hd (cs := #[.int .i64 0, .int .i64 0]) (t := 46) ?hr ?_; (case hd => rfl); (case hg => rfl); (case hr => first | (go_simp; done) | (go_simp; rfl)); intro gb503 hg w113 hbox hb; have n0_ := Aside0.mk (below_step (by repeat (first | (with_reducible first | exact HB.out | apply below_alloc | apply pw_below_drewN | apply below_drew1) | exact HB.out)) hb); have n1_ := Aside0.mk (hbox); have n2_ := Aside0.mk ((by rw [hg]; exact (below_size (by repeat (first | (with_reducible first | exact HB.out | apply below_alloc | apply pw_below_drewN | apply below_drew1) | exact HB.out))) : w.heap.size ≤ gb503)); have n3_ := Aside0.mk ((by rw [hg]; exact (below_size (by repeat (first | (with_reducible first | exact HB.out | apply below_alloc | apply pw_below_drewN | apply below_drew1) | exact HB.out))) : w.heap.size ≤ gb503)); clear HB; have HB := n0_; have BK503 := n1_; have GW503 := n2_; have GE503 := n3_; clear n0_ n1_ n2_ n3_; clear hb hbox hg; have hcz114_0 : w113.cell? ⟨gb503, 0, none⟩ = some (.int .i64 0) := (blk_cell BK503.out 0).trans rfl; have hcz114_1 : w113.cell? ⟨gb503, 1, none⟩ = some (.int .i64 0) := (blk_cell BK503.out 1).trans rfl; have hfz114_0 := blk_frozen BK503.out 0; have hfz114_1 := blk_frozen BK503.out 1))
                repeat (go_quiet (first | (go_at_call 27; (with_reducible refine (curve_Bounds.calls k1 _ _ l0 a2 a3 t500 t501 t502 _ ?side1 ?side2 A105.out).mono ?_); (case side1 => repeat (first | exact (Kd.C_below HR0.out HB.out) | (with_reducible refine Kd.C_alloc ?_ _) | (with_reducible refine Kd.C_drewN ?_ _) | (with_reducible refine Kd.C_drew ?_))); (case side2 => exact HC0.out); rintro e w112 ⟨rfl, hb⟩; have n0_ := Aside0.mk (below_step (by repeat (first | (with_reducible first | exact HB.out | apply below_alloc | apply pw_below_drewN | apply below_drew1) | exact HB.out)) hb); clear HB; have HB := n0_; clear n0_; (try clear hb); (try clear hb2); (try clear hk); (try clear hi)) | ((with_reducible refine gate_dst (N := 14) rfl ?_); (try (refine gate_guard (by rfl) ?_; dsimp only)); refine box_event ?hg (N := 14) ?hd (cs := #[.int .i64 0, .int .i64 0]) (t := 46) ?hr ?_; (case hd => rfl); (case hg => rfl); (case hr => first | (go_simp; done) | (go_simp; rfl)); intro gb503 hg w113 hbox hb; have n0_ := Aside0.mk (below_step (by repeat (first | (with_reducible first | exact HB.out | apply below_alloc | apply pw_below_drewN | apply below_drew1) | exact HB.out)) hb); have n1_ := Aside0.mk (hbox); have n2_ := Aside0.mk ((by rw [hg]; exact (below_size (by repeat (first | (with_reducible first | exact HB.out | apply below_alloc | apply pw_below_drewN | apply below_drew1) | exact HB.out))) : w.heap.size ≤ gb503)); have n3_ := Aside0.mk ((by rw [hg]; exact (below_size (by repeat (first | (with_reducible first | exact HB.out | apply below_alloc | apply pw_below_drewN | apply below_drew1) | exact HB.out))) : w.heap.size ≤ gb503)); clear HB; have HB := n0_; have BK503 := n1_; have GW503 := n2_; have GE503 := n3_; clear n0_ n1_ n2_ n3_; clear hb hbox hg; have hcz114_0 : w113.cell? ⟨gb503, 0, none⟩ = some (.int .i64 0) := (blk_cell BK503.out 0).trans rfl; have hcz114_1 : w113.cell? ⟨gb503, 1, none⟩ = some (.int .i64 0) := (blk_cell BK503.out 1).trans rfl; have hfz114_0 := blk_frozen BK503.out 0; have hfz114_1 := blk_frozen BK503.out 1)); try go_wp2_with (first | (go_at_call 27; (with_reducible refine (curve_Bounds.calls k1 _ _ l0 a2 a3 t500 t501 t502 _ ?side1 ?side2 A105.out).mono ?_); (case side1 => repeat (first | exact (Kd.C_below HR0.out HB.out) | (with_reducible refine Kd.C_alloc ?_ _) | (with_reducible refine Kd.C_drewN ?_ _) | (with_reducible refine Kd.C_drew ?_))); (case side2 => exact HC0.out); rintro e w112 ⟨rfl, hb⟩; have n0_ := Aside0.mk (below_step (by repeat (first | (with_reducible first | exact HB.out | apply below_alloc | apply pw_below_drewN | apply below_drew1) | exact HB.out)) hb); clear HB; have HB := n0_; clear n0_; (try clear hb); (try clear hb2); (try clear hk); (try clear hi)) | ((with_reducible refine gate_dst (N := 14) rfl ?_); (try (refine gate_guard (by rfl) ?_; dsimp only)); refine box_event ?hg (N := 14) ?hd (cs := #[.int .i64 0, .int .i64 0]) (t := 46) ?hr ?_; (case hd => rfl); (case hg => rfl); (case hr => first | (go_simp; done) | (go_simp; rfl)); intro gb503 hg w113 hbox hb; have n0_ := Aside0.mk (below_step (by repeat (first | (with_reducible first | exact HB.out | apply below_alloc | apply pw_below_drewN | apply below_drew1) | exact HB.out)) hb); have n1_ := Aside0.mk (hbox); have n2_ := Aside0.mk ((by rw [hg]; exact (below_size (by repeat (first | (with_reducible first | exact HB.out | apply below_alloc | apply pw_below_drewN | apply below_drew1) | exact HB.out))) : w.heap.size ≤ gb503)); have n3_ := Aside0.mk ((by rw [hg]; exact (below_size (by repeat (first | (with_reducible first | exact HB.out | apply below_alloc | apply pw_below_drewN | apply below_drew1) | exact HB.out))) : w.heap.size ≤ gb503)); clear HB; have HB := n0_; have BK503 := n1_; have GW503 := n2_; have GE503 := n3_; clear n0_ n1_ n2_ n3_; clear hb hbox hg; have hcz114_0 : w113.cell? ⟨gb503, 0, none⟩ = some (.int .i64 0) := (blk_cell BK503.out 0).trans rfl; have hcz114_1 : w113.cell? ⟨gb503, 1, none⟩ = some (.int .i64 0) := (blk_cell BK503.out 1).trans rfl; have hfz114_0 := blk_frozen BK503.out 0; have hfz114_1 := blk_frozen BK503.out 1)))
                go_ret
                exact ⟨by first | rfl | (simp [errW_none, errW_some] <;> rfl) | (simp only [← hji80]; first | rfl | (simp [errW_none, errW_some] <;> rfl)) | (simp [*, errW_none, errW_some] <;> rfl), by repeat (first | (with_reducible first | exact HB.out | apply below_alloc | apply pw_below_drewN | apply below_drew1 | refine below_set ?_ GE503.out) | exact HB.out)⟩
               ·
                rw [if_neg c111] at H
                have c111b0 : decide (a3 < a1) = false := decide_eq_false c111
                clear c111
                by_cases c115 : t500 ≤ t480
                ·
                 rw [if_pos c115] at H
                 have c115b0 : decide (t500 ≤ t480) = true := decide_eq_true c115
                 clear c115
                 obtain rfl := Option.some.inj H
                 have p482 : 0 ≤ (0 : Int) := (by omega)
                 have q482 : 0 < (l0.length : Int) := of_decide_eq_true (by first | (with_reducible assumption) | assumption)
                 obtain ⟨ad482, e482, hx482_0, hx482_1⟩ := at_T50 HR0.out 0 p482 q482
                 cases e482
                 have qi482 : (0 < l0.length) = True := eq_true (by omega)
                 (try rw [show ((0 : Int)).toNat = 0 from rfl] at hx482_0)
                 (try rw [show 0 * 2 = 0 from rfl] at hx482_0)
                 (try rw [Addr.add_zero'] at hx482_0)
                 (try rw [show ((0 : Int)).toNat = 0 from rfl] at hx482_1)
                 (try rw [show 0 * 2 = 0 from rfl] at hx482_1)
                 (try rw [Addr.add_zero'] at hx482_1)
                 replace hx482_0 := (HB.out.cell (World.block_lt_of_cell? w _ hx482_0)).trans hx482_0
                 replace hx482_1 := (HB.out.cell (World.block_lt_of_cell? w _ hx482_1)).trans hx482_1
                 replace p482 := eq_true p482
                 replace q482 := eq_true q482
                 have p494 : 0 ≤ ((ji80) : Int) := of_decide_eq_true (by first | (with_reducible assumption) | assumption)
                 have q494 : (ji80) < (l0.length : Int) := of_decide_eq_true (by first | (with_reducible assumption) | assumption)
                 obtain ⟨ad494, e494, hx494_0, hx494_1⟩ := at_T50 HR0.out (ji80) p494 q494
                 obtain rfl : ad482 = ad494 := (by injection e494)
                 replace hx494_0 := (HB.out.cell (World.block_lt_of_cell? w _ hx494_0)).trans hx494_0
                 replace hx494_1 := (HB.out.cell (World.block_lt_of_cell? w _ hx494_1)).trans hx494_1
                 replace p494 := eq_true p494
                 replace q494 := eq_true q494
                 go_wp2_with (first | (go_at_call 27; (with_reducible refine (curve_Bounds.calls k1 _ _ l0 a2 a3 t500 t501 t502 _ ?side1 ?side2 A105.out).mono ?_); (case side1 => repeat (first | exact (Kd.C_below HR0.out HB.out) | (with_reducible refine Kd.C_alloc ?_ _) | (with_reducible refine Kd.C_drewN ?_ _) | (with_reducible refine Kd.C_drew ?_))); (case side2 => exact HC0.out); rintro e w116 ⟨rfl, hb⟩; have n0_ := Aside0.mk (below_step (by repeat (first | (with_reducible first | exact HB.out | apply below_alloc | apply pw_below_drewN | apply below_drew1) | exact HB.out)) hb); clear HB; have HB := n0_; clear n0_; (try clear hb); (try clear hb2); (try clear hk); (try clear hi)) | ((with_reducible refine gate_dst (N := 14) rfl ?_); (try (refine gate_guard (by rfl) ?_; dsimp only)); refine box_event ?hg (N := 14) ?hd (cs := #[.int .i64 0, .int .i64 0]) (t := 46) ?hr ?_; (case hd => rfl); (case hg => rfl); (case hr => first | (go_simp; done) | (go_simp; rfl)); intro gb503 hg w117 hbox hb; have n0_ := Aside0.mk (below_step (by repeat (first | (with_reducible first | exact HB.out | apply below_alloc | apply pw_below_drewN | apply below_drew1) | exact HB.out)) hb); have n1_ := Aside0.mk (hbox); have n2_ := Aside0.mk ((by rw [hg]; exact (below_size (by repeat (first | (with_reducible first | exact HB.out | apply below_alloc | apply pw_below_drewN | apply below_drew1) | exact HB.out))) : w.heap.size ≤ gb503)); have n3_ := Aside0.mk ((by rw [hg]; exact (below_size (by repeat (first | (with_reducible first | exact HB.out | apply below_alloc | apply pw_below_drewN | apply below_drew1) | exact HB.out))) : w.heap.size ≤ gb503)); clear HB; have HB := n0_; have BK503 := n1_; have GW503 := n2_; have GE503 := n3_; clear n0_ n1_ n2_ n3_; clear hb hbox hg; have hcz118_0 : w117.cell? ⟨gb503, 0, none⟩ = some (.int .i64 0) := (blk_cell BK503.out 0).trans rfl; have hcz118_1 : w117.cell? ⟨gb503, 1, none⟩ = some (.int .i64 0) := (blk_cell BK503.out 1).trans rfl; have hfz118_0 := blk_frozen BK503.out 0; have hfz118_1 := blk_frozen BK503.out 1))
                 repeat (go_quiet (first | (go_at_call 27; (with_reducible refine (curve_Bounds.calls k1 _ _ l0 a2 a3 t500 t501 t502 _ ?side1 ?side2 A105.out).mono ?_); (case side1 => repeat (first | exact (Kd.C_below HR0.out HB.out) | (with_reducible refine Kd.C_alloc ?_ _) | (with_reducible refine Kd.C_drewN ?_ _) | (with_reducible refine Kd.C_drew ?_))); (case side2 => exact HC0.out); rintro e w116 ⟨rfl, hb⟩; have n0_ := Aside0.mk (below_step (by repeat (first | (with_reducible first | exact HB.out | apply below_alloc | apply pw_below_drewN | apply below_drew1) | exact HB.out)) hb); clear HB; have HB := n0_; clear n0_; (try clear hb); (try clear hb2); (try clear hk); (try clear hi)) | ((with_reducible refine gate_dst (N := 14) rfl ?_); (try (refine gate_guard (by rfl) ?_; dsimp only)); refine box_event ?hg (N := 14) ?hd (cs := #[.int .i64 0, .int .i64 0]) (t := 46) ?hr ?_; (case hd => rfl); (case hg => rfl); (case hr => first | (go_simp; done) | (go_simp; rfl)); intro gb503 hg w117 hbox hb; have n0_ := Aside0.mk (below_step (by repeat (first | (with_reducible first | exact HB.out | apply below_alloc | apply pw_below_drewN | apply below_drew1) | exact HB.out)) hb); have n1_ := Aside0.mk (hbox); have n2_ := Aside0.mk ((by rw [hg]; exact (below_size (by repeat (first | (with_reducible first | exact HB.out | apply below_alloc | apply pw_below_drewN | apply below_drew1) | exact HB.out))) : w.heap.size ≤ gb503)); have n3_ := Aside0.mk ((by rw [hg]; exact (below_size (by repeat (first | (with_reducible first | exact HB.out | apply below_alloc | apply pw_below_drewN | apply below_drew1) | exact HB.out))) : w.heap.size ≤ gb503)); clear HB; have HB := n0_; have BK503 := n1_; have GW503 := n2_; have GE503 := n3_; clear n0_ n1_ n2_ n3_; clear hb hbox hg; have hcz118_0 : w117.cell? ⟨gb503, 0, none⟩ = some (.int .i64 0) := (blk_cell BK503.out 0).trans rfl; have hcz118_1 : w117.cell? ⟨gb503, 1, none⟩ = some (.int .i64 0) := (blk_cell BK503.out 1).trans rfl; have hfz118_0 := blk_frozen BK503.out 0; have hfz118_1 := blk_frozen BK503.out 1)); try go_wp2_with (first | (go_at_call 27; (with_reducible refine (curve_Bounds.calls k1 _ _ l0 a2 a3 t500 t501 t502 _ ?side1 ?side2 A105.out).mono ?_); (case side1 => repeat (first | exact (Kd.C_below HR0.out HB.out) | (with_reducible refine Kd.C_alloc ?_ _) | (with_reducible refine Kd.C_drewN ?_ _) | (with_reducible refine Kd.C_drew ?_))); (case side2 => exact HC0.out); rintro e w116 ⟨rfl, hb⟩; have n0_ := Aside0.mk (below_step (by repeat (first | (with_reducible first | exact HB.out | apply below_alloc | apply pw_below_drewN | apply below_drew1) | exact HB.out)) hb); clear HB; have HB := n0_; clear n0_; (try clear hb); (try clear hb2); (try clear hk); (try clear hi)) | ((with_reducible refine gate_dst (N := 14) rfl ?_); (try (refine gate_guard (by rfl) ?_; dsimp only)); refine box_event ?hg (N := 14) ?hd (cs := #[.int .i64 0, .int .i64 0]) (t := 46) ?hr ?_; (case hd => rfl); (case hg => rfl); (case hr => first | (go_simp; done) | (go_simp; rfl)); intro gb503 hg w117 hbox hb; have n0_ := Aside0.mk (below_step (by repeat (first | (with_reducible first | exact HB.out | apply below_alloc | apply pw_below_drewN | apply below_drew1) | exact HB.out)) hb); have n1_ := Aside0.mk (hbox); have n2_ := Aside0.mk ((by rw [hg]; exact (below_size (by repeat (first | (with_reducible first | exact HB.out | apply below_alloc | apply pw_below_drewN | apply below_drew1) | exact HB.out))) : w.heap.size ≤ gb503)); have n3_ := Aside0.mk ((by rw [hg]; exact (below_size (by repeat (first | (with_reducible first | exact HB.out | apply below_alloc | apply pw_below_drewN | apply below_drew1) | exact HB.out))) : w.heap.size ≤ gb503)); clear HB; have HB := n0_; have BK503 := n1_; have GW503 := n2_; have GE503 := n3_; clear n0_ n1_ n2_ n3_; clear hb hbox hg; have hcz118_0 : w117.cell? ⟨gb503, 0, none⟩ = some (.int .i64 0) := (blk_cell BK503.out 0).trans rfl; have hcz118_1 : w117.cell? ⟨gb503, 1, none⟩ = some (.int .i64 0) := (blk_cell BK503.out 1).trans rfl; have hfz118_0 := blk_frozen BK503.out 0; have hfz118_1 := blk_frozen BK503.out 1)))
                 go_ret
                 exact ⟨by first | rfl | (simp [errW_none, errW_some] <;> rfl) | (simp only [← hji80]; first | rfl | (simp [errW_none, errW_some] <;> rfl)) | (simp [*, errW_none, errW_some] <;> rfl), by repeat (first | (with_reducible first | exact HB.out | apply below_alloc | apply pw_below_drewN | apply below_drew1 | refine below_set ?_ GE503.out) | exact HB.out)⟩
                ·
                 rw [if_neg c115] at H
                 have c115b0 : decide (t500 ≤ t480) = false := decide_eq_false c115
                 clear c115
                 obtain rfl := Option.some.inj H
                 have p482 : 0 ≤ (0 : Int) := (by omega)
                 have q482 : 0 < (l0.length : Int) := of_decide_eq_true (by first | (with_reducible assumption) | assumption)
                 obtain ⟨ad482, e482, hx482_0, hx482_1⟩ := at_T50 HR0.out 0 p482 q482
                 cases e482
                 have qi482 : (0 < l0.length) = True := eq_true (by omega)
                 (try rw [show ((0 : Int)).toNat = 0 from rfl] at hx482_0)
                 (try rw [show 0 * 2 = 0 from rfl] at hx482_0)
                 (try rw [Addr.add_zero'] at hx482_0)
                 (try rw [show ((0 : Int)).toNat = 0 from rfl] at hx482_1)
                 (try rw [show 0 * 2 = 0 from rfl] at hx482_1)
                 (try rw [Addr.add_zero'] at hx482_1)
                 replace hx482_0 := (HB.out.cell (World.block_lt_of_cell? w _ hx482_0)).trans hx482_0
                 replace hx482_1 := (HB.out.cell (World.block_lt_of_cell? w _ hx482_1)).trans hx482_1
                 replace p482 := eq_true p482
                 replace q482 := eq_true q482
                 have p494 : 0 ≤ ((ji80) : Int) := of_decide_eq_true (by first | (with_reducible assumption) | assumption)
                 have q494 : (ji80) < (l0.length : Int) := of_decide_eq_true (by first | (with_reducible assumption) | assumption)
                 obtain ⟨ad494, e494, hx494_0, hx494_1⟩ := at_T50 HR0.out (ji80) p494 q494
                 obtain rfl : ad482 = ad494 := (by injection e494)
                 replace hx494_0 := (HB.out.cell (World.block_lt_of_cell? w _ hx494_0)).trans hx494_0
                 replace hx494_1 := (HB.out.cell (World.block_lt_of_cell? w _ hx494_1)).trans hx494_1
                 replace p494 := eq_true p494
                 replace q494 := eq_true q494
                 go_wp2_with (first | (go_at_call 27; (with_reducible refine (curve_Bounds.calls k1 _ _ l0 a2 a3 t500 t501 t502 _ ?side1 ?side2 A105.out).mono ?_); (case side1 => repeat (first | exact (Kd.C_below HR0.out HB.out) | (with_reducible refine Kd.C_alloc ?_ _) | (with_reducible refine Kd.C_drewN ?_ _) | (with_reducible refine Kd.C_drew ?_))); (case side2 => exact HC0.out); rintro e w119 ⟨rfl, hb⟩; have n0_ := Aside0.mk (below_step (by repeat (first | (with_reducible first | exact HB.out | apply below_alloc | apply pw_below_drewN | apply below_drew1) | exact HB.out)) hb); clear HB; have HB := n0_; clear n0_; (try clear hb); (try clear hb2); (try clear hk); (try clear hi)) | ((with_reducible refine gate_dst (N := 14) rfl ?_); (try (refine gate_guard (by rfl) ?_; dsimp only)); refine box_event ?hg (N := 14) ?hd (cs := #[.int .i64 0, .int .i64 0]) (t := 46) ?hr ?_; (case hd => rfl); (case hg => rfl); (case hr => first | (go_simp; done) | (go_simp; rfl)); intro gb503 hg w120 hbox hb; have n0_ := Aside0.mk (below_step (by repeat (first | (with_reducible first | exact HB.out | apply below_alloc | apply pw_below_drewN | apply below_drew1) | exact HB.out)) hb); have n1_ := Aside0.mk (hbox); have n2_ := Aside0.mk ((by rw [hg]; exact (below_size (by repeat (first | (with_reducible first | exact HB.out | apply below_alloc | apply pw_below_drewN | apply below_drew1) | exact HB.out))) : w.heap.size ≤ gb503)); have n3_ := Aside0.mk ((by rw [hg]; exact (below_size (by repeat (first | (with_reducible first | exact HB.out | apply below_alloc | apply pw_below_drewN | apply below_drew1) | exact HB.out))) : w.heap.size ≤ gb503)); clear HB; have HB := n0_; have BK503 := n1_; have GW503 := n2_; have GE503 := n3_; clear n0_ n1_ n2_ n3_; clear hb hbox hg; have hcz121_0 : w120.cell? ⟨gb503, 0, none⟩ = some (.int .i64 0) := (blk_cell BK503.out 0).trans rfl; have hcz121_1 : w120.cell? ⟨gb503, 1, none⟩ = some (.int .i64 0) := (blk_cell BK503.out 1).trans rfl; have hfz121_0 := blk_frozen BK503.out 0; have hfz121_1 := blk_frozen BK503.out 1))
                 repeat (go_quiet (first | (go_at_call 27; (with_reducible refine (curve_Bounds.calls k1 _ _ l0 a2 a3 t500 t501 t502 _ ?side1 ?side2 A105.out).mono ?_); (case side1 => repeat (first | exact (Kd.C_below HR0.out HB.out) | (with_reducible refine Kd.C_alloc ?_ _) | (with_reducible refine Kd.C_drewN ?_ _) | (with_reducible refine Kd.C_drew ?_))); (case side2 => exact HC0.out); rintro e w119 ⟨rfl, hb⟩; have n0_ := Aside0.mk (below_step (by repeat (first | (with_reducible first | exact HB.out | apply below_alloc | apply pw_below_drewN | apply below_drew1) | exact HB.out)) hb); clear HB; have HB := n0_; clear n0_; (try clear hb); (try clear hb2); (try clear hk); (try clear hi)) | ((with_reducible refine gate_dst (N := 14) rfl ?_); (try (refine gate_guard (by rfl) ?_; dsimp only)); refine box_event ?hg (N := 14) ?hd (cs := #[.int .i64 0, .int .i64 0]) (t := 46) ?hr ?_; (case hd => rfl); (case hg => rfl); (case hr => first | (go_simp; done) | (go_simp; rfl)); intro gb503 hg w120 hbox hb; have n0_ := Aside0.mk (below_step (by repeat (first | (with_reducible first | exact HB.out | apply below_alloc | apply pw_below_drewN | apply below_drew1) | exact HB.out)) hb); have n1_ := Aside0.mk (hbox); have n2_ := Aside0.mk ((by rw [hg]; exact (below_size (by repeat (first | (with_reducible first | exact HB.out | apply below_alloc | apply pw_below_drewN | apply below_drew1) | exact HB.out))) : w.heap.size ≤ gb503)); have n3_ := Aside0.mk ((by rw [hg]; exact (below_size (by repeat (first | (with_reducible first | exact HB.out | apply below_alloc | apply pw_below_drewN | apply below_drew1) | exact HB.out))) : w.heap.size ≤ gb503)); clear HB; have HB := n0_; have BK503 := n1_; have GW503 := n2_; have GE503 := n3_; clear n0_ n1_ n2_ n3_; clear hb hbox hg; have hcz121_0 : w120.cell? ⟨gb503, 0, none⟩ = some (.int .i64 0) := (blk_cell BK503.out 0).trans rfl; have hcz121_1 : w120.cell? ⟨gb503, 1, none⟩ = some (.int .i64 0) := (blk_cell BK503.out 1).trans rfl; have hfz121_0 := blk_frozen BK503.out 0; have hfz121_1 := blk_frozen BK503.out 1)); try go_wp2_with (first | (go_at_call 27; (with_reducible refine (curve_Bounds.calls k1 _ _ l0 a2 a3 t500 t501 t502 _ ?side1 ?side2 A105.out).mono ?_); (case side1 => repeat (first | exact (Kd.C_below HR0.out HB.out) | (with_reducible refine Kd.C_alloc ?_ _) | (with_reducible refine Kd.C_drewN ?_ _) | (with_reducible refine Kd.C_drew ?_))); (case side2 => exact HC0.out); rintro e w119 ⟨rfl, hb⟩; have n0_ := Aside0.mk (below_step (by repeat (first | (with_reducible first | exact HB.out | apply below_alloc | apply pw_below_drewN | apply below_drew1) | exact HB.out)) hb); clear HB; have HB := n0_; clear n0_; (try clear hb); (try clear hb2); (try clear hk); (try clear hi)) | ((with_reducible refine gate_dst (N := 14) rfl ?_); (try (refine gate_guard (by rfl) ?_; dsimp only)); refine box_event ?hg (N := 14) ?hd (cs := #[.int .i64 0, .int .i64 0]) (t := 46) ?hr ?_; (case hd => rfl); (case hg => rfl); (case hr => first | (go_simp; done) | (go_simp; rfl)); intro gb503 hg w120 hbox hb; have n0_ := Aside0.mk (below_step (by repeat (first | (with_reducible first | exact HB.out | apply below_alloc | apply pw_below_drewN | apply below_drew1) | exact HB.out)) hb); have n1_ := Aside0.mk (hbox); have n2_ := Aside0.mk ((by rw [hg]; exact (below_size (by repeat (first | (with_reducible first | exact HB.out | apply below_alloc | apply pw_below_drewN | apply below_drew1) | exact HB.out))) : w.heap.size ≤ gb503)); have n3_ := Aside0.mk ((by rw [hg]; exact (below_size (by repeat (first | (with_reducible first | exact HB.out | apply below_alloc | apply pw_below_drewN | apply below_drew1) | exact HB.out))) : w.heap.size ≤ gb503)); clear HB; have HB := n0_; have BK503 := n1_; have GW503 := n2_; have GE503 := n3_; clear n0_ n1_ n2_ n3_; clear hb hbox hg; have hcz121_0 : w120.cell? ⟨gb503, 0, none⟩ = some (.int .i64 0) := (blk_cell BK503.out 0).trans rfl; have hcz121_1 : w120.cell? ⟨gb503, 1, none⟩ = some (.int .i64 0) := (blk_cell BK503.out 1).trans rfl; have hfz121_0 := blk_frozen BK503.out 0; have hfz121_1 := blk_frozen BK503.out 1)))
                 go_ret
                 exact ⟨by first | rfl | (simp [errW_none, errW_some] <;> rfl) | (simp only [← hji80]; first | rfl | (simp [errW_none, errW_some] <;> rfl)) | (simp [*, errW_none, errW_some] <;> rfl), by repeat (first | (with_reducible first | exact HB.out | apply below_alloc | apply pw_below_drewN | apply below_drew1 | refine below_set ?_ GE503.out) | exact HB.out)⟩
             ·
              rw [if_neg c106] at H
              have c106b0 : (t502 == 0) = false := beq_eq_false_iff_ne.mpr c106
              have c106b1 : (t502 != 0) = true := bne_iff_ne.mpr c106
              obtain rfl := Option.some.inj H
              have p482 : 0 ≤ (0 : Int) := (by omega)
              have q482 : 0 < (l0.length : Int) := of_decide_eq_true (by first | (with_reducible assumption) | assumption)
              obtain ⟨ad482, e482, hx482_0, hx482_1⟩ := at_T50 HR0.out 0 p482 q482
              cases e482
              have qi482 : (0 < l0.length) = True := eq_true (by omega)
              (try rw [show ((0 : Int)).toNat = 0 from rfl] at hx482_0)
              (try rw [show 0 * 2 = 0 from rfl] at hx482_0)
              (try rw [Addr.add_zero'] at hx482_0)
              (try rw [show ((0 : Int)).toNat = 0 from rfl] at hx482_1)
              (try rw [show 0 * 2 = 0 from rfl] at hx482_1)
              (try rw [Addr.add_zero'] at hx482_1)
              replace hx482_0 := (HB.out.cell (World.block_lt_of_cell? w _ hx482_0)).trans hx482_0
              replace hx482_1 := (HB.out.cell (World.block_lt_of_cell? w _ hx482_1)).trans hx482_1
              replace p482 := eq_true p482
              replace q482 := eq_true q482
              have p494 : 0 ≤ ((ji80) : Int) := of_decide_eq_true (by first | (with_reducible assumption) | assumption)
              have q494 : (ji80) < (l0.length : Int) := of_decide_eq_true (by first | (with_reducible assumption) | assumption)
              obtain ⟨ad494, e494, hx494_0, hx494_1⟩ := at_T50 HR0.out (ji80) p494 q494
              obtain rfl : ad482 = ad494 := (by injection e494)
              replace hx494_0 := (HB.out.cell (World.block_lt_of_cell? w _ hx494_0)).trans hx494_0
              replace hx494_1 := (HB.out.cell (World.block_lt_of_cell? w _ hx494_1)).trans hx494_1
              replace p494 := eq_true p494
              replace q494 := eq_true q494
              go_wp2_with (first | (go_at_call 27; (with_reducible refine (curve_Bounds.calls k1 _ _ l0 a2 a3 t500 t501 t502 _ ?side1 ?side2 A105.out).mono ?_); (case side1 => repeat (first | exact (Kd.C_below HR0.out HB.out) | (with_reducible refine Kd.C_alloc ?_ _) | (with_reducible refine Kd.C_drewN ?_ _) | (with_reducible refine Kd.C_drew ?_))); (case side2 => exact HC0.out); rintro e w122 ⟨rfl, hb⟩; have n0_ := Aside0.mk (below_step (by repeat (first | (with_reducible first | exact HB.out | apply below_alloc | apply pw_below_drewN | apply below_drew1) | exact HB.out)) hb); clear HB; have HB := n0_; clear n0_; (try clear hb); (try clear hb2); (try clear hk); (try clear hi)) | ((with_reducible refine gate_dst (N := 14) rfl ?_); (try (refine gate_guard (by rfl) ?_; dsimp only)); refine box_event ?hg (N := 14) ?hd (cs := #[.int .i64 0, .int .i64 0]) (t := 46) ?hr ?_; (case hd => rfl); (case hg => rfl); (case hr => first | (go_simp; done) | (go_simp; rfl)); intro gb503 hg w123 hbox hb; have n0_ := Aside0.mk (below_step (by repeat (first | (with_reducible first | exact HB.out | apply below_alloc | apply pw_below_drewN | apply below_drew1) | exact HB.out)) hb); have n1_ := Aside0.mk (hbox); have n2_ := Aside0.mk ((by rw [hg]; exact (below_size (by repeat (first | (with_reducible first | exact HB.out | apply below_alloc | apply pw_below_drewN | apply below_drew1) | exact HB.out))) : w.heap.size ≤ gb503)); have n3_ := Aside0.mk ((by rw [hg]; exact (below_size (by repeat (first | (with_reducible first | exact HB.out | apply below_alloc | apply pw_below_drewN | apply below_drew1) | exact HB.out))) : w.heap.size ≤ gb503)); clear HB; have HB := n0_; have BK503 := n1_; have GW503 := n2_; have GE503 := n3_; clear n0_ n1_ n2_ n3_; clear hb hbox hg; have hcz124_0 : w123.cell? ⟨gb503, 0, none⟩ = some (.int .i64 0) := (blk_cell BK503.out 0).trans rfl; have hcz124_1 : w123.cell? ⟨gb503, 1, none⟩ = some (.int .i64 0) := (blk_cell BK503.out 1).trans rfl; have hfz124_0 := blk_frozen BK503.out 0; have hfz124_1 := blk_frozen BK503.out 1))
              repeat (go_quiet (first | (go_at_call 27; (with_reducible refine (curve_Bounds.calls k1 _ _ l0 a2 a3 t500 t501 t502 _ ?side1 ?side2 A105.out).mono ?_); (case side1 => repeat (first | exact (Kd.C_below HR0.out HB.out) | (with_reducible refine Kd.C_alloc ?_ _) | (with_reducible refine Kd.C_drewN ?_ _) | (with_reducible refine Kd.C_drew ?_))); (case side2 => exact HC0.out); rintro e w122 ⟨rfl, hb⟩; have n0_ := Aside0.mk (below_step (by repeat (first | (with_reducible first | exact HB.out | apply below_alloc | apply pw_below_drewN | apply below_drew1) | exact HB.out)) hb); clear HB; have HB := n0_; clear n0_; (try clear hb); (try clear hb2); (try clear hk); (try clear hi)) | ((with_reducible refine gate_dst (N := 14) rfl ?_); (try (refine gate_guard (by rfl) ?_; dsimp only)); refine box_event ?hg (N := 14) ?hd (cs := #[.int .i64 0, .int .i64 0]) (t := 46) ?hr ?_; (case hd => rfl); (case hg => rfl); (case hr => first | (go_simp; done) | (go_simp; rfl)); intro gb503 hg w123 hbox hb; have n0_ := Aside0.mk (below_step (by repeat (first | (with_reducible first | exact HB.out | apply below_alloc | apply pw_below_drewN | apply below_drew1) | exact HB.out)) hb); have n1_ := Aside0.mk (hbox); have n2_ := Aside0.mk ((by rw [hg]; exact (below_size (by repeat (first | (with_reducible first | exact HB.out | apply below_alloc | apply pw_below_drewN | apply below_drew1) | exact HB.out))) : w.heap.size ≤ gb503)); have n3_ := Aside0.mk ((by rw [hg]; exact (below_size (by repeat (first | (with_reducible first | exact HB.out | apply below_alloc | apply pw_below_drewN | apply below_drew1) | exact HB.out))) : w.heap.size ≤ gb503)); clear HB; have HB := n0_; have BK503 := n1_; have GW503 := n2_; have GE503 := n3_; clear n0_ n1_ n2_ n3_; clear hb hbox hg; have hcz124_0 : w123.cell? ⟨gb503, 0, none⟩ = some (.int .i64 0) := (blk_cell BK503.out 0).trans rfl; have hcz124_1 : w123.cell? ⟨gb503, 1, none⟩ = some (.int .i64 0) := (blk_cell BK503.out 1).trans rfl; have hfz124_0 := blk_frozen BK503.out 0; have hfz124_1 := blk_frozen BK503.out 1)); try go_wp2_with (first | (go_at_call 27; (with_reducible refine (curve_Bounds.calls k1 _ _ l0 a2 a3 t500 t501 t502 _ ?side1 ?side2 A105.out).mono ?_); (case side1 => repeat (first | exact (Kd.C_below HR0.out HB.out) | (with_reducible refine Kd.C_alloc ?_ _) | (with_reducible refine Kd.C_drewN ?_ _) | (with_reducible refine Kd.C_drew ?_))); (case side2 => exact HC0.out); rintro e w122 ⟨rfl, hb⟩; have n0_ := Aside0.mk (below_step (by repeat (first | (with_reducible first | exact HB.out | apply below_alloc | apply pw_below_drewN | apply below_drew1) | exact HB.out)) hb); clear HB; have HB := n0_; clear n0_; (try clear hb); (try clear hb2); (try clear hk); (try clear hi)) | ((with_reducible refine gate_dst (N := 14) rfl ?_); (try (refine gate_guard (by rfl) ?_; dsimp only)); refine box_event ?hg (N := 14) ?hd (cs := #[.int .i64 0, .int .i64 0]) (t := 46) ?hr ?_; (case hd => rfl); (case hg => rfl); (case hr => first | (go_simp; done) | (go_simp; rfl)); intro gb503 hg w123 hbox hb; have n0_ := Aside0.mk (below_step (by repeat (first | (with_reducible first | exact HB.out | apply below_alloc | apply pw_below_drewN | apply below_drew1) | exact HB.out)) hb); have n1_ := Aside0.mk (hbox); have n2_ := Aside0.mk ((by rw [hg]; exact (below_size (by repeat (first | (with_reducible first | exact HB.out | apply below_alloc | apply pw_below_drewN | apply below_drew1) | exact HB.out))) : w.heap.size ≤ gb503)); have n3_ := Aside0.mk ((by rw [hg]; exact (below_size (by repeat (first | (with_reducible first | exact HB.out | apply below_alloc | apply pw_below_drewN | apply below_drew1) | exact HB.out))) : w.heap.size ≤ gb503)); clear HB; have HB := n0_; have BK503 := n1_; have GW503 := n2_; have GE503 := n3_; clear n0_ n1_ n2_ n3_; clear hb hbox hg; have hcz124_0 : w123.cell? ⟨gb503, 0, none⟩ = some (.int .i64 0) := (blk_cell BK503.out 0).trans rfl; have hcz124_1 : w123.cell? ⟨gb503, 1, none⟩ = some (.int .i64 0) := (blk_cell BK503.out 1).trans rfl; have hfz124_0 := blk_frozen BK503.out 0; have hfz124_1 := blk_frozen BK503.out 1)))
              go_ret
              exact ⟨by first | rfl | (simp [errW_none, errW_some] <;> rfl) | (simp only [← hji80]; first | rfl | (simp [errW_none, errW_some] <;> rfl)) | (simp [*, errW_none, errW_some] <;> rfl), by repeat (first | (with_reducible first | exact HB.out | apply below_alloc | apply pw_below_drewN | apply below_drew1 | refine below_set ?_ GE503.out) | exact HB.out)⟩
           ·
            rw [if_neg c82] at H
            exact absurd H (by simp)
          ·
           rw [if_neg c81] at H
           exact absurd H (by simp)
       ·
        rw [if_neg c32] at H
        exact absurd H (by simp)
  ·
   rw [if_neg c8] at H
   have c8b0 : (t481 == 0) = false := beq_eq_false_iff_ne.mpr c8
   have c8b1 : (t481 != 0) = true := bne_iff_ne.mpr c8
   obtain rfl := Option.some.inj H
   go_enter Try.func7, Try.ntmps7
   go_wp2_with (first | (go_at_call 11; (with_reducible refine (plenumlaw03_awake.calls  true _ A5.out).mono ?_); rintro e w125 ⟨rfl, hb⟩; have n0_ := Aside0.mk (below_step (by repeat (first | (with_reducible first | exact HB.out | apply below_alloc | apply pw_below_drewN | apply below_drew1) | exact HB.out)) hb); clear HB; have HB := n0_; clear n0_; (try clear hb); (try clear hb2); (try clear hk); (try clear hi)) | (go_at_call 20; (with_reducible refine (curve_Eval.calls k _ _ l0 a1 t480 t481 _ ?side1 ?side2 A7.out).mono ?_); (case side1 => repeat (first | exact (Kd.C_below HR0.out HB.out) | (with_reducible refine Kd.C_alloc ?_ _) | (with_reducible refine Kd.C_drewN ?_ _) | (with_reducible refine Kd.C_drew ?_))); (case side2 => exact HC0.out); rintro e w126 ⟨rfl, hb⟩; have n0_ := Aside0.mk (below_step (by repeat (first | (with_reducible first | exact HB.out | apply below_alloc | apply pw_below_drewN | apply below_drew1) | exact HB.out)) hb); clear HB; have HB := n0_; clear n0_; (try clear hb); (try clear hb2); (try clear hk); (try clear hi)))
   repeat (go_quiet (first | (go_at_call 11; (with_reducible refine (plenumlaw03_awake.calls  true _ A5.out).mono ?_); rintro e w125 ⟨rfl, hb⟩; have n0_ := Aside0.mk (below_step (by repeat (first | (with_reducible first | exact HB.out | apply below_alloc | apply pw_below_drewN | apply below_drew1) | exact HB.out)) hb); clear HB; have HB := n0_; clear n0_; (try clear hb); (try clear hb2); (try clear hk); (try clear hi)) | (go_at_call 20; (with_reducible refine (curve_Eval.calls k _ _ l0 a1 t480 t481 _ ?side1 ?side2 A7.out).mono ?_); (case side1 => repeat (first | exact (Kd.C_below HR0.out HB.out) | (with_reducible refine Kd.C_alloc ?_ _) | (with_reducible refine Kd.C_drewN ?_ _) | (with_reducible refine Kd.C_drew ?_))); (case side2 => exact HC0.out); rintro e w126 ⟨rfl, hb⟩; have n0_ := Aside0.mk (below_step (by repeat (first | (with_reducible first | exact HB.out | apply below_alloc | apply pw_below_drewN | apply below_drew1) | exact HB.out)) hb); clear HB; have HB := n0_; clear n0_; (try clear hb); (try clear hb2); (try clear hk); (try clear hi))); try go_wp2_with (first | (go_at_call 11; (with_reducible refine (plenumlaw03_awake.calls  true _ A5.out).mono ?_); rintro e w125 ⟨rfl, hb⟩; have n0_ := Aside0.mk (below_step (by repeat (first | (with_reducible first | exact HB.out | apply below_alloc | apply pw_below_drewN | apply below_drew1) | exact HB.out)) hb); clear HB; have HB := n0_; clear n0_; (try clear hb); (try clear hb2); (try clear hk); (try clear hi)) | (go_at_call 20; (with_reducible refine (curve_Eval.calls k _ _ l0 a1 t480 t481 _ ?side1 ?side2 A7.out).mono ?_); (case side1 => repeat (first | exact (Kd.C_below HR0.out HB.out) | (with_reducible refine Kd.C_alloc ?_ _) | (with_reducible refine Kd.C_drewN ?_ _) | (with_reducible refine Kd.C_drew ?_))); (case side2 => exact HC0.out); rintro e w126 ⟨rfl, hb⟩; have n0_ := Aside0.mk (below_step (by repeat (first | (with_reducible first | exact HB.out | apply below_alloc | apply pw_below_drewN | apply below_drew1) | exact HB.out)) hb); clear HB; have HB := n0_; clear n0_; (try clear hb); (try clear hb2); (try clear hk); (try clear hi))))
   go_ret
   exact ⟨by first | rfl | (simp [errW_none, errW_some] <;> rfl) | (simp [*, errW_none, errW_some] <;> rfl), by repeat (first | (with_reducible first | exact HB.out | apply below_alloc | apply pw_below_drewN | apply below_drew1) | exact HB.out)⟩
 ·
  replace c6 := Bool.eq_false_iff.mpr c6
  subst c6
  have H1 : (some false) = some r := by rw [if_neg (show ¬ (false = true) by decide)] at H; exact H
  clear H
  have H := H1
  clear H1
  obtain rfl := Option.some.inj H
  go_enter Try.func7, Try.ntmps7
  go_wp2_with (first | (go_at_call 11; (with_reducible refine (plenumlaw03_awake.calls  false _ A5.out).mono ?_); rintro e w127 ⟨rfl, hb⟩; have n0_ := Aside0.mk (below_step (by repeat (first | (with_reducible first | exact HB.out | apply below_alloc | apply pw_below_drewN | apply below_drew1) | exact HB.out)) hb); clear HB; have HB := n0_; clear n0_; (try clear hb); (try clear hb2); (try clear hk); (try clear hi)))
  repeat (go_quiet (first | (go_at_call 11; (with_reducible refine (plenumlaw03_awake.calls  false _ A5.out).mono ?_); rintro e w127 ⟨rfl, hb⟩; have n0_ := Aside0.mk (below_step (by repeat (first | (with_reducible first | exact HB.out | apply below_alloc | apply pw_below_drewN | apply below_drew1) | exact HB.out)) hb); clear HB; have HB := n0_; clear n0_; (try clear hb); (try clear hb2); (try clear hk); (try clear hi))); try go_wp2_with (first | (go_at_call 11; (with_reducible refine (plenumlaw03_awake.calls  false _ A5.out).mono ?_); rintro e w127 ⟨rfl, hb⟩; have n0_ := Aside0.mk (below_step (by repeat (first | (with_reducible first | exact HB.out | apply below_alloc | apply pw_below_drewN | apply below_drew1) | exact HB.out)) hb); clear HB; have HB := n0_; clear n0_; (try clear hb); (try clear hb2); (try clear hk); (try clear hi))))
  go_ret
  exact ⟨by first | rfl | (simp [errW_none, errW_some] <;> rfl) | (simp [*, errW_none, errW_some] <;> rfl), by repeat (first | (with_reducible first | exact HB.out | apply below_alloc | apply pw_below_drewN | apply below_drew1) | exact HB.out)⟩
/-- THE ONE PURE STATEMENT of plenumlaw03_CurveBetween. -/
def plenumlaw03_CurveBetween.Pure : Prop := ∀ (l0 : List (S50)) (a1 : Int) (a2 : Int) (a3 : Int), l0.length ≤ maxLen → l0.length * 16 ≤ 140737488351232 → (∀ x ∈ l0, (Lit.int .i64 x.f0).wf = true ∧ (Lit.int .i64 x.f1).wf = true) → (Lit.int .i64 a1).wf = true → (Lit.int .i64 a2).wf = true → (Lit.int .i64 a3).wf = true → ∃ k, plenumlaw03_CurveBetween.f k l0 a1 a2 a3 = some true
theorem plenumlaw03_CurveBetween.walk (P : plenumlaw03_CurveBetween.Pure) (A0 : Option Addr) (c0 : Nat) (l0 : List (S50)) (a1 : Int) (a2 : Int) (a3 : Int) (w : World) (hr0 : Kd.C k50 w A0 l0.length l0) (hc0 : l0.length ≤ c0) (hm0 : l0.length ≤ maxLen) (y0 : l0.length * 16 ≤ 140737488351232) (hw0 : ∀ x ∈ l0, (Lit.int .i64 x.f0).wf = true ∧ (Lit.int .i64 x.f1).wf = true) (wa1 : (Lit.int .i64 a1).wf = true) (wa2 : (Lit.int .i64 a2).wf = true) (wa3 : (Lit.int .i64 a3).wf = true) :
 Calls Try.prog 7 #[.slice A0 l0.length c0, .int .i64 a1, .int .i64 a2, .int .i64 a3] w fun e w' => e = .returned (.bool true) ∧ Below w.heap.size w w' := by
 obtain ⟨k, h⟩ := P l0 a1 a2 a3 hm0 y0 hw0 wa1 wa2 wa3
 refine (plenumlaw03_CurveBetween.calls k A0 c0 l0 a1 a2 a3 true w hr0 hc0 h).mono ?_
 rintro e w' ⟨rfl, hd⟩
 exact ⟨rfl, hd⟩
end Go.Proofs.Ytacheoimnckghaa.PT
