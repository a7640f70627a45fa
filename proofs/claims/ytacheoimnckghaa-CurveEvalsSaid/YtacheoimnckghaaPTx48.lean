-- Laid by hp.py (a program of this session's) through the kit's printer. (squeezed)
import Derived.Test.YtacheoimnckghaaPTx0
import Derived.Test.YtacheoimnckghaaPTx6
import Derived.Test.YtacheoimnckghaaPTx21
import Derived.Test.YtacheoimnckghaaPTx23
import Derived.Test.YtacheoimnckghaaPTx28
import Derived.Test.YtacheoimnckghaaPTx31
import Derived.Test.YtacheoimnckghaaPTx46
import Derived.Test.YtacheoimnckghaaPTx47
namespace Go.Proofs.Ytacheoimnckghaa.PT
open Go.RowKit Go.Proofs.YtacheoimnckghaaW.PrintWords Go.Proofs.YtacheoimnckghaaW.PrintLast Go.Proofs.YtacheoimnckghaaW.PrintMore
attribute [local go_sem] max2_int min2_int max_two min_two max_three min_three max_four min_four   -- for this text's walks alone
set_option linter.unusedVariables false
set_option linter.unusedSimpArgs false
/-! ### plenumlaw03_CurveEvals: function 5 -/
def plenumlaw03_CurveEvals.j0 : Nat → List (S50) → Int → Int → Int → Int → Bool → Option (Bool)
 | 0, _, _, _, _, _, _ => none
 | k + 1, x0, x1, x5, x6, x8, x41 => if x41 = true then (some false) else (if x5 = 0 then ((plenumref03_Eval.f k x0 x1).bind fun t448 => (if x6 = t448 then ((plenumref03_Direction.f k x0).bind fun t449 => (some (x8 == t449))) else (some false))) else (if x6 = 0 then (some (x8 == 0)) else (some false)))
def plenumlaw03_CurveEvals.f (k : Nat) (l0 : List (S50)) (a1 : Int) : Option (Bool) := (plenumlaw03_awake.f).bind fun t441 => (if t441 = true then (if (l0.length : Int) > 40 then (some true) else ((plenumref03_Check.f k l0).bind fun t442 => ((curve_Eval.f k l0 a1).bind fun bt443 => ((curve_Direction.f k l0).bind fun bt445 => ((curve_Check.f k l0).bind fun t447 => (if t447 = t442 then (if bt443.2 = t442 then (plenumlaw03_CurveEvals.j0 k l0 a1 t442 bt443.1 bt445.1 (bt445.2 != t442)) else (plenumlaw03_CurveEvals.j0 k l0 a1 t442 bt443.1 bt445.1 true)) else (plenumlaw03_CurveEvals.j0 k l0 a1 t442 bt443.1 bt445.1 true))))))) else (some false))
theorem plenumlaw03_CurveEvals.mono_l : ∀ k, (∀ y0 y1 y2 y3 y4 y5, LeO (plenumlaw03_CurveEvals.j0 k y0 y1 y2 y3 y4 y5) (plenumlaw03_CurveEvals.j0 (k + 1) y0 y1 y2 y3 y4 y5))
 | 0 => fun _ _ _ _ _ _ r h => by simp [plenumlaw03_CurveEvals.j0] at h
 | k + 1 => by
  have ih0 := plenumlaw03_CurveEvals.mono_l k
  ·
   intro y0 y1 y2 y3 y4 y5
   unfold plenumlaw03_CurveEvals.j0
   repeat' first
   | (with_reducible exact ih0 _ _ _ _ _ _)
   | (with_reducible exact curve_Check.mono _ _)
   | (with_reducible exact curve_Direction.mono _ _)
   | (with_reducible exact curve_Eval.mono _ _ _)
   | (with_reducible exact plenumref03_Check.mono _ _)
   | (with_reducible exact plenumref03_Direction.mono _ _)
   | (with_reducible exact plenumref03_Eval.mono _ _ _)
   | (with_reducible exact LeO.refl _)
   | (with_reducible exact LeO.none _)
   | (with_reducible refine LeO.ite ?_ ?_)
   | (with_reducible refine LeO.bind ?_ (fun _ => ?_))
   | exact ih0 _ _ _ _ _ _
   | exact curve_Check.mono _ _
   | exact curve_Direction.mono _ _
   | exact curve_Eval.mono _ _ _
   | exact plenumref03_Check.mono _ _
   | exact plenumref03_Direction.mono _ _
   | exact plenumref03_Eval.mono _ _ _
   | exact LeO.none _
   | refine LeO.ite ?_ ?_
   | refine LeO.bind ?_ (fun _ => ?_)
theorem plenumlaw03_CurveEvals.mono : ∀ a0 a1 k, LeO (plenumlaw03_CurveEvals.f k a0 a1) (plenumlaw03_CurveEvals.f (k + 1) a0 a1) := by
 intro a0 a1 k
 have ih0 := plenumlaw03_CurveEvals.mono_l k
 unfold plenumlaw03_CurveEvals.f
 repeat' first
  | (with_reducible exact ih0 _ _ _ _ _ _)
  | (with_reducible exact curve_Check.mono _ _)
  | (with_reducible exact curve_Direction.mono _ _)
  | (with_reducible exact curve_Eval.mono _ _ _)
  | (with_reducible exact plenumref03_Check.mono _ _)
  | (with_reducible exact plenumref03_Direction.mono _ _)
  | (with_reducible exact plenumref03_Eval.mono _ _ _)
  | (with_reducible exact LeO.refl _)
  | (with_reducible exact LeO.none _)
  | (with_reducible refine LeO.ite ?_ ?_)
  | (with_reducible refine LeO.bind ?_ (fun _ => ?_))
  | exact ih0 _ _ _ _ _ _
  | exact curve_Check.mono _ _
  | exact curve_Direction.mono _ _
  | exact curve_Eval.mono _ _ _
  | exact plenumref03_Check.mono _ _
  | exact plenumref03_Direction.mono _ _
  | exact plenumref03_Eval.mono _ _ _
  | exact LeO.none _
  | refine LeO.ite ?_ ?_
  | refine LeO.bind ?_ (fun _ => ?_)
set_option maxHeartbeats 8000000 in
set_option maxRecDepth 100000 in
theorem plenumlaw03_CurveEvals.calls (k : Nat) (A0 : Option Addr) (c0 : Nat) (l0 : List (S50)) (a1 : Int) (r : Bool) (w : World) (hr0 : Kd.C k50 w A0 l0.length l0) (hc0 : l0.length ≤ c0) (h : plenumlaw03_CurveEvals.f k l0 a1 = some r) :
 Calls Try.prog 5 #[.slice A0 l0.length c0, .int .i64 a1] w fun e w' => e = .returned (.bool r) ∧ Below w.heap.size w w' := by
 have HR0 := Aside0.mk hr0
 have HC0 := Aside0.mk hc0
 clear hr0 hc0
 have HB := Aside0.mk (Below.refl w.heap.size w)
 have H : ((plenumlaw03_awake.f).bind fun t441 => (if t441 = true then (if (l0.length : Int) > 40 then (some true) else ((plenumref03_Check.f k l0).bind fun t442 => ((curve_Eval.f k l0 a1).bind fun bt443 => ((curve_Direction.f k l0).bind fun bt445 => ((curve_Check.f k l0).bind fun t447 => (if t447 = t442 then (if bt443.2 = t442 then (plenumlaw03_CurveEvals.j0 k l0 a1 t442 bt443.1 bt445.1 (bt445.2 != t442)) else (plenumlaw03_CurveEvals.j0 k l0 a1 t442 bt443.1 bt445.1 true)) else (plenumlaw03_CurveEvals.j0 k l0 a1 t442 bt443.1 bt445.1 true))))))) else (some false))) = some r := h
 clear h
 replace H := Option.bind_eq_some_iff.mp H
 obtain ⟨t441, A30, H⟩ := H
 replace H : (if t441 = true then (if (l0.length : Int) > 40 then (some true) else ((plenumref03_Check.f k l0).bind fun t442 => ((curve_Eval.f k l0 a1).bind fun bt443 => ((curve_Direction.f k l0).bind fun bt445 => ((curve_Check.f k l0).bind fun t447 => (if t447 = t442 then (if bt443.2 = t442 then (plenumlaw03_CurveEvals.j0 k l0 a1 t442 bt443.1 bt445.1 (bt445.2 != t442)) else (plenumlaw03_CurveEvals.j0 k l0 a1 t442 bt443.1 bt445.1 true)) else (plenumlaw03_CurveEvals.j0 k l0 a1 t442 bt443.1 bt445.1 true))))))) else (some false)) = some r := H
 have A3 := Aside0.mk A30
 clear A30
 by_cases c4 : t441 = true
 ·
  subst c4
  have H1 : (if (l0.length : Int) > 40 then (some true) else ((plenumref03_Check.f k l0).bind fun t442 => ((curve_Eval.f k l0 a1).bind fun bt443 => ((curve_Direction.f k l0).bind fun bt445 => ((curve_Check.f k l0).bind fun t447 => (if t447 = t442 then (if bt443.2 = t442 then (plenumlaw03_CurveEvals.j0 k l0 a1 t442 bt443.1 bt445.1 (bt445.2 != t442)) else (plenumlaw03_CurveEvals.j0 k l0 a1 t442 bt443.1 bt445.1 true)) else (plenumlaw03_CurveEvals.j0 k l0 a1 t442 bt443.1 bt445.1 true))))))) = some r := by rw [if_pos rfl] at H; exact H
  clear H
  have H := H1
  clear H1
  by_cases c5 : (l0.length : Int) > 40
  ·
   rw [if_pos c5] at H
   have c5b0 : decide (40 < (l0.length : Int)) = true := decide_eq_true c5
   have c5b1 : decide (40 < l0.length) = true := decide_eq_true (by omega)
   clear c5
   obtain rfl := Option.some.inj H
   go_enter Try.func5, Try.ntmps5
   go_wp2_with (first | ((with_reducible refine gate_callee (f := 11) rfl ?_); refine goesL_ (some 10) rfl rfl Try.func11 (by kernel_rfl) rfl #[] rfl (by (try simp only [List.map_toArray, List.map_cons, List.map_nil]); first | done | rfl | (simp only [List.length_drop, List.length_take]; rfl)) ?_; (with_reducible refine (plenumlaw03_awake.calls  true _ A3.out).mono ?_); rintro e w6 ⟨rfl, hb⟩; refine ⟨_, rfl, ?_⟩; have n0_ := Aside0.mk (below_step (by repeat (first | (with_reducible first | exact HB.out | apply below_alloc | apply pw_below_drewN | apply below_drew1) | exact HB.out)) hb); clear HB; have HB := n0_; clear n0_; (try clear hb); (try clear hb2); (try clear hk); (try clear hi)))
   go_ret
   exact ⟨by first | rfl | (simp [errW_none, errW_some] <;> rfl) | (simp [*, errW_none, errW_some] <;> rfl), by repeat (first | (with_reducible first | exact HB.out | apply below_alloc | apply pw_below_drewN | apply below_drew1) | exact HB.out)⟩
  ·
   rw [if_neg c5] at H
   have c5b0 : decide (40 < (l0.length : Int)) = false := decide_eq_false c5
   have c5b1 : decide (40 < l0.length) = false := decide_eq_false (by omega)
   clear c5
   replace H := Option.bind_eq_some_iff.mp H
   obtain ⟨t442, A70, H⟩ := H
   replace H : ((curve_Eval.f k l0 a1).bind fun bt443 => ((curve_Direction.f k l0).bind fun bt445 => ((curve_Check.f k l0).bind fun t447 => (if t447 = t442 then (if bt443.2 = t442 then (plenumlaw03_CurveEvals.j0 k l0 a1 t442 bt443.1 bt445.1 (bt445.2 != t442)) else (plenumlaw03_CurveEvals.j0 k l0 a1 t442 bt443.1 bt445.1 true)) else (plenumlaw03_CurveEvals.j0 k l0 a1 t442 bt443.1 bt445.1 true))))) = some r := H
   have A7 := Aside0.mk A70
   clear A70
   replace H := Option.bind_eq_some_iff.mp H
   obtain ⟨⟨t443, t444⟩, A80, H⟩ := H
   replace H : ((curve_Direction.f k l0).bind fun bt445 => ((curve_Check.f k l0).bind fun t447 => (if t447 = t442 then (if t444 = t442 then (plenumlaw03_CurveEvals.j0 k l0 a1 t442 t443 bt445.1 (bt445.2 != t442)) else (plenumlaw03_CurveEvals.j0 k l0 a1 t442 t443 bt445.1 true)) else (plenumlaw03_CurveEvals.j0 k l0 a1 t442 t443 bt445.1 true)))) = some r := H
   have A8 := Aside0.mk A80
   clear A80
   replace H := Option.bind_eq_some_iff.mp H
   obtain ⟨⟨t445, t446⟩, A90, H⟩ := H
   replace H : ((curve_Check.f k l0).bind fun t447 => (if t447 = t442 then (if t444 = t442 then (plenumlaw03_CurveEvals.j0 k l0 a1 t442 t443 t445 (t446 != t442)) else (plenumlaw03_CurveEvals.j0 k l0 a1 t442 t443 t445 true)) else (plenumlaw03_CurveEvals.j0 k l0 a1 t442 t443 t445 true))) = some r := H
   have A9 := Aside0.mk A90
   clear A90
   have HC10 := Aside0.mk H
   clear H
   go_enter Try.func5, Try.ntmps5
   go_upto_region 8 with (first | ((with_reducible refine gate_callee (f := 11) rfl ?_); refine goesL_ (some 10) rfl rfl Try.func11 (by kernel_rfl) rfl #[] rfl (by (try simp only [List.map_toArray, List.map_cons, List.map_nil]); first | done | rfl | (simp only [List.length_drop, List.length_take]; rfl)) ?_; (with_reducible refine (plenumlaw03_awake.calls  true _ A3.out).mono ?_); rintro e w11 ⟨rfl, hb⟩; refine ⟨_, rfl, ?_⟩; have n0_ := Aside0.mk (below_step (by repeat (first | (with_reducible first | exact HB.out | apply below_alloc | apply pw_below_drewN | apply below_drew1) | exact HB.out)) hb); clear HB; have HB := n0_; clear n0_; (try clear hb); (try clear hb2); (try clear hk); (try clear hi)) | ((with_reducible refine gate_callee (f := 17) rfl ?_); refine goesL_ (some 16) rfl rfl Try.func17 (by kernel_rfl) rfl #[.slice A0 l0.length c0] rfl (by (try simp only [List.map_toArray, List.map_cons, List.map_nil]); first | done | rfl | (simp only [List.length_drop, List.length_take]; rfl)) ?_; (with_reducible refine (plenumref03_Check.calls k _ _ l0 t442 _ ?side1 ?side2 A7.out).mono ?_); (case side1 => repeat (first | exact (Kd.C_below HR0.out HB.out) | (with_reducible refine Kd.C_alloc ?_ _) | (with_reducible refine Kd.C_drewN ?_ _) | (with_reducible refine Kd.C_drew ?_))); (case side2 => exact HC0.out); rintro e w' ⟨rfl, ⟨nd, rfl⟩⟩; refine ⟨_, rfl, ?_⟩) | ((with_reducible refine gate_callee (f := 20) rfl ?_); refine goesL_ (some 20) rfl rfl Try.func20 (by kernel_rfl) rfl #[.slice A0 l0.length c0, .int .i64 a1] rfl (by (try simp only [List.map_toArray, List.map_cons, List.map_nil]); first | done | rfl | (simp only [List.length_drop, List.length_take]; rfl)) ?_; (with_reducible refine (curve_Eval.calls k _ _ l0 a1 t443 t444 _ ?side1 ?side2 A8.out).mono ?_); (case side1 => repeat (first | exact (Kd.C_below HR0.out (by repeat (first | (with_reducible first | exact HB.out | apply below_alloc | apply pw_below_drewN | apply below_drew1) | exact HB.out))) | (with_reducible refine Kd.C_alloc ?_ _) | (with_reducible refine Kd.C_drewN ?_ _) | (with_reducible refine Kd.C_drew ?_))); (case side2 => exact HC0.out); rintro e w12 ⟨rfl, hb⟩; refine ⟨_, rfl, ?_⟩; have n0_ := Aside0.mk (below_step (by repeat (first | (with_reducible first | exact HB.out | apply below_alloc | apply pw_below_drewN | apply below_drew1) | exact HB.out)) hb); clear HB; have HB := n0_; clear n0_; (try clear hb); (try clear hb2); (try clear hk); (try clear hi)) | ((with_reducible refine gate_callee (f := 21) rfl ?_); refine goesL_ (some 25) rfl rfl Try.func21 (by kernel_rfl) rfl #[.slice A0 l0.length c0] rfl (by (try simp only [List.map_toArray, List.map_cons, List.map_nil]); first | done | rfl | (simp only [List.length_drop, List.length_take]; rfl)) ?_; (with_reducible refine (curve_Direction.calls k _ _ l0 t445 t446 _ ?side1 ?side2 A9.out).mono ?_); (case side1 => repeat (first | exact (Kd.C_below HR0.out HB.out) | (with_reducible refine Kd.C_alloc ?_ _) | (with_reducible refine Kd.C_drewN ?_ _) | (with_reducible refine Kd.C_drew ?_))); (case side2 => exact HC0.out); rintro e w13 ⟨rfl, hb⟩; refine ⟨_, rfl, ?_⟩; have n0_ := Aside0.mk (below_step (by repeat (first | (with_reducible first | exact HB.out | apply below_alloc | apply pw_below_drewN | apply below_drew1) | exact HB.out)) hb); clear HB; have HB := n0_; clear n0_; (try clear hb); (try clear hb2); (try clear hk); (try clear hi)))
   (try simp only [Act.put, List.setIfInBounds_toArray, List.set_cons_zero, List.set_cons_succ])
   go_cut [41] (fun v41 wc => ∃ (kq : Nat) (x41_9 : Bool), v41 = .bool x41_9 ∧ Aside0 (plenumlaw03_CurveEvals.j0 kq l0 a1 t442 t443 t445 x41_9 = some r) ∧ Aside0 (kq ≤ k) ∧ Aside0 (Below w.heap.size w wc))
   case first =>
    have H := HC10.out
    clear HC10
    replace H := Option.bind_eq_some_iff.mp H
    obtain ⟨t447, A140, H⟩ := H
    replace H : (if t447 = t442 then (if t444 = t442 then (plenumlaw03_CurveEvals.j0 k l0 a1 t442 t443 t445 (t446 != t442)) else (plenumlaw03_CurveEvals.j0 k l0 a1 t442 t443 t445 true)) else (plenumlaw03_CurveEvals.j0 k l0 a1 t442 t443 t445 true)) = some r := H
    have A14 := Aside0.mk A140
    clear A140
    by_cases c15 : t447 = t442
    ·
     rw [if_pos c15] at H
     have c15b0 : (t447 == t442) = true := beq_iff_eq.mpr c15
     have c15b1 : (t447 != t442) = false := bne_eq_false_iff_eq.mpr c15
     clear c15
     (first | rw [c15b0] | (simp only [i64_w, i32_w]; rw [c15b0]) | skip)
     by_cases c16 : t444 = t442
     ·
      rw [if_pos c16] at H
      have c16b0 : (t444 == t442) = true := beq_iff_eq.mpr c16
      have c16b1 : (t444 != t442) = false := bne_eq_false_iff_eq.mpr c16
      clear c16
      have H' := Aside0.mk H
      clear H
      go_wp2_with (first | ((with_reducible refine gate_callee (f := 22) rfl ?_); refine goesL_ (some 29) rfl rfl Try.func22 (by kernel_rfl) rfl #[.slice A0 l0.length c0] rfl (by (try simp only [List.map_toArray, List.map_cons, List.map_nil]); first | done | rfl | (simp only [List.length_drop, List.length_take]; rfl)) ?_; (with_reducible refine (curve_Check.calls k _ _ l0 t447 _ ?side1 ?side2 A14.out).mono ?_); (case side1 => repeat (first | exact (Kd.C_below HR0.out HB.out) | (with_reducible refine Kd.C_alloc ?_ _) | (with_reducible refine Kd.C_drewN ?_ _) | (with_reducible refine Kd.C_drew ?_))); (case side2 => exact HC0.out); rintro e w17 ⟨rfl, hb⟩; refine ⟨_, rfl, ?_⟩; have n0_ := Aside0.mk (below_step (by repeat (first | (with_reducible first | exact HB.out | apply below_alloc | apply pw_below_drewN | apply below_drew1) | exact HB.out)) hb); clear HB; have HB := n0_; clear n0_; (try clear hb); (try clear hb2); (try clear hk); (try clear hi)))
      go_meet
      case rel => exact ⟨_, ((t446 != t442)), (by first | rfl | (simp; done) | (simp [*]; done)), H', ⟨by first | omega | exact Nat.le_refl _⟩, ⟨by repeat (first | (with_reducible first | exact HB.out | apply below_alloc | apply pw_below_drewN | apply below_drew1) | exact HB.out)⟩⟩
     ·
      rw [if_neg c16] at H
      have c16b0 : (t444 == t442) = false := beq_eq_false_iff_ne.mpr c16
      have c16b1 : (t444 != t442) = true := bne_iff_ne.mpr c16
      have H' := Aside0.mk H
      clear H
      go_wp2_with (first | ((with_reducible refine gate_callee (f := 22) rfl ?_); refine goesL_ (some 29) rfl rfl Try.func22 (by kernel_rfl) rfl #[.slice A0 l0.length c0] rfl (by (try simp only [List.map_toArray, List.map_cons, List.map_nil]); first | done | rfl | (simp only [List.length_drop, List.length_take]; rfl)) ?_; (with_reducible refine (curve_Check.calls k _ _ l0 t447 _ ?side1 ?side2 A14.out).mono ?_); (case side1 => repeat (first | exact (Kd.C_below HR0.out HB.out) | (with_reducible refine Kd.C_alloc ?_ _) | (with_reducible refine Kd.C_drewN ?_ _) | (with_reducible refine Kd.C_drew ?_))); (case side2 => exact HC0.out); rintro e w18 ⟨rfl, hb⟩; refine ⟨_, rfl, ?_⟩; have n0_ := Aside0.mk (below_step (by repeat (first | (with_reducible first | exact HB.out | apply below_alloc | apply pw_below_drewN | apply below_drew1) | exact HB.out)) hb); clear HB; have HB := n0_; clear n0_; (try clear hb); (try clear hb2); (try clear hk); (try clear hi)))
      go_meet
      case rel => exact ⟨_, (true), (by first | rfl | (simp; done) | (simp [*]; done)), H', ⟨by first | omega | exact Nat.le_refl _⟩, ⟨by repeat (first | (with_reducible first | exact HB.out | apply below_alloc | apply pw_below_drewN | apply below_drew1) | exact HB.out)⟩⟩
    ·
     rw [if_neg c15] at H
     have c15b0 : (t447 == t442) = false := beq_eq_false_iff_ne.mpr c15
     have c15b1 : (t447 != t442) = true := bne_iff_ne.mpr c15
     (first | rw [c15b0] | (simp only [i64_w, i32_w]; rw [c15b0]) | skip)
     have H' := Aside0.mk H
     clear H
     go_wp2_with (first | ((with_reducible refine gate_callee (f := 22) rfl ?_); refine goesL_ (some 29) rfl rfl Try.func22 (by kernel_rfl) rfl #[.slice A0 l0.length c0] rfl (by (try simp only [List.map_toArray, List.map_cons, List.map_nil]); first | done | rfl | (simp only [List.length_drop, List.length_take]; rfl)) ?_; (with_reducible refine (curve_Check.calls k _ _ l0 t447 _ ?side1 ?side2 A14.out).mono ?_); (case side1 => repeat (first | exact (Kd.C_below HR0.out HB.out) | (with_reducible refine Kd.C_alloc ?_ _) | (with_reducible refine Kd.C_drewN ?_ _) | (with_reducible refine Kd.C_drew ?_))); (case side2 => exact HC0.out); rintro e w19 ⟨rfl, hb⟩; refine ⟨_, rfl, ?_⟩; have n0_ := Aside0.mk (below_step (by repeat (first | (with_reducible first | exact HB.out | apply below_alloc | apply pw_below_drewN | apply below_drew1) | exact HB.out)) hb); clear HB; have HB := n0_; clear n0_; (try clear hb); (try clear hb2); (try clear hk); (try clear hi)))
     go_meet
     case rel => exact ⟨_, (true), (by first | rfl | (simp; done) | (simp [*]; done)), H', ⟨by first | omega | exact Nat.le_refl _⟩, ⟨by repeat (first | (with_reducible first | exact HB.out | apply below_alloc | apply pw_below_drewN | apply below_drew1) | exact HB.out)⟩⟩
   case rest =>
    clear HC10
    try clear c1
    try clear c2
    try clear p2
    try clear c4
    try clear c5
    try clear c5b0
    try clear c5b1
    try clear c11
    try clear c15
    try clear c15b0
    try clear c15b1
    try clear c16
    try clear c16b0
    try clear c16b1
    try clear c17
    obtain ⟨kq, x41_9, rfl, HA, HJ9, HB⟩ := hcut
    cases kq with
    | zero => exact absurd HA.out (by simp [plenumlaw03_CurveEvals.j0])
    | succ kj9 =>
     have H := HA.out
     clear HA
     simp only [plenumlaw03_CurveEvals.j0] at H
     by_cases c20 : x41_9 = true
     ·
      subst c20
      have H1 : (some false) = some r := by rw [if_pos rfl] at H; exact H
      clear H
      have H := H1
      clear H1
      obtain rfl := Option.some.inj H
      go_wp2
      go_ret
      exact ⟨by first | rfl | (simp [errW_none, errW_some] <;> rfl) | (simp [*, errW_none, errW_some] <;> rfl), by repeat (first | (with_reducible first | exact HB.out | apply below_alloc | apply pw_below_drewN | apply below_drew1) | exact HB.out)⟩
     ·
      replace c20 := Bool.eq_false_iff.mpr c20
      subst c20
      have H1 : (if t442 = 0 then ((plenumref03_Eval.f kj9 l0 a1).bind fun t448 => (if t443 = t448 then ((plenumref03_Direction.f kj9 l0).bind fun t449 => (some (t445 == t449))) else (some false))) else (if t443 = 0 then (some (t445 == 0)) else (some false))) = some r := by rw [if_neg (show ¬ (false = true) by decide)] at H; exact H
      clear H
      have H := H1
      clear H1
      by_cases c21 : t442 = 0
      ·
       rw [if_pos c21] at H
       have c21b0 : (t442 == 0) = true := beq_iff_eq.mpr c21
       have c21b1 : (t442 != 0) = false := bne_eq_false_iff_eq.mpr c21
       clear c21
       replace H := Option.bind_eq_some_iff.mp H
       obtain ⟨t448, A220, H⟩ := H
       replace H : (if t443 = t448 then ((plenumref03_Direction.f kj9 l0).bind fun t449 => (some (t445 == t449))) else (some false)) = some r := H
       have A22 := Aside0.mk A220
       clear A220
       by_cases c23 : t443 = t448
       ·
        rw [if_pos c23] at H
        have c23b0 : (t443 == t448) = true := beq_iff_eq.mpr c23
        have c23b1 : (t443 != t448) = false := bne_eq_false_iff_eq.mpr c23
        clear c23
        replace H := Option.bind_eq_some_iff.mp H
        obtain ⟨t449, A240, H⟩ := H
        replace H : (some (t445 == t449)) = some r := H
        have A24 := Aside0.mk A240
        clear A240
        obtain rfl := Option.some.inj H
        go_wp2_with (first | ((with_reducible refine gate_callee (f := 23) rfl ?_); refine goesL_ (some 53) rfl rfl Try.func23 (by kernel_rfl) rfl #[.slice A0 l0.length c0, .int .i64 a1] rfl (by (try simp only [List.map_toArray, List.map_cons, List.map_nil]); first | done | rfl | (simp only [List.length_drop, List.length_take]; rfl)) ?_; (with_reducible refine (plenumref03_Eval.calls kj9 _ _ l0 a1 t448 _ ?side1 ?side2 A22.out).mono ?_); (case side1 => repeat (first | exact (Kd.C_below HR0.out HB.out) | (with_reducible refine Kd.C_alloc ?_ _) | (with_reducible refine Kd.C_drewN ?_ _) | (with_reducible refine Kd.C_drew ?_))); (case side2 => exact HC0.out); rintro e w25 ⟨rfl, hb⟩; refine ⟨_, rfl, ?_⟩; have n0_ := Aside0.mk (below_step (by repeat (first | (with_reducible first | exact HB.out | apply below_alloc | apply pw_below_drewN | apply below_drew1) | exact HB.out)) hb); clear HB; have HB := n0_; clear n0_; (try clear hb); (try clear hb2); (try clear hk); (try clear hi)) | (go_at_call 24; (with_reducible refine (plenumref03_Direction.calls kj9 _ _ l0 t449 _ ?side1 ?side2 A24.out).mono ?_); (case side1 => repeat (first | exact (Kd.C_below HR0.out HB.out) | (with_reducible refine Kd.C_alloc ?_ _) | (with_reducible refine Kd.C_drewN ?_ _) | (with_reducible refine Kd.C_drew ?_))); (case side2 => exact HC0.out); rintro e w' ⟨rfl, ⟨nd, rfl⟩⟩))
        go_ret
        exact ⟨by first | rfl | (simp [errW_none, errW_some] <;> rfl) | (simp [*, errW_none, errW_some] <;> rfl), by repeat (first | (with_reducible first | exact HB.out | apply below_alloc | apply pw_below_drewN | apply below_drew1) | exact HB.out)⟩
       ·
        rw [if_neg c23] at H
        have c23b0 : (t443 == t448) = false := beq_eq_false_iff_ne.mpr c23
        have c23b1 : (t443 != t448) = true := bne_iff_ne.mpr c23
        obtain rfl := Option.some.inj H
        go_wp2_with (first | ((with_reducible refine gate_callee (f := 23) rfl ?_); refine goesL_ (some 53) rfl rfl Try.func23 (by kernel_rfl) rfl #[.slice A0 l0.length c0, .int .i64 a1] rfl (by (try simp only [List.map_toArray, List.map_cons, List.map_nil]); first | done | rfl | (simp only [List.length_drop, List.length_take]; rfl)) ?_; (with_reducible refine (plenumref03_Eval.calls kj9 _ _ l0 a1 t448 _ ?side1 ?side2 A22.out).mono ?_); (case side1 => repeat (first | exact (Kd.C_below HR0.out HB.out) | (with_reducible refine Kd.C_alloc ?_ _) | (with_reducible refine Kd.C_drewN ?_ _) | (with_reducible refine Kd.C_drew ?_))); (case side2 => exact HC0.out); rintro e w26 ⟨rfl, hb⟩; refine ⟨_, rfl, ?_⟩; have n0_ := Aside0.mk (below_step (by repeat (first | (with_reducible first | exact HB.out | apply below_alloc | apply pw_below_drewN | apply below_drew1) | exact HB.out)) hb); clear HB; have HB := n0_; clear n0_; (try clear hb); (try clear hb2); (try clear hk); (try clear hi)))
        go_ret
        exact ⟨by first | rfl | (simp [errW_none, errW_some] <;> rfl) | (simp [*, errW_none, errW_some] <;> rfl), by repeat (first | (with_reducible first | exact HB.out | apply below_alloc | apply pw_below_drewN | apply below_drew1) | exact HB.out)⟩
      ·
       rw [if_neg c21] at H
       have c21b0 : (t442 == 0) = false := beq_eq_false_iff_ne.mpr c21
       have c21b1 : (t442 != 0) = true := bne_iff_ne.mpr c21
       by_cases c27 : t443 = 0
       ·
        rw [if_pos c27] at H
        have c27b0 : (t443 == 0) = true := beq_iff_eq.mpr c27
        have c27b1 : (t443 != 0) = false := bne_eq_false_iff_eq.mpr c27
        clear c27
        obtain rfl := Option.some.inj H
        go_wp2
        go_ret
        exact ⟨by first | rfl | (simp [errW_none, errW_some] <;> rfl) | (simp [*, errW_none, errW_some] <;> rfl), by repeat (first | (with_reducible first | exact HB.out | apply below_alloc | apply pw_below_drewN | apply below_drew1) | exact HB.out)⟩
       ·
        rw [if_neg c27] at H
        have c27b0 : (t443 == 0) = false := beq_eq_false_iff_ne.mpr c27
        have c27b1 : (t443 != 0) = true := bne_iff_ne.mpr c27
        obtain rfl := Option.some.inj H
        go_wp2
        go_ret
        exact ⟨by first | rfl | (simp [errW_none, errW_some] <;> rfl) | (simp [*, errW_none, errW_some] <;> rfl), by repeat (first | (with_reducible first | exact HB.out | apply below_alloc | apply pw_below_drewN | apply below_drew1) | exact HB.out)⟩
 ·
  replace c4 := Bool.eq_false_iff.mpr c4
  subst c4
  have H1 : (some false) = some r := by rw [if_neg (show ¬ (false = true) by decide)] at H; exact H
  clear H
  have H := H1
  clear H1
  obtain rfl := Option.some.inj H
  go_enter Try.func5, Try.ntmps5
  go_wp2_with (first | ((with_reducible refine gate_callee (f := 11) rfl ?_); refine goesL_ (some 10) rfl rfl Try.func11 (by kernel_rfl) rfl #[] rfl (by (try simp only [List.map_toArray, List.map_cons, List.map_nil]); first | done | rfl | (simp only [List.length_drop, List.length_take]; rfl)) ?_; (with_reducible refine (plenumlaw03_awake.calls  false _ A3.out).mono ?_); rintro e w28 ⟨rfl, hb⟩; refine ⟨_, rfl, ?_⟩; have n0_ := Aside0.mk (below_step (by repeat (first | (with_reducible first | exact HB.out | apply below_alloc | apply pw_below_drewN | apply below_drew1) | exact HB.out)) hb); clear HB; have HB := n0_; clear n0_; (try clear hb); (try clear hb2); (try clear hk); (try clear hi)))
  go_ret
  exact ⟨by first | rfl | (simp [errW_none, errW_some] <;> rfl) | (simp [*, errW_none, errW_some] <;> rfl), by repeat (first | (with_reducible first | exact HB.out | apply below_alloc | apply pw_below_drewN | apply below_drew1) | exact HB.out)⟩
/-- THE ONE PURE STATEMENT of plenumlaw03_CurveEvals. -/
def plenumlaw03_CurveEvals.Pure : Prop := ∀ (l0 : List (S50)) (a1 : Int), l0.length ≤ maxLen → l0.length * 16 ≤ 140737488351232 → (∀ x ∈ l0, (Lit.int .i64 x.f0).wf = true ∧ (Lit.int .i64 x.f1).wf = true) → (Lit.int .i64 a1).wf = true → ∃ k, plenumlaw03_CurveEvals.f k l0 a1 = some true
theorem plenumlaw03_CurveEvals.walk (P : plenumlaw03_CurveEvals.Pure) (A0 : Option Addr) (c0 : Nat) (l0 : List (S50)) (a1 : Int) (w : World) (hr0 : Kd.C k50 w A0 l0.length l0) (hc0 : l0.length ≤ c0) (hm0 : l0.length ≤ maxLen) (y0 : l0.length * 16 ≤ 140737488351232) (hw0 : ∀ x ∈ l0, (Lit.int .i64 x.f0).wf = true ∧ (Lit.int .i64 x.f1).wf = true) (wa1 : (Lit.int .i64 a1).wf = true) :
 Calls Try.prog 5 #[.slice A0 l0.length c0, .int .i64 a1] w fun e w' => e = .returned (.bool true) ∧ Below w.heap.size w w' := by
 obtain ⟨k, h⟩ := P l0 a1 hm0 y0 hw0 wa1
 refine (plenumlaw03_CurveEvals.calls k A0 c0 l0 a1 true w hr0 hc0 h).mono ?_
 rintro e w' ⟨rfl, hd⟩
 exact ⟨rfl, hd⟩
end Go.Proofs.Ytacheoimnckghaa.PT
