-- Laid by hp.py (a program of this session's) through the kit's printer. (squeezed)
import Derived.Test.YtacheoimnckghaaPTx0
import Derived.Test.YtacheoimnckghaaPTx1
import Derived.Test.YtacheoimnckghaaPTx9
import Derived.Test.YtacheoimnckghaaPTx11
import Derived.Test.YtacheoimnckghaaPTx15
import Derived.Test.YtacheoimnckghaaPTx16
import Derived.Test.YtacheoimnckghaaPTx17
import Derived.Test.YtacheoimnckghaaPTx20
namespace Go.Proofs.Ytacheoimnckghaa.PT
open Go.RowKit Go.Proofs.YtacheoimnckghaaW.PrintWords Go.Proofs.YtacheoimnckghaaW.PrintLast Go.Proofs.YtacheoimnckghaaW.PrintMore
attribute [local go_sem] max2_int min2_int max_two min_two max_three min_three max_four min_four   -- for this text's walks alone
set_option linter.unusedVariables false
set_option linter.unusedSimpArgs false
attribute [local go_sem high] eqA34
/-! ### plenumlaw03_CurveChanges: function 3 -/
def plenumlaw03_CurveChanges.j0 : Nat → List (S50) → List (S50) → Int → Int → Int → Bool → Option (Bool)
 | 0, _, _, _, _, _, _ => none
 | k + 1, x0, x11, x12, x13, x14, x65 => if x65 = true then (some false) else (if x12 = 0 then ((plenumref03_Simplify.f k x0).bind fun t355 => ((plenumref03_Same.f k x11 t355).bind fun t358 => (if t358 = true then ((plenumref03_Area.f k x0).bind fun bt359 => (some (bt359.1 == x13 && (bt359.2 == x14)))) else (some false)))) else (if (x11.length : Int) = 0 then (if x13 = 0 then (some (x14 == 0)) else (some false)) else (some false)))
def plenumlaw03_CurveChanges.f (k : Nat) (l0 : List (S50)) (a1 : Int) (a2 : Int) : Option (Bool) := (plenumlaw03_awake.f).bind fun t337 => (if t337 = true then (if (l0.length : Int) > 40 then (some true) else ((curve_Shift.f k l0 a1 a2).bind fun bt338 => ((plenumref03_Shift.f k l0 a1 a2).bind fun bt342 => ((curve_Simplify.f k l0).bind fun bt346 => ((curve_Area.f k l0).bind fun bt350 => ((plenumref03_Same.f k bt338.1 bt342.1).bind fun t353 => (if t353 = true then (if bt338.2 = bt342.2 then ((plenumref03_Check.f k l0).bind fun t354 => (if bt346.2 = t354 then (plenumlaw03_CurveChanges.j0 k l0 bt346.1 bt346.2 bt350.1 bt350.2.1 (bt350.2.2 != bt346.2)) else (plenumlaw03_CurveChanges.j0 k l0 bt346.1 bt346.2 bt350.1 bt350.2.1 true))) else (plenumlaw03_CurveChanges.j0 k l0 bt346.1 bt346.2 bt350.1 bt350.2.1 true)) else (plenumlaw03_CurveChanges.j0 k l0 bt346.1 bt346.2 bt350.1 bt350.2.1 true)))))))) else (some false))
theorem plenumlaw03_CurveChanges.mono_l : ∀ k, (∀ y0 y1 y2 y3 y4 y5, LeO (plenumlaw03_CurveChanges.j0 k y0 y1 y2 y3 y4 y5) (plenumlaw03_CurveChanges.j0 (k + 1) y0 y1 y2 y3 y4 y5))
 | 0 => fun _ _ _ _ _ _ r h => by simp [plenumlaw03_CurveChanges.j0] at h
 | k + 1 => by
  have ih0 := plenumlaw03_CurveChanges.mono_l k
  ·
   intro y0 y1 y2 y3 y4 y5
   unfold plenumlaw03_CurveChanges.j0
   repeat' first
   | (with_reducible exact ih0 _ _ _ _ _ _)
   | (with_reducible exact curve_Area.mono _ _)
   | (with_reducible exact curve_Shift.mono _ _ _ _)
   | (with_reducible exact curve_Simplify.mono _ _)
   | (with_reducible exact plenumref03_Area.mono _ _)
   | (with_reducible exact plenumref03_Check.mono _ _)
   | (with_reducible exact plenumref03_Same.mono _ _ _)
   | (with_reducible exact plenumref03_Shift.mono _ _ _ _)
   | (with_reducible exact plenumref03_Simplify.mono _ _)
   | (with_reducible exact LeO.refl _)
   | (with_reducible exact LeO.none _)
   | (with_reducible refine LeO.ite ?_ ?_)
   | (with_reducible refine LeO.bind ?_ (fun _ => ?_))
   | exact ih0 _ _ _ _ _ _
   | exact curve_Area.mono _ _
   | exact curve_Shift.mono _ _ _ _
   | exact curve_Simplify.mono _ _
   | exact plenumref03_Area.mono _ _
   | exact plenumref03_Check.mono _ _
   | exact plenumref03_Same.mono _ _ _
   | exact plenumref03_Shift.mono _ _ _ _
   | exact plenumref03_Simplify.mono _ _
   | exact LeO.none _
   | refine LeO.ite ?_ ?_
   | refine LeO.bind ?_ (fun _ => ?_)
theorem plenumlaw03_CurveChanges.mono : ∀ a0 a1 a2 k, LeO (plenumlaw03_CurveChanges.f k a0 a1 a2) (plenumlaw03_CurveChanges.f (k + 1) a0 a1 a2) := by
 intro a0 a1 a2 k
 have ih0 := plenumlaw03_CurveChanges.mono_l k
 unfold plenumlaw03_CurveChanges.f
 repeat' first
  | (with_reducible exact ih0 _ _ _ _ _ _)
  | (with_reducible exact curve_Area.mono _ _)
  | (with_reducible exact curve_Shift.mono _ _ _ _)
  | (with_reducible exact curve_Simplify.mono _ _)
  | (with_reducible exact plenumref03_Area.mono _ _)
  | (with_reducible exact plenumref03_Check.mono _ _)
  | (with_reducible exact plenumref03_Same.mono _ _ _)
  | (with_reducible exact plenumref03_Shift.mono _ _ _ _)
  | (with_reducible exact plenumref03_Simplify.mono _ _)
  | (with_reducible exact LeO.refl _)
  | (with_reducible exact LeO.none _)
  | (with_reducible refine LeO.ite ?_ ?_)
  | (with_reducible refine LeO.bind ?_ (fun _ => ?_))
  | exact ih0 _ _ _ _ _ _
  | exact curve_Area.mono _ _
  | exact curve_Shift.mono _ _ _ _
  | exact curve_Simplify.mono _ _
  | exact plenumref03_Area.mono _ _
  | exact plenumref03_Check.mono _ _
  | exact plenumref03_Same.mono _ _ _
  | exact plenumref03_Shift.mono _ _ _ _
  | exact plenumref03_Simplify.mono _ _
  | exact LeO.none _
  | refine LeO.ite ?_ ?_
  | refine LeO.bind ?_ (fun _ => ?_)
set_option maxHeartbeats 8000000 in
set_option maxRecDepth 100000 in
theorem plenumlaw03_CurveChanges.calls (k : Nat) (A0 : Option Addr) (c0 : Nat) (l0 : List (S50)) (a1 : Int) (a2 : Int) (r : Bool) (w : World) (hr0 : Kd.C k50 w A0 l0.length l0) (hc0 : l0.length ≤ c0) (h : plenumlaw03_CurveChanges.f k l0 a1 a2 = some r) :
 Calls Try.prog 3 #[.slice A0 l0.length c0, .int .i64 a1, .int .i64 a2] w fun e w' => e = .returned (.bool r) ∧ Below w.heap.size w w' := by
 have hu34 := Try.underlying34
 have HR0 := Aside0.mk hr0
 have HC0 := Aside0.mk hc0
 clear hr0 hc0
 have HB := Aside0.mk (Below.refl w.heap.size w)
 have H : ((plenumlaw03_awake.f).bind fun t337 => (if t337 = true then (if (l0.length : Int) > 40 then (some true) else ((curve_Shift.f k l0 a1 a2).bind fun bt338 => ((plenumref03_Shift.f k l0 a1 a2).bind fun bt342 => ((curve_Simplify.f k l0).bind fun bt346 => ((curve_Area.f k l0).bind fun bt350 => ((plenumref03_Same.f k bt338.1 bt342.1).bind fun t353 => (if t353 = true then (if bt338.2 = bt342.2 then ((plenumref03_Check.f k l0).bind fun t354 => (if bt346.2 = t354 then (plenumlaw03_CurveChanges.j0 k l0 bt346.1 bt346.2 bt350.1 bt350.2.1 (bt350.2.2 != bt346.2)) else (plenumlaw03_CurveChanges.j0 k l0 bt346.1 bt346.2 bt350.1 bt350.2.1 true))) else (plenumlaw03_CurveChanges.j0 k l0 bt346.1 bt346.2 bt350.1 bt350.2.1 true)) else (plenumlaw03_CurveChanges.j0 k l0 bt346.1 bt346.2 bt350.1 bt350.2.1 true)))))))) else (some false))) = some r := h
 clear h
 replace H := Option.bind_eq_some_iff.mp H
 obtain ⟨t337, A40, H⟩ := H
 replace H : (if t337 = true then (if (l0.length : Int) > 40 then (some true) else ((curve_Shift.f k l0 a1 a2).bind fun bt338 => ((plenumref03_Shift.f k l0 a1 a2).bind fun bt342 => ((curve_Simplify.f k l0).bind fun bt346 => ((curve_Area.f k l0).bind fun bt350 => ((plenumref03_Same.f k bt338.1 bt342.1).bind fun t353 => (if t353 = true then (if bt338.2 = bt342.2 then ((plenumref03_Check.f k l0).bind fun t354 => (if bt346.2 = t354 then (plenumlaw03_CurveChanges.j0 k l0 bt346.1 bt346.2 bt350.1 bt350.2.1 (bt350.2.2 != bt346.2)) else (plenumlaw03_CurveChanges.j0 k l0 bt346.1 bt346.2 bt350.1 bt350.2.1 true))) else (plenumlaw03_CurveChanges.j0 k l0 bt346.1 bt346.2 bt350.1 bt350.2.1 true)) else (plenumlaw03_CurveChanges.j0 k l0 bt346.1 bt346.2 bt350.1 bt350.2.1 true)))))))) else (some false)) = some r := H
 have A4 := Aside0.mk A40
 clear A40
 by_cases c5 : t337 = true
 ·
  subst c5
  have H1 : (if (l0.length : Int) > 40 then (some true) else ((curve_Shift.f k l0 a1 a2).bind fun bt338 => ((plenumref03_Shift.f k l0 a1 a2).bind fun bt342 => ((curve_Simplify.f k l0).bind fun bt346 => ((curve_Area.f k l0).bind fun bt350 => ((plenumref03_Same.f k bt338.1 bt342.1).bind fun t353 => (if t353 = true then (if bt338.2 = bt342.2 then ((plenumref03_Check.f k l0).bind fun t354 => (if bt346.2 = t354 then (plenumlaw03_CurveChanges.j0 k l0 bt346.1 bt346.2 bt350.1 bt350.2.1 (bt350.2.2 != bt346.2)) else (plenumlaw03_CurveChanges.j0 k l0 bt346.1 bt346.2 bt350.1 bt350.2.1 true))) else (plenumlaw03_CurveChanges.j0 k l0 bt346.1 bt346.2 bt350.1 bt350.2.1 true)) else (plenumlaw03_CurveChanges.j0 k l0 bt346.1 bt346.2 bt350.1 bt350.2.1 true)))))))) = some r := by rw [if_pos rfl] at H; exact H
  clear H
  have H := H1
  clear H1
  by_cases c6 : (l0.length : Int) > 40
  ·
   rw [if_pos c6] at H
   have c6b0 : decide (40 < (l0.length : Int)) = true := decide_eq_true c6
   have c6b1 : decide (40 < l0.length) = true := decide_eq_true (by omega)
   clear c6
   obtain rfl := Option.some.inj H
   go_enter Try.func3, Try.ntmps3
   go_wp2_with (first | ((with_reducible refine gate_callee (f := 11) rfl ?_); refine goesL_ (some 16) rfl rfl Try.func11 (by kernel_rfl) rfl #[] rfl (by (try simp only [List.map_toArray, List.map_cons, List.map_nil]); first | done | rfl | (simp only [List.length_drop, List.length_take]; rfl)) ?_; (with_reducible refine (plenumlaw03_awake.calls  true _ A4.out).mono ?_); rintro e w7 ⟨rfl, hb⟩; refine ⟨_, rfl, ?_⟩; have n0_ := Aside0.mk (below_step (by repeat (first | (with_reducible first | exact HB.out | apply below_alloc | apply pw_below_drewN | apply below_drew1) | exact HB.out)) hb); clear HB; have HB := n0_; clear n0_; (try clear hb); (try clear hb2); (try clear hk); (try clear hi)))
   go_ret
   exact ⟨by first | rfl | (simp [errW_none, errW_some] <;> rfl) | (simp [*, errW_none, errW_some] <;> rfl), by repeat (first | (with_reducible first | exact HB.out | apply below_alloc | apply pw_below_drewN | apply below_drew1) | exact HB.out)⟩
  ·
   rw [if_neg c6] at H
   have c6b0 : decide (40 < (l0.length : Int)) = false := decide_eq_false c6
   have c6b1 : decide (40 < l0.length) = false := decide_eq_false (by omega)
   clear c6
   replace H := Option.bind_eq_some_iff.mp H
   obtain ⟨⟨t338, t339⟩, A80, H⟩ := H
   replace H : ((plenumref03_Shift.f k l0 a1 a2).bind fun bt342 => ((curve_Simplify.f k l0).bind fun bt346 => ((curve_Area.f k l0).bind fun bt350 => ((plenumref03_Same.f k t338 bt342.1).bind fun t353 => (if t353 = true then (if t339 = bt342.2 then ((plenumref03_Check.f k l0).bind fun t354 => (if bt346.2 = t354 then (plenumlaw03_CurveChanges.j0 k l0 bt346.1 bt346.2 bt350.1 bt350.2.1 (bt350.2.2 != bt346.2)) else (plenumlaw03_CurveChanges.j0 k l0 bt346.1 bt346.2 bt350.1 bt350.2.1 true))) else (plenumlaw03_CurveChanges.j0 k l0 bt346.1 bt346.2 bt350.1 bt350.2.1 true)) else (plenumlaw03_CurveChanges.j0 k l0 bt346.1 bt346.2 bt350.1 bt350.2.1 true)))))) = some r := H
   have A8 := Aside0.mk A80
   clear A80
   replace H := Option.bind_eq_some_iff.mp H
   obtain ⟨⟨t342, t343⟩, A90, H⟩ := H
   replace H : ((curve_Simplify.f k l0).bind fun bt346 => ((curve_Area.f k l0).bind fun bt350 => ((plenumref03_Same.f k t338 t342).bind fun t353 => (if t353 = true then (if t339 = t343 then ((plenumref03_Check.f k l0).bind fun t354 => (if bt346.2 = t354 then (plenumlaw03_CurveChanges.j0 k l0 bt346.1 bt346.2 bt350.1 bt350.2.1 (bt350.2.2 != bt346.2)) else (plenumlaw03_CurveChanges.j0 k l0 bt346.1 bt346.2 bt350.1 bt350.2.1 true))) else (plenumlaw03_CurveChanges.j0 k l0 bt346.1 bt346.2 bt350.1 bt350.2.1 true)) else (plenumlaw03_CurveChanges.j0 k l0 bt346.1 bt346.2 bt350.1 bt350.2.1 true))))) = some r := H
   have A9 := Aside0.mk A90
   clear A90
   replace H := Option.bind_eq_some_iff.mp H
   obtain ⟨⟨t346, t347⟩, A100, H⟩ := H
   replace H : ((curve_Area.f k l0).bind fun bt350 => ((plenumref03_Same.f k t338 t342).bind fun t353 => (if t353 = true then (if t339 = t343 then ((plenumref03_Check.f k l0).bind fun t354 => (if t347 = t354 then (plenumlaw03_CurveChanges.j0 k l0 t346 t347 bt350.1 bt350.2.1 (bt350.2.2 != t347)) else (plenumlaw03_CurveChanges.j0 k l0 t346 t347 bt350.1 bt350.2.1 true))) else (plenumlaw03_CurveChanges.j0 k l0 t346 t347 bt350.1 bt350.2.1 true)) else (plenumlaw03_CurveChanges.j0 k l0 t346 t347 bt350.1 bt350.2.1 true)))) = some r := H
   have A10 := Aside0.mk A100
   clear A100
   replace H := Option.bind_eq_some_iff.mp H
   obtain ⟨⟨t350, t351, t352⟩, A110, H⟩ := H
   replace H : ((plenumref03_Same.f k t338 t342).bind fun t353 => (if t353 = true then (if t339 = t343 then ((plenumref03_Check.f k l0).bind fun t354 => (if t347 = t354 then (plenumlaw03_CurveChanges.j0 k l0 t346 t347 t350 t351 (t352 != t347)) else (plenumlaw03_CurveChanges.j0 k l0 t346 t347 t350 t351 true))) else (plenumlaw03_CurveChanges.j0 k l0 t346 t347 t350 t351 true)) else (plenumlaw03_CurveChanges.j0 k l0 t346 t347 t350 t351 true))) = some r := H
   have A11 := Aside0.mk A110
   clear A110
   have HC12 := Aside0.mk H
   clear H
   go_enter Try.func3, Try.ntmps3
   go_upto_region 9 with (first | ((with_reducible refine gate_callee (f := 11) rfl ?_); refine goesL_ (some 16) rfl rfl Try.func11 (by kernel_rfl) rfl #[] rfl (by (try simp only [List.map_toArray, List.map_cons, List.map_nil]); first | done | rfl | (simp only [List.length_drop, List.length_take]; rfl)) ?_; (with_reducible refine (plenumlaw03_awake.calls  true _ A4.out).mono ?_); rintro e w13 ⟨rfl, hb⟩; refine ⟨_, rfl, ?_⟩; have n0_ := Aside0.mk (below_step (by repeat (first | (with_reducible first | exact HB.out | apply below_alloc | apply pw_below_drewN | apply below_drew1) | exact HB.out)) hb); clear HB; have HB := n0_; clear n0_; (try clear hb); (try clear hb2); (try clear hk); (try clear hi)) | ((with_reducible refine gate_callee (f := 12) rfl ?_); refine goesL_ (some 25) rfl rfl Try.func12 (by kernel_rfl) rfl #[.slice A0 l0.length c0, .int .i64 a1, .int .i64 a2] rfl (by (try simp only [List.map_toArray, List.map_cons, List.map_nil]); first | done | rfl | (simp only [List.length_drop, List.length_take]; rfl)) ?_; (with_reducible refine (curve_Shift.calls k _ _ l0 a1 a2 t338 t339 _ ?side1 ?side2 A8.out).mono ?_); (case side1 => repeat (first | exact (Kd.C_below HR0.out HB.out) | (with_reducible refine Kd.C_alloc ?_ _) | (with_reducible refine Kd.C_drewN ?_ _) | (with_reducible refine Kd.C_drew ?_))); (case side2 => exact HC0.out); rintro e w14 ⟨v340, rfl, ho0, hb⟩; refine ⟨_, rfl, ?_⟩; have n0_ := Aside0.mk (Kd.R_lower ho0 (below_size (by repeat (first | (with_reducible first | exact HB.out | apply below_alloc | apply pw_below_drewN | apply below_drew1) | exact HB.out)))); have n1_ := Aside0.mk (below_step (by repeat (first | (with_reducible first | exact HB.out | apply below_alloc | apply pw_below_drewN | apply below_drew1) | exact HB.out)) hb); clear HB; have HO341 := n0_; have HB := n1_; clear n0_ n1_; (try clear hb); (try clear hb2); (try clear hk); (try clear hi); (try clear ho0)) | ((with_reducible refine gate_callee (f := 13) rfl ?_); refine goesL_ (some 32) rfl rfl Try.func13 (by kernel_rfl) rfl #[.slice A0 l0.length c0, .int .i64 a1, .int .i64 a2] rfl (by (try simp only [List.map_toArray, List.map_cons, List.map_nil]); first | done | rfl | (simp only [List.length_drop, List.length_take]; rfl)) ?_; (with_reducible refine (plenumref03_Shift.calls k _ _ l0 a1 a2 t342 t343 _ ?side1 ?side2 A9.out).mono ?_); (case side1 => repeat (first | exact (Kd.C_below HR0.out HB.out) | (with_reducible refine Kd.C_alloc ?_ _) | (with_reducible refine Kd.C_drewN ?_ _) | (with_reducible refine Kd.C_drew ?_))); (case side2 => exact HC0.out); rintro e w15 ⟨v344, rfl, ho0, hb⟩; refine ⟨_, rfl, ?_⟩; have n0_ := Aside0.mk (Kd.R_elder' (by (with_reducible repeat (first | apply Kd.R_alloc | apply Kd.R_drewN | apply Kd.R_drew)); exact HO341.out) (Kd.R_base ho0) hb); have n1_ := Aside0.mk (Kd.R_lower (Kd.R_new' ho0 (Kd.R_lt (by (with_reducible repeat (first | apply Kd.R_alloc | apply Kd.R_drewN | apply Kd.R_drew)); exact HO341.out))) (below_size (by repeat (first | (with_reducible first | exact HB.out | apply below_alloc | apply pw_below_drewN | apply below_drew1) | exact HB.out)))); have n2_ := Aside0.mk (below_step (by repeat (first | (with_reducible first | exact HB.out | apply below_alloc | apply pw_below_drewN | apply below_drew1) | exact HB.out)) hb); clear HO341; clear HB; have HO341 := n0_; have HO345 := n1_; have HB := n2_; clear n0_ n1_ n2_; (try clear hb); (try clear hb2); (try clear hk); (try clear hi); (try clear ho0)) | ((with_reducible refine gate_callee (f := 14) rfl ?_); refine goesL_ (some 37) rfl rfl Try.func14 (by kernel_rfl) rfl #[.slice A0 l0.length c0] rfl (by (try simp only [List.map_toArray, List.map_cons, List.map_nil]); first | done | rfl | (simp only [List.length_drop, List.length_take]; rfl)) ?_; (with_reducible refine (curve_Simplify.calls k _ _ l0 t346 t347 _ ?side1 ?side2 A10.out).mono ?_); (case side1 => repeat (first | exact (Kd.C_below HR0.out HB.out) | (with_reducible refine Kd.C_alloc ?_ _) | (with_reducible refine Kd.C_drewN ?_ _) | (with_reducible refine Kd.C_drew ?_))); (case side2 => exact HC0.out); rintro e w16 ⟨v348, rfl, ho0, hb⟩; refine ⟨_, rfl, ?_⟩; have n0_ := Aside0.mk (Kd.R_elder' (by (with_reducible repeat (first | apply Kd.R_alloc | apply Kd.R_drewN | apply Kd.R_drew)); exact HO341.out) (Kd.R_base ho0) hb); have n1_ := Aside0.mk (Kd.R_elder' (by (with_reducible repeat (first | apply Kd.R_alloc | apply Kd.R_drewN | apply Kd.R_drew)); exact HO345.out) (Kd.R_base ho0) hb); have n2_ := Aside0.mk (Kd.R_lower (Kd.R_new' (Kd.R_new' ho0 (Kd.R_lt (by (with_reducible repeat (first | apply Kd.R_alloc | apply Kd.R_drewN | apply Kd.R_drew)); exact HO341.out))) (Kd.R_lt (by (with_reducible repeat (first | apply Kd.R_alloc | apply Kd.R_drewN | apply Kd.R_drew)); exact HO345.out))) (below_size (by repeat (first | (with_reducible first | exact HB.out | apply below_alloc | apply pw_below_drewN | apply below_drew1) | exact HB.out)))); have n3_ := Aside0.mk (below_step (by repeat (first | (with_reducible first | exact HB.out | apply below_alloc | apply pw_below_drewN | apply below_drew1) | exact HB.out)) hb); clear HO341; clear HO345; clear HB; have HO341 := n0_; have HO345 := n1_; have HO349 := n2_; have HB := n3_; clear n0_ n1_ n2_ n3_; (try clear hb); (try clear hb2); (try clear hk); (try clear hi); (try clear ho0)) | ((with_reducible refine gate_callee (f := 15) rfl ?_); refine goesL_ (some 42) rfl rfl Try.func15 (by kernel_rfl) rfl #[.slice A0 l0.length c0] rfl (by (try simp only [List.map_toArray, List.map_cons, List.map_nil]); first | done | rfl | (simp only [List.length_drop, List.length_take]; rfl)) ?_; (with_reducible refine (curve_Area.calls k _ _ l0 t350 t351 t352 _ ?side1 ?side2 A11.out).mono ?_); (case side1 => repeat (first | exact (Kd.C_below HR0.out HB.out) | (with_reducible refine Kd.C_alloc ?_ _) | (with_reducible refine Kd.C_drewN ?_ _) | (with_reducible refine Kd.C_drew ?_))); (case side2 => exact HC0.out); rintro e w17 ⟨rfl, hb⟩; refine ⟨_, rfl, ?_⟩; have n0_ := Aside0.mk (Kd.R_below (by (with_reducible repeat (first | apply Kd.R_alloc | apply Kd.R_drewN | apply Kd.R_drew)); exact HO341.out) hb); have n1_ := Aside0.mk (Kd.R_below (by (with_reducible repeat (first | apply Kd.R_alloc | apply Kd.R_drewN | apply Kd.R_drew)); exact HO345.out) hb); have n2_ := Aside0.mk (Kd.R_below (by (with_reducible repeat (first | apply Kd.R_alloc | apply Kd.R_drewN | apply Kd.R_drew)); exact HO349.out) hb); have n3_ := Aside0.mk (below_step (by repeat (first | (with_reducible first | exact HB.out | apply below_alloc | apply pw_below_drewN | apply below_drew1) | exact HB.out)) hb); clear HO341; clear HO345; clear HO349; clear HB; have HO341 := n0_; have HO345 := n1_; have HO349 := n2_; have HB := n3_; clear n0_ n1_ n2_ n3_; (try clear hb); (try clear hb2); (try clear hk); (try clear hi)))
   (try simp only [Act.put, List.setIfInBounds_toArray, List.set_cons_zero, List.set_cons_succ])
   go_cut [65] (fun v65 wc => ∃ (kq : Nat) (x65_11 : Bool), v65 = .bool x65_11 ∧ Aside0 (plenumlaw03_CurveChanges.j0 kq l0 t346 t347 t350 t351 x65_11 = some r) ∧ Aside0 (kq ≤ k) ∧ Aside0 (Kd.R k50 50 wc w.heap.size (fun _ => True) v348 t346) ∧ Aside0 (Below w.heap.size w wc))
   case first =>
    have H := HC12.out
    clear HC12
    replace H := Option.bind_eq_some_iff.mp H
    obtain ⟨t353, A180, H⟩ := H
    replace H : (if t353 = true then (if t339 = t343 then ((plenumref03_Check.f k l0).bind fun t354 => (if t347 = t354 then (plenumlaw03_CurveChanges.j0 k l0 t346 t347 t350 t351 (t352 != t347)) else (plenumlaw03_CurveChanges.j0 k l0 t346 t347 t350 t351 true))) else (plenumlaw03_CurveChanges.j0 k l0 t346 t347 t350 t351 true)) else (plenumlaw03_CurveChanges.j0 k l0 t346 t347 t350 t351 true)) = some r := H
    have A18 := Aside0.mk A180
    clear A180
    by_cases c19 : t353 = true
    ·
     subst c19
     have H1 : (if t339 = t343 then ((plenumref03_Check.f k l0).bind fun t354 => (if t347 = t354 then (plenumlaw03_CurveChanges.j0 k l0 t346 t347 t350 t351 (t352 != t347)) else (plenumlaw03_CurveChanges.j0 k l0 t346 t347 t350 t351 true))) else (plenumlaw03_CurveChanges.j0 k l0 t346 t347 t350 t351 true)) = some r := by rw [if_pos rfl] at H; exact H
     clear H
     have H := H1
     clear H1
     by_cases c20 : t339 = t343
     ·
      rw [if_pos c20] at H
      have c20b0 : (t339 == t343) = true := beq_iff_eq.mpr c20
      have c20b1 : (t339 != t343) = false := bne_eq_false_iff_eq.mpr c20
      clear c20
      (first | rw [c20b0] | (simp only [i64_w, i32_w]; rw [c20b0]) | skip)
      replace H := Option.bind_eq_some_iff.mp H
      obtain ⟨t354, A210, H⟩ := H
      replace H : (if t347 = t354 then (plenumlaw03_CurveChanges.j0 k l0 t346 t347 t350 t351 (t352 != t347)) else (plenumlaw03_CurveChanges.j0 k l0 t346 t347 t350 t351 true)) = some r := H
      have A21 := Aside0.mk A210
      clear A210
      by_cases c22 : t347 = t354
      ·
       rw [if_pos c22] at H
       have c22b0 : (t347 == t354) = true := beq_iff_eq.mpr c22
       have c22b1 : (t347 != t354) = false := bne_eq_false_iff_eq.mpr c22
       clear c22
       have H' := Aside0.mk H
       clear H
       obtain ⟨Ao23, co23, eo23⟩ := Kd.R_slice HO341.out
       subst eo23
       obtain ⟨Ao24, co24, eo24⟩ := Kd.R_slice HO345.out
       subst eo24
       go_wp2_with (first | ((with_reducible refine gate_callee (f := 16) rfl ?_); refine goesL_ (some 48) rfl rfl Try.func16 (by kernel_rfl) rfl #[.slice Ao23 t338.length co23, .slice Ao24 t342.length co24] rfl (by (try simp only [List.map_toArray, List.map_cons, List.map_nil]); first | done | rfl | (simp only [List.length_drop, List.length_take]; rfl)) ?_; (with_reducible refine (plenumref03_Same.calls k _ _ t338 _ _ t342 true _ ?side1 ?side2 ?side3 ?side4 A18.out).mono ?_); (case side1 => repeat (first | exact (Kd.R_reads' HO341.out).2.2 | (with_reducible refine Kd.C_alloc ?_ _) | (with_reducible refine Kd.C_drewN ?_ _) | (with_reducible refine Kd.C_drew ?_))); (case side2 => exact (Kd.R_reads' HO341.out).2.1); (case side3 => repeat (first | exact (Kd.R_reads' HO345.out).2.2 | (with_reducible refine Kd.C_alloc ?_ _) | (with_reducible refine Kd.C_drewN ?_ _) | (with_reducible refine Kd.C_drew ?_))); (case side4 => exact (Kd.R_reads' HO345.out).2.1); rintro e w' ⟨rfl, ⟨nd, rfl⟩⟩; refine ⟨_, rfl, ?_⟩) | (go_at_call 17; (with_reducible refine (plenumref03_Check.calls k _ _ l0 t354 _ ?side1 ?side2 A21.out).mono ?_); (case side1 => repeat (first | exact (Kd.C_below HR0.out (by repeat (first | (with_reducible first | exact HB.out | apply below_alloc | apply pw_below_drewN | apply below_drew1) | exact HB.out))) | (with_reducible refine Kd.C_alloc ?_ _) | (with_reducible refine Kd.C_drewN ?_ _) | (with_reducible refine Kd.C_drew ?_))); (case side2 => exact HC0.out); rintro e w' ⟨rfl, ⟨nd, rfl⟩⟩))
       go_meet
       case rel => exact ⟨_, ((t352 != t347)), (by first | rfl | (simp; done) | (simp [*]; done)), H', ⟨by first | omega | exact Nat.le_refl _⟩, ⟨by (with_reducible repeat (first | apply Kd.R_alloc | apply Kd.R_drewN | apply Kd.R_drew)); exact Kd.R_mono HO349.out (fun _ hk => trivial)⟩, ⟨by repeat (first | (with_reducible first | exact HB.out | apply below_alloc | apply pw_below_drewN | apply below_drew1) | exact HB.out)⟩⟩
      ·
       rw [if_neg c22] at H
       have c22b0 : (t347 == t354) = false := beq_eq_false_iff_ne.mpr c22
       have c22b1 : (t347 != t354) = true := bne_iff_ne.mpr c22
       have H' := Aside0.mk H
       clear H
       obtain ⟨Ao25, co25, eo25⟩ := Kd.R_slice HO341.out
       subst eo25
       obtain ⟨Ao26, co26, eo26⟩ := Kd.R_slice HO345.out
       subst eo26
       go_wp2_with (first | ((with_reducible refine gate_callee (f := 16) rfl ?_); refine goesL_ (some 48) rfl rfl Try.func16 (by kernel_rfl) rfl #[.slice Ao25 t338.length co25, .slice Ao26 t342.length co26] rfl (by (try simp only [List.map_toArray, List.map_cons, List.map_nil]); first | done | rfl | (simp only [List.length_drop, List.length_take]; rfl)) ?_; (with_reducible refine (plenumref03_Same.calls k _ _ t338 _ _ t342 true _ ?side1 ?side2 ?side3 ?side4 A18.out).mono ?_); (case side1 => repeat (first | exact (Kd.R_reads' HO341.out).2.2 | (with_reducible refine Kd.C_alloc ?_ _) | (with_reducible refine Kd.C_drewN ?_ _) | (with_reducible refine Kd.C_drew ?_))); (case side2 => exact (Kd.R_reads' HO341.out).2.1); (case side3 => repeat (first | exact (Kd.R_reads' HO345.out).2.2 | (with_reducible refine Kd.C_alloc ?_ _) | (with_reducible refine Kd.C_drewN ?_ _) | (with_reducible refine Kd.C_drew ?_))); (case side4 => exact (Kd.R_reads' HO345.out).2.1); rintro e w' ⟨rfl, ⟨nd, rfl⟩⟩; refine ⟨_, rfl, ?_⟩) | (go_at_call 17; (with_reducible refine (plenumref03_Check.calls k _ _ l0 t354 _ ?side1 ?side2 A21.out).mono ?_); (case side1 => repeat (first | exact (Kd.C_below HR0.out (by repeat (first | (with_reducible first | exact HB.out | apply below_alloc | apply pw_below_drewN | apply below_drew1) | exact HB.out))) | (with_reducible refine Kd.C_alloc ?_ _) | (with_reducible refine Kd.C_drewN ?_ _) | (with_reducible refine Kd.C_drew ?_))); (case side2 => exact HC0.out); rintro e w' ⟨rfl, ⟨nd, rfl⟩⟩))
       go_meet
       case rel => exact ⟨_, (true), (by first | rfl | (simp; done) | (simp [*]; done)), H', ⟨by first | omega | exact Nat.le_refl _⟩, ⟨by (with_reducible repeat (first | apply Kd.R_alloc | apply Kd.R_drewN | apply Kd.R_drew)); exact Kd.R_mono HO349.out (fun _ hk => trivial)⟩, ⟨by repeat (first | (with_reducible first | exact HB.out | apply below_alloc | apply pw_below_drewN | apply below_drew1) | exact HB.out)⟩⟩
     ·
      rw [if_neg c20] at H
      have c20b0 : (t339 == t343) = false := beq_eq_false_iff_ne.mpr c20
      have c20b1 : (t339 != t343) = true := bne_iff_ne.mpr c20
      (first | rw [c20b0] | (simp only [i64_w, i32_w]; rw [c20b0]) | skip)
      have H' := Aside0.mk H
      clear H
      obtain ⟨Ao27, co27, eo27⟩ := Kd.R_slice HO341.out
      subst eo27
      obtain ⟨Ao28, co28, eo28⟩ := Kd.R_slice HO345.out
      subst eo28
      go_wp2_with (first | ((with_reducible refine gate_callee (f := 16) rfl ?_); refine goesL_ (some 48) rfl rfl Try.func16 (by kernel_rfl) rfl #[.slice Ao27 t338.length co27, .slice Ao28 t342.length co28] rfl (by (try simp only [List.map_toArray, List.map_cons, List.map_nil]); first | done | rfl | (simp only [List.length_drop, List.length_take]; rfl)) ?_; (with_reducible refine (plenumref03_Same.calls k _ _ t338 _ _ t342 true _ ?side1 ?side2 ?side3 ?side4 A18.out).mono ?_); (case side1 => repeat (first | exact (Kd.R_reads' HO341.out).2.2 | (with_reducible refine Kd.C_alloc ?_ _) | (with_reducible refine Kd.C_drewN ?_ _) | (with_reducible refine Kd.C_drew ?_))); (case side2 => exact (Kd.R_reads' HO341.out).2.1); (case side3 => repeat (first | exact (Kd.R_reads' HO345.out).2.2 | (with_reducible refine Kd.C_alloc ?_ _) | (with_reducible refine Kd.C_drewN ?_ _) | (with_reducible refine Kd.C_drew ?_))); (case side4 => exact (Kd.R_reads' HO345.out).2.1); rintro e w' ⟨rfl, ⟨nd, rfl⟩⟩; refine ⟨_, rfl, ?_⟩))
      go_meet
      case rel => exact ⟨_, (true), (by first | rfl | (simp; done) | (simp [*]; done)), H', ⟨by first | omega | exact Nat.le_refl _⟩, ⟨by (with_reducible repeat (first | apply Kd.R_alloc | apply Kd.R_drewN | apply Kd.R_drew)); exact Kd.R_mono HO349.out (fun _ hk => trivial)⟩, ⟨by repeat (first | (with_reducible first | exact HB.out | apply below_alloc | apply pw_below_drewN | apply below_drew1) | exact HB.out)⟩⟩
    ·
     replace c19 := Bool.eq_false_iff.mpr c19
     subst c19
     have H1 : (plenumlaw03_CurveChanges.j0 k l0 t346 t347 t350 t351 true) = some r := by rw [if_neg (show ¬ (false = true) by decide)] at H; exact H
     clear H
     have H := H1
     clear H1
     have H' := Aside0.mk H
     clear H
     obtain ⟨Ao29, co29, eo29⟩ := Kd.R_slice HO341.out
     subst eo29
     obtain ⟨Ao30, co30, eo30⟩ := Kd.R_slice HO345.out
     subst eo30
     go_wp2_with (first | ((with_reducible refine gate_callee (f := 16) rfl ?_); refine goesL_ (some 48) rfl rfl Try.func16 (by kernel_rfl) rfl #[.slice Ao29 t338.length co29, .slice Ao30 t342.length co30] rfl (by (try simp only [List.map_toArray, List.map_cons, List.map_nil]); first | done | rfl | (simp only [List.length_drop, List.length_take]; rfl)) ?_; (with_reducible refine (plenumref03_Same.calls k _ _ t338 _ _ t342 false _ ?side1 ?side2 ?side3 ?side4 A18.out).mono ?_); (case side1 => repeat (first | exact (Kd.R_reads' HO341.out).2.2 | (with_reducible refine Kd.C_alloc ?_ _) | (with_reducible refine Kd.C_drewN ?_ _) | (with_reducible refine Kd.C_drew ?_))); (case side2 => exact (Kd.R_reads' HO341.out).2.1); (case side3 => repeat (first | exact (Kd.R_reads' HO345.out).2.2 | (with_reducible refine Kd.C_alloc ?_ _) | (with_reducible refine Kd.C_drewN ?_ _) | (with_reducible refine Kd.C_drew ?_))); (case side4 => exact (Kd.R_reads' HO345.out).2.1); rintro e w' ⟨rfl, ⟨nd, rfl⟩⟩; refine ⟨_, rfl, ?_⟩))
     go_meet
     case rel => exact ⟨_, (true), (by first | rfl | (simp; done) | (simp [*]; done)), H', ⟨by first | omega | exact Nat.le_refl _⟩, ⟨by (with_reducible repeat (first | apply Kd.R_alloc | apply Kd.R_drewN | apply Kd.R_drew)); exact Kd.R_mono HO349.out (fun _ hk => trivial)⟩, ⟨by repeat (first | (with_reducible first | exact HB.out | apply below_alloc | apply pw_below_drewN | apply below_drew1) | exact HB.out)⟩⟩
   case rest =>
    clear HC12
    try clear c1
    try clear c2
    try clear p2
    try clear c3
    try clear c5
    try clear c6
    try clear c6b0
    try clear c6b1
    try clear c11
    try clear c12
    try clear c13
    try clear c14
    try clear c15
    try clear c16
    try clear c19
    try clear c20
    try clear c20b0
    try clear c20b1
    try clear c22
    try clear c22b0
    try clear c22b1
    obtain ⟨kq, x65_11, rfl, HA, HJ11, HO_11, HB⟩ := hcut
    cases kq with
    | zero => exact absurd HA.out (by simp [plenumlaw03_CurveChanges.j0])
    | succ kj11 =>
     have H := HA.out
     clear HA
     simp only [plenumlaw03_CurveChanges.j0] at H
     by_cases c31 : x65_11 = true
     ·
      subst c31
      have H1 : (some false) = some r := by rw [if_pos rfl] at H; exact H
      clear H
      have H := H1
      clear H1
      obtain rfl := Option.some.inj H
      go_wp2
      go_ret
      exact ⟨by first | rfl | (simp [errW_none, errW_some] <;> rfl) | (simp [*, errW_none, errW_some] <;> rfl), by repeat (first | (with_reducible first | exact HB.out | apply below_alloc | apply pw_below_drewN | apply below_drew1) | exact HB.out)⟩
     ·
      replace c31 := Bool.eq_false_iff.mpr c31
      subst c31
      have H1 : (if t347 = 0 then ((plenumref03_Simplify.f kj11 l0).bind fun t355 => ((plenumref03_Same.f kj11 t346 t355).bind fun t358 => (if t358 = true then ((plenumref03_Area.f kj11 l0).bind fun bt359 => (some (bt359.1 == t350 && (bt359.2 == t351)))) else (some false)))) else (if (t346.length : Int) = 0 then (if t350 = 0 then (some (t351 == 0)) else (some false)) else (some false))) = some r := by rw [if_neg (show ¬ (false = true) by decide)] at H; exact H
      clear H
      have H := H1
      clear H1
      by_cases c32 : t347 = 0
      ·
       rw [if_pos c32] at H
       have c32b0 : (t347 == 0) = true := beq_iff_eq.mpr c32
       have c32b1 : (t347 != 0) = false := bne_eq_false_iff_eq.mpr c32
       clear c32
       replace H := Option.bind_eq_some_iff.mp H
       obtain ⟨t355, A330, H⟩ := H
       replace H : ((plenumref03_Same.f kj11 t346 t355).bind fun t358 => (if t358 = true then ((plenumref03_Area.f kj11 l0).bind fun bt359 => (some (bt359.1 == t350 && (bt359.2 == t351)))) else (some false))) = some r := H
       have A33 := Aside0.mk A330
       clear A330
       replace H := Option.bind_eq_some_iff.mp H
       obtain ⟨t358, A340, H⟩ := H
       replace H : (if t358 = true then ((plenumref03_Area.f kj11 l0).bind fun bt359 => (some (bt359.1 == t350 && (bt359.2 == t351)))) else (some false)) = some r := H
       have A34 := Aside0.mk A340
       clear A340
       by_cases c35 : t358 = true
       ·
        subst c35
        have H1 : ((plenumref03_Area.f kj11 l0).bind fun bt359 => (some (bt359.1 == t350 && (bt359.2 == t351)))) = some r := by rw [if_pos rfl] at H; exact H
        clear H
        have H := H1
        clear H1
        replace H := Option.bind_eq_some_iff.mp H
        obtain ⟨⟨t359, t360⟩, A360, H⟩ := H
        replace H : (some (t359 == t350 && (t360 == t351))) = some r := H
        have A36 := Aside0.mk A360
        clear A360
        obtain rfl := Option.some.inj H
        go_wp2_with (first | ((with_reducible refine gate_callee (f := 18) rfl ?_); refine goesL_ (some 81) rfl rfl Try.func18 (by kernel_rfl) rfl #[.slice A0 l0.length c0] rfl (by (try simp only [List.map_toArray, List.map_cons, List.map_nil]); first | done | rfl | (simp only [List.length_drop, List.length_take]; rfl)) ?_; (with_reducible refine (plenumref03_Simplify.calls kj11 _ _ l0 t355 _ ?side1 ?side2 A33.out).mono ?_); (case side1 => repeat (first | exact (Kd.C_below HR0.out HB.out) | (with_reducible refine Kd.C_alloc ?_ _) | (with_reducible refine Kd.C_drewN ?_ _) | (with_reducible refine Kd.C_drew ?_))); (case side2 => exact HC0.out); rintro e w37 ⟨v356, rfl, ho0, hb⟩; refine ⟨_, rfl, ?_⟩; have n0_ := Aside0.mk (Kd.R_elder' (by (with_reducible repeat (first | apply Kd.R_alloc | apply Kd.R_drewN | apply Kd.R_drew)); exact HO_11.out) (Kd.R_base ho0) hb); have n1_ := Aside0.mk (Kd.R_lower (Kd.R_new' ho0 (Kd.R_lt (by (with_reducible repeat (first | apply Kd.R_alloc | apply Kd.R_drewN | apply Kd.R_drew)); exact HO_11.out))) (below_size (by repeat (first | (with_reducible first | exact HB.out | apply below_alloc | apply pw_below_drewN | apply below_drew1) | exact HB.out)))); have n2_ := Aside0.mk (below_step (by repeat (first | (with_reducible first | exact HB.out | apply below_alloc | apply pw_below_drewN | apply below_drew1) | exact HB.out)) hb); clear HO_11; clear HB; have HO_11 := n0_; have HO357 := n1_; have HB := n2_; clear n0_ n1_ n2_; (try clear hb); (try clear hb2); (try clear hk); (try clear hi); (try clear ho0); obtain ⟨Ao38, co38, eo38⟩ := Kd.R_slice HO_11.out; subst eo38; obtain ⟨Ao39, co39, eo39⟩ := Kd.R_slice HO357.out; subst eo39) | ((with_reducible refine gate_callee (f := 16) rfl ?_); refine goesL_ (some 82) rfl rfl Try.func16 (by kernel_rfl) rfl #[.slice Ao38 t346.length co38, .slice Ao39 t355.length co39] rfl (by (try simp only [List.map_toArray, List.map_cons, List.map_nil]); first | done | rfl | (simp only [List.length_drop, List.length_take]; rfl)) ?_; (with_reducible refine (plenumref03_Same.calls kj11 _ _ t346 _ _ t355 true _ ?side1 ?side2 ?side3 ?side4 A34.out).mono ?_); (case side1 => repeat (first | exact (Kd.R_reads' HO_11.out).2.2 | (with_reducible refine Kd.C_alloc ?_ _) | (with_reducible refine Kd.C_drewN ?_ _) | (with_reducible refine Kd.C_drew ?_))); (case side2 => exact (Kd.R_reads' HO_11.out).2.1); (case side3 => repeat (first | exact (Kd.R_reads' HO357.out).2.2 | (with_reducible refine Kd.C_alloc ?_ _) | (with_reducible refine Kd.C_drewN ?_ _) | (with_reducible refine Kd.C_drew ?_))); (case side4 => exact (Kd.R_reads' HO357.out).2.1); rintro e w' ⟨rfl, ⟨nd, rfl⟩⟩; refine ⟨_, rfl, ?_⟩) | (go_at_call 19; (with_reducible refine (plenumref03_Area.calls kj11 _ _ l0 t359 t360 _ ?side1 ?side2 A36.out).mono ?_); (case side1 => repeat (first | exact (Kd.C_below HR0.out (by repeat (first | (with_reducible first | exact HB.out | apply below_alloc | apply pw_below_drewN | apply below_drew1) | exact HB.out))) | (with_reducible refine Kd.C_alloc ?_ _) | (with_reducible refine Kd.C_drewN ?_ _) | (with_reducible refine Kd.C_drew ?_))); (case side2 => exact HC0.out); rintro e w40 ⟨rfl, hb⟩; have n0_ := Aside0.mk (Kd.R_below (by (with_reducible repeat (first | apply Kd.R_alloc | apply Kd.R_drewN | apply Kd.R_drew)); exact HO_11.out) hb); have n1_ := Aside0.mk (Kd.R_below (by (with_reducible repeat (first | apply Kd.R_alloc | apply Kd.R_drewN | apply Kd.R_drew)); exact HO357.out) hb); have n2_ := Aside0.mk (below_step (by repeat (first | (with_reducible first | exact HB.out | apply below_alloc | apply pw_below_drewN | apply below_drew1) | exact HB.out)) hb); clear HO_11; clear HO357; clear HB; have HO_11 := n0_; have HO357 := n1_; have HB := n2_; clear n0_ n1_ n2_; (try clear hb); (try clear hb2); (try clear hk); (try clear hi)))
        go_ret
        exact ⟨by first | rfl | (simp [errW_none, errW_some] <;> rfl) | (simp [*, errW_none, errW_some] <;> rfl), by repeat (first | (with_reducible first | exact HB.out | apply below_alloc | apply pw_below_drewN | apply below_drew1) | exact HB.out)⟩
       ·
        replace c35 := Bool.eq_false_iff.mpr c35
        subst c35
        have H1 : (some false) = some r := by rw [if_neg (show ¬ (false = true) by decide)] at H; exact H
        clear H
        have H := H1
        clear H1
        obtain rfl := Option.some.inj H
        go_wp2_with (first | ((with_reducible refine gate_callee (f := 18) rfl ?_); refine goesL_ (some 81) rfl rfl Try.func18 (by kernel_rfl) rfl #[.slice A0 l0.length c0] rfl (by (try simp only [List.map_toArray, List.map_cons, List.map_nil]); first | done | rfl | (simp only [List.length_drop, List.length_take]; rfl)) ?_; (with_reducible refine (plenumref03_Simplify.calls kj11 _ _ l0 t355 _ ?side1 ?side2 A33.out).mono ?_); (case side1 => repeat (first | exact (Kd.C_below HR0.out HB.out) | (with_reducible refine Kd.C_alloc ?_ _) | (with_reducible refine Kd.C_drewN ?_ _) | (with_reducible refine Kd.C_drew ?_))); (case side2 => exact HC0.out); rintro e w41 ⟨v356, rfl, ho0, hb⟩; refine ⟨_, rfl, ?_⟩; have n0_ := Aside0.mk (Kd.R_elder' (by (with_reducible repeat (first | apply Kd.R_alloc | apply Kd.R_drewN | apply Kd.R_drew)); exact HO_11.out) (Kd.R_base ho0) hb); have n1_ := Aside0.mk (Kd.R_lower (Kd.R_new' ho0 (Kd.R_lt (by (with_reducible repeat (first | apply Kd.R_alloc | apply Kd.R_drewN | apply Kd.R_drew)); exact HO_11.out))) (below_size (by repeat (first | (with_reducible first | exact HB.out | apply below_alloc | apply pw_below_drewN | apply below_drew1) | exact HB.out)))); have n2_ := Aside0.mk (below_step (by repeat (first | (with_reducible first | exact HB.out | apply below_alloc | apply pw_below_drewN | apply below_drew1) | exact HB.out)) hb); clear HO_11; clear HB; have HO_11 := n0_; have HO357 := n1_; have HB := n2_; clear n0_ n1_ n2_; (try clear hb); (try clear hb2); (try clear hk); (try clear hi); (try clear ho0); obtain ⟨Ao42, co42, eo42⟩ := Kd.R_slice HO_11.out; subst eo42; obtain ⟨Ao43, co43, eo43⟩ := Kd.R_slice HO357.out; subst eo43) | ((with_reducible refine gate_callee (f := 16) rfl ?_); refine goesL_ (some 82) rfl rfl Try.func16 (by kernel_rfl) rfl #[.slice Ao42 t346.length co42, .slice Ao43 t355.length co43] rfl (by (try simp only [List.map_toArray, List.map_cons, List.map_nil]); first | done | rfl | (simp only [List.length_drop, List.length_take]; rfl)) ?_; (with_reducible refine (plenumref03_Same.calls kj11 _ _ t346 _ _ t355 false _ ?side1 ?side2 ?side3 ?side4 A34.out).mono ?_); (case side1 => repeat (first | exact (Kd.R_reads' HO_11.out).2.2 | (with_reducible refine Kd.C_alloc ?_ _) | (with_reducible refine Kd.C_drewN ?_ _) | (with_reducible refine Kd.C_drew ?_))); (case side2 => exact (Kd.R_reads' HO_11.out).2.1); (case side3 => repeat (first | exact (Kd.R_reads' HO357.out).2.2 | (with_reducible refine Kd.C_alloc ?_ _) | (with_reducible refine Kd.C_drewN ?_ _) | (with_reducible refine Kd.C_drew ?_))); (case side4 => exact (Kd.R_reads' HO357.out).2.1); rintro e w' ⟨rfl, ⟨nd, rfl⟩⟩; refine ⟨_, rfl, ?_⟩))
        go_ret
        exact ⟨by first | rfl | (simp [errW_none, errW_some] <;> rfl) | (simp [*, errW_none, errW_some] <;> rfl), by repeat (first | (with_reducible first | exact HB.out | apply below_alloc | apply pw_below_drewN | apply below_drew1) | exact HB.out)⟩
      ·
       rw [if_neg c32] at H
       have c32b0 : (t347 == 0) = false := beq_eq_false_iff_ne.mpr c32
       have c32b1 : (t347 != 0) = true := bne_iff_ne.mpr c32
       by_cases c44 : (t346.length : Int) = 0
       ·
        rw [if_pos c44] at H
        have c44b0 : ((t346.length : Int) == 0) = true := beq_iff_eq.mpr c44
        have c44b1 : ((t346.length : Int) != 0) = false := bne_eq_false_iff_eq.mpr c44
        clear c44
        by_cases c45 : t350 = 0
        ·
         rw [if_pos c45] at H
         have c45b0 : (t350 == 0) = true := beq_iff_eq.mpr c45
         have c45b1 : (t350 != 0) = false := bne_eq_false_iff_eq.mpr c45
         clear c45
         obtain rfl := Option.some.inj H
         obtain ⟨Ao46, co46, eo46⟩ := Kd.R_slice HO_11.out
         subst eo46
         go_wp2
         go_ret
         exact ⟨by first | rfl | (simp [errW_none, errW_some] <;> rfl) | (simp [*, errW_none, errW_some] <;> rfl), by repeat (first | (with_reducible first | exact HB.out | apply below_alloc | apply pw_below_drewN | apply below_drew1) | exact HB.out)⟩
        ·
         rw [if_neg c45] at H
         have c45b0 : (t350 == 0) = false := beq_eq_false_iff_ne.mpr c45
         have c45b1 : (t350 != 0) = true := bne_iff_ne.mpr c45
         obtain rfl := Option.some.inj H
         obtain ⟨Ao47, co47, eo47⟩ := Kd.R_slice HO_11.out
         subst eo47
         go_wp2
         go_ret
         exact ⟨by first | rfl | (simp [errW_none, errW_some] <;> rfl) | (simp [*, errW_none, errW_some] <;> rfl), by repeat (first | (with_reducible first | exact HB.out | apply below_alloc | apply pw_below_drewN | apply below_drew1) | exact HB.out)⟩
       ·
        rw [if_neg c44] at H
        have c44b0 : ((t346.length : Int) == 0) = false := beq_eq_false_iff_ne.mpr c44
        have c44b1 : ((t346.length : Int) != 0) = true := bne_iff_ne.mpr c44
        have c44b2 : ¬ (t346 = []) := fun h_ => c44 (by rw [h_]; rfl)
        obtain rfl := Option.some.inj H
        obtain ⟨Ao48, co48, eo48⟩ := Kd.R_slice HO_11.out
        subst eo48
        go_wp2
        go_ret
        exact ⟨by first | rfl | (simp [errW_none, errW_some] <;> rfl) | (simp [*, errW_none, errW_some] <;> rfl), by repeat (first | (with_reducible first | exact HB.out | apply below_alloc | apply pw_below_drewN | apply below_drew1) | exact HB.out)⟩
 ·
  replace c5 := Bool.eq_false_iff.mpr c5
  subst c5
  have H1 : (some false) = some r := by rw [if_neg (show ¬ (false = true) by decide)] at H; exact H
  clear H
  have H := H1
  clear H1
  obtain rfl := Option.some.inj H
  go_enter Try.func3, Try.ntmps3
  go_wp2_with (first | ((with_reducible refine gate_callee (f := 11) rfl ?_); refine goesL_ (some 16) rfl rfl Try.func11 (by kernel_rfl) rfl #[] rfl (by (try simp only [List.map_toArray, List.map_cons, List.map_nil]); first | done | rfl | (simp only [List.length_drop, List.length_take]; rfl)) ?_; (with_reducible refine (plenumlaw03_awake.calls  false _ A4.out).mono ?_); rintro e w49 ⟨rfl, hb⟩; refine ⟨_, rfl, ?_⟩; have n0_ := Aside0.mk (below_step (by repeat (first | (with_reducible first | exact HB.out | apply below_alloc | apply pw_below_drewN | apply below_drew1) | exact HB.out)) hb); clear HB; have HB := n0_; clear n0_; (try clear hb); (try clear hb2); (try clear hk); (try clear hi)))
  go_ret
  exact ⟨by first | rfl | (simp [errW_none, errW_some] <;> rfl) | (simp [*, errW_none, errW_some] <;> rfl), by repeat (first | (with_reducible first | exact HB.out | apply below_alloc | apply pw_below_drewN | apply below_drew1) | exact HB.out)⟩
/-- THE ONE PURE STATEMENT of plenumlaw03_CurveChanges. -/
def plenumlaw03_CurveChanges.Pure : Prop := ∀ (l0 : List (S50)) (a1 : Int) (a2 : Int), l0.length ≤ maxLen → l0.length * 16 ≤ 140737488351232 → (∀ x ∈ l0, (Lit.int .i64 x.f0).wf = true ∧ (Lit.int .i64 x.f1).wf = true) → (Lit.int .i64 a1).wf = true → (Lit.int .i64 a2).wf = true → ∃ k, plenumlaw03_CurveChanges.f k l0 a1 a2 = some true
theorem plenumlaw03_CurveChanges.walk (P : plenumlaw03_CurveChanges.Pure) (A0 : Option Addr) (c0 : Nat) (l0 : List (S50)) (a1 : Int) (a2 : Int) (w : World) (hr0 : Kd.C k50 w A0 l0.length l0) (hc0 : l0.length ≤ c0) (hm0 : l0.length ≤ maxLen) (y0 : l0.length * 16 ≤ 140737488351232) (hw0 : ∀ x ∈ l0, (Lit.int .i64 x.f0).wf = true ∧ (Lit.int .i64 x.f1).wf = true) (wa1 : (Lit.int .i64 a1).wf = true) (wa2 : (Lit.int .i64 a2).wf = true) :
 Calls Try.prog 3 #[.slice A0 l0.length c0, .int .i64 a1, .int .i64 a2] w fun e w' => e = .returned (.bool true) ∧ Below w.heap.size w w' := by
 obtain ⟨k, h⟩ := P l0 a1 a2 hm0 y0 hw0 wa1 wa2
 refine (plenumlaw03_CurveChanges.calls k A0 c0 l0 a1 a2 true w hr0 hc0 h).mono ?_
 rintro e w' ⟨rfl, hd⟩
 exact ⟨rfl, hd⟩
end Go.Proofs.Ytacheoimnckghaa.PT
