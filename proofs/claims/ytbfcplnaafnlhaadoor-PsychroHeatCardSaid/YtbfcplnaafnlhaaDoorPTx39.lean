-- Laid by hp.py (a program of this session's) through the kit's printer. (squeezed)
import Derived.Test.YtbfcplnaafnlhaaDoorPTx0
import Derived.Test.YtbfcplnaafnlhaaDoorLaid
import Derived.Test.YtbfcplnaafnlhaaDoorPTx14
import Derived.Test.YtbfcplnaafnlhaaDoorPTx15
import Derived.Test.YtbfcplnaafnlhaaDoorPTx34
import Derived.Test.YtbfcplnaafnlhaaDoorPTx36
import Derived.Test.YtbfcplnaafnlhaaDoorPTx37
import Derived.Test.YtbfcplnaafnlhaaDoorPTx38
namespace Go.Proofs.YtbfcplnaafnlhaaDoor.PT
open Go.RowKit Go.Proofs.YtbfcplnaafnlhaaDoorW.PrintWords Go.Proofs.YtbfcplnaafnlhaaDoorW.PrintLast Go.Proofs.YtbfcplnaafnlhaaDoorW.PrintMore
attribute [local go_sem] max2_int min2_int max_two min_two max_three min_three max_four min_four   -- for this text's walks alone
set_option linter.unusedVariables false
set_option linter.unusedSimpArgs false
/-! ### plenumlaw22_PsychroHeat: function 8 -/
def plenumlaw22_PsychroHeat.f (k : Nat) (a0 : Int) (a1 : Int) (a2 : Int) (a3 : Int) (a4 : Int) : Option (Bool) := (plenumlaw22_awake.f).bind fun t302 => (if t302 = true then ((psychro_Enthalpy.f k a0 a1).bind fun t303 => ((plenumref22_Enthalpy.f k a0 a1).bind fun t304 => (if t303 = t304 then ((psychro_Temperature.f k a2 a1).bind fun t305 => ((plenumref22_Temperature.f k a2 a1).bind fun t306 => (if t305 = t306 then ((psychro_Economizer.f k a0 a1 a3 a4).bind fun t307 => ((plenumref22_Economizer.f k a0 a1 a3 a4).bind fun t308 => (some (t307 == t308)))) else (some false)))) else (some false)))) else (some false))
theorem plenumlaw22_PsychroHeat.mono : ∀ a0 a1 a2 a3 a4 k, LeO (plenumlaw22_PsychroHeat.f k a0 a1 a2 a3 a4) (plenumlaw22_PsychroHeat.f (k + 1) a0 a1 a2 a3 a4) := by
 intro a0 a1 a2 a3 a4 k
 unfold plenumlaw22_PsychroHeat.f
 repeat' first
  | (with_reducible exact plenumref22_Economizer.mono _ _ _ _ _)
  | (with_reducible exact plenumref22_Enthalpy.mono _ _ _)
  | (with_reducible exact plenumref22_Temperature.mono _ _ _)
  | (with_reducible exact psychro_Economizer.mono _ _ _ _ _)
  | (with_reducible exact psychro_Enthalpy.mono _ _ _)
  | (with_reducible exact psychro_Temperature.mono _ _ _)
  | (with_reducible exact LeO.refl _)
  | (with_reducible exact LeO.none _)
  | (with_reducible refine LeO.ite ?_ ?_)
  | (with_reducible refine LeO.bind ?_ (fun _ => ?_))
  | exact plenumref22_Economizer.mono _ _ _ _ _
  | exact plenumref22_Enthalpy.mono _ _ _
  | exact plenumref22_Temperature.mono _ _ _
  | exact psychro_Economizer.mono _ _ _ _ _
  | exact psychro_Enthalpy.mono _ _ _
  | exact psychro_Temperature.mono _ _ _
  | exact LeO.none _
  | refine LeO.ite ?_ ?_
  | refine LeO.bind ?_ (fun _ => ?_)
set_option maxHeartbeats 8000000 in
set_option maxRecDepth 100000 in
theorem plenumlaw22_PsychroHeat.calls (k : Nat) (a0 : Int) (a1 : Int) (a2 : Int) (a3 : Int) (a4 : Int) (r : Bool) (w : World) (hL : LaidT w) (h : plenumlaw22_PsychroHeat.f k a0 a1 a2 a3 a4 = some r) :
 Calls Tryd.prog 8 #[.int .i64 a0, .int .i64 a1, .int .i64 a2, .int .i64 a3, .int .i64 a4] w fun e w' => e = .returned (.bool r) ∧ Below w.heap.size w w' := by
 have HL := Aside0.mk hL
 have HB := Aside0.mk (Below.refl w.heap.size w)
 have H : ((plenumlaw22_awake.f).bind fun t302 => (if t302 = true then ((psychro_Enthalpy.f k a0 a1).bind fun t303 => ((plenumref22_Enthalpy.f k a0 a1).bind fun t304 => (if t303 = t304 then ((psychro_Temperature.f k a2 a1).bind fun t305 => ((plenumref22_Temperature.f k a2 a1).bind fun t306 => (if t305 = t306 then ((psychro_Economizer.f k a0 a1 a3 a4).bind fun t307 => ((plenumref22_Economizer.f k a0 a1 a3 a4).bind fun t308 => (some (t307 == t308)))) else (some false)))) else (some false)))) else (some false))) = some r := h
 clear h
 replace H := Option.bind_eq_some_iff.mp H
 obtain ⟨t302, A60, H⟩ := H
 replace H : (if t302 = true then ((psychro_Enthalpy.f k a0 a1).bind fun t303 => ((plenumref22_Enthalpy.f k a0 a1).bind fun t304 => (if t303 = t304 then ((psychro_Temperature.f k a2 a1).bind fun t305 => ((plenumref22_Temperature.f k a2 a1).bind fun t306 => (if t305 = t306 then ((psychro_Economizer.f k a0 a1 a3 a4).bind fun t307 => ((plenumref22_Economizer.f k a0 a1 a3 a4).bind fun t308 => (some (t307 == t308)))) else (some false)))) else (some false)))) else (some false)) = some r := H
 have A6 := Aside0.mk A60
 clear A60
 by_cases c7 : t302 = true
 ·
  subst c7
  have H1 : ((psychro_Enthalpy.f k a0 a1).bind fun t303 => ((plenumref22_Enthalpy.f k a0 a1).bind fun t304 => (if t303 = t304 then ((psychro_Temperature.f k a2 a1).bind fun t305 => ((plenumref22_Temperature.f k a2 a1).bind fun t306 => (if t305 = t306 then ((psychro_Economizer.f k a0 a1 a3 a4).bind fun t307 => ((plenumref22_Economizer.f k a0 a1 a3 a4).bind fun t308 => (some (t307 == t308)))) else (some false)))) else (some false)))) = some r := by rw [if_pos rfl] at H; exact H
  clear H
  have H := H1
  clear H1
  replace H := Option.bind_eq_some_iff.mp H
  obtain ⟨t303, A80, H⟩ := H
  replace H : ((plenumref22_Enthalpy.f k a0 a1).bind fun t304 => (if t303 = t304 then ((psychro_Temperature.f k a2 a1).bind fun t305 => ((plenumref22_Temperature.f k a2 a1).bind fun t306 => (if t305 = t306 then ((psychro_Economizer.f k a0 a1 a3 a4).bind fun t307 => ((plenumref22_Economizer.f k a0 a1 a3 a4).bind fun t308 => (some (t307 == t308)))) else (some false)))) else (some false))) = some r := H
  have A8 := Aside0.mk A80
  clear A80
  replace H := Option.bind_eq_some_iff.mp H
  obtain ⟨t304, A90, H⟩ := H
  replace H : (if t303 = t304 then ((psychro_Temperature.f k a2 a1).bind fun t305 => ((plenumref22_Temperature.f k a2 a1).bind fun t306 => (if t305 = t306 then ((psychro_Economizer.f k a0 a1 a3 a4).bind fun t307 => ((plenumref22_Economizer.f k a0 a1 a3 a4).bind fun t308 => (some (t307 == t308)))) else (some false)))) else (some false)) = some r := H
  have A9 := Aside0.mk A90
  clear A90
  by_cases c10 : t303 = t304
  ·
   rw [if_pos c10] at H
   have c10b0 : (t303 == t304) = true := beq_iff_eq.mpr c10
   have c10b1 : (t303 != t304) = false := bne_eq_false_iff_eq.mpr c10
   clear c10
   replace H := Option.bind_eq_some_iff.mp H
   obtain ⟨t305, A110, H⟩ := H
   replace H : ((plenumref22_Temperature.f k a2 a1).bind fun t306 => (if t305 = t306 then ((psychro_Economizer.f k a0 a1 a3 a4).bind fun t307 => ((plenumref22_Economizer.f k a0 a1 a3 a4).bind fun t308 => (some (t307 == t308)))) else (some false))) = some r := H
   have A11 := Aside0.mk A110
   clear A110
   replace H := Option.bind_eq_some_iff.mp H
   obtain ⟨t306, A120, H⟩ := H
   replace H : (if t305 = t306 then ((psychro_Economizer.f k a0 a1 a3 a4).bind fun t307 => ((plenumref22_Economizer.f k a0 a1 a3 a4).bind fun t308 => (some (t307 == t308)))) else (some false)) = some r := H
   have A12 := Aside0.mk A120
   clear A120
   by_cases c13 : t305 = t306
   ·
    rw [if_pos c13] at H
    have c13b0 : (t305 == t306) = true := beq_iff_eq.mpr c13
    have c13b1 : (t305 != t306) = false := bne_eq_false_iff_eq.mpr c13
    clear c13
    replace H := Option.bind_eq_some_iff.mp H
    obtain ⟨t307, A140, H⟩ := H
    replace H : ((plenumref22_Economizer.f k a0 a1 a3 a4).bind fun t308 => (some (t307 == t308))) = some r := H
    have A14 := Aside0.mk A140
    clear A140
    replace H := Option.bind_eq_some_iff.mp H
    obtain ⟨t308, A150, H⟩ := H
    replace H : (some (t307 == t308)) = some r := H
    have A15 := Aside0.mk A150
    clear A150
    obtain rfl := Option.some.inj H
    go_enter Tryd.func8, Tryd.ntmps8
    go_wp2_with (first | ((with_reducible refine gate_callee (f := 10) rfl ?_); refine goesL_ (some 11) rfl rfl Tryd.func10 (by kernel_rfl) rfl #[] rfl (by (try simp only [List.map_toArray, List.map_cons, List.map_nil]); first | done | rfl | (simp only [List.length_drop, List.length_take]; rfl)) ?_; (with_reducible refine (plenumlaw22_awake.calls  true _ ?sideL A6.out).mono ?_); (case sideL => exact LaidT.below HL.out (by repeat (first | (with_reducible first | exact HB.out | apply below_alloc | apply pw_below_drewN | apply below_drew1) | exact HB.out))); rintro e w16 ⟨rfl, hb⟩; refine ⟨_, rfl, ?_⟩; have n0_ := Aside0.mk (below_step (by repeat (first | (with_reducible first | exact HB.out | apply below_alloc | apply pw_below_drewN | apply below_drew1) | exact HB.out)) hb); clear HB; have HB := n0_; clear n0_; (try clear hb); (try clear hb2); (try clear hk); (try clear hi)) | ((with_reducible refine gate_callee (f := 21) rfl ?_); refine goesL_ (some 15) rfl rfl Tryd.func21 (by kernel_rfl) rfl #[.int .i64 a0, .int .i64 a1] rfl (by (try simp only [List.map_toArray, List.map_cons, List.map_nil]); first | done | rfl | (simp only [List.length_drop, List.length_take]; rfl)) ?_; (with_reducible refine (psychro_Enthalpy.calls k a0 a1 t303 _ A8.out).mono ?_); rintro e w17 ⟨rfl, hb⟩; refine ⟨_, rfl, ?_⟩; have n0_ := Aside0.mk (below_step (by repeat (first | (with_reducible first | exact HB.out | apply below_alloc | apply pw_below_drewN | apply below_drew1) | exact HB.out)) hb); clear HB; have HB := n0_; clear n0_; (try clear hb); (try clear hb2); (try clear hk); (try clear hi)) | ((with_reducible refine gate_callee (f := 23) rfl ?_); refine goesL_ (some 18) rfl rfl Tryd.func23 (by kernel_rfl) rfl #[.int .i64 a0, .int .i64 a1] rfl (by (try simp only [List.map_toArray, List.map_cons, List.map_nil]); first | done | rfl | (simp only [List.length_drop, List.length_take]; rfl)) ?_; (with_reducible refine (plenumref22_Enthalpy.calls k a0 a1 t304 _ A9.out).mono ?_); rintro e w18 ⟨rfl, hb⟩; refine ⟨_, rfl, ?_⟩; have n0_ := Aside0.mk (below_step (by repeat (first | (with_reducible first | exact HB.out | apply below_alloc | apply pw_below_drewN | apply below_drew1) | exact HB.out)) hb); clear HB; have HB := n0_; clear n0_; (try clear hb); (try clear hb2); (try clear hk); (try clear hi)) | (go_at_call 22; (with_reducible refine (psychro_Temperature.calls k a2 a1 t305 _ A11.out).mono ?_); rintro e w19 ⟨rfl, hb⟩; have n0_ := Aside0.mk (below_step (by repeat (first | (with_reducible first | exact HB.out | apply below_alloc | apply pw_below_drewN | apply below_drew1) | exact HB.out)) hb); clear HB; have HB := n0_; clear n0_; (try clear hb); (try clear hb2); (try clear hk); (try clear hi)) | (go_at_call 24; (with_reducible refine (plenumref22_Temperature.calls k a2 a1 t306 _ A12.out).mono ?_); rintro e w20 ⟨rfl, hb⟩; have n0_ := Aside0.mk (below_step (by repeat (first | (with_reducible first | exact HB.out | apply below_alloc | apply pw_below_drewN | apply below_drew1) | exact HB.out)) hb); clear HB; have HB := n0_; clear n0_; (try clear hb); (try clear hb2); (try clear hk); (try clear hi)) | (go_at_call 25; (with_reducible refine (psychro_Economizer.calls k a0 a1 a3 a4 t307 _ ?sideL A14.out).mono ?_); (case sideL => exact LaidT.below HL.out (by repeat (first | (with_reducible first | exact HB.out | apply below_alloc | apply pw_below_drewN | apply below_drew1) | exact HB.out))); rintro e w21 ⟨rfl, hb⟩; have n0_ := Aside0.mk (below_step (by repeat (first | (with_reducible first | exact HB.out | apply below_alloc | apply pw_below_drewN | apply below_drew1) | exact HB.out)) hb); clear HB; have HB := n0_; clear n0_; (try clear hb); (try clear hb2); (try clear hk); (try clear hi)) | (go_at_call 26; (with_reducible refine (plenumref22_Economizer.calls k a0 a1 a3 a4 t308 _ A15.out).mono ?_); rintro e w22 ⟨rfl, hb⟩; have n0_ := Aside0.mk (below_step (by repeat (first | (with_reducible first | exact HB.out | apply below_alloc | apply pw_below_drewN | apply below_drew1) | exact HB.out)) hb); clear HB; have HB := n0_; clear n0_; (try clear hb); (try clear hb2); (try clear hk); (try clear hi)))
    go_ret
    exact ⟨by first | rfl | (simp [errW_none, errW_some] <;> rfl) | (simp [*, errW_none, errW_some] <;> rfl), by repeat (first | (with_reducible first | exact HB.out | apply below_alloc | apply pw_below_drewN | apply below_drew1) | exact HB.out)⟩
   ·
    rw [if_neg c13] at H
    have c13b0 : (t305 == t306) = false := beq_eq_false_iff_ne.mpr c13
    have c13b1 : (t305 != t306) = true := bne_iff_ne.mpr c13
    obtain rfl := Option.some.inj H
    go_enter Tryd.func8, Tryd.ntmps8
    go_wp2_with (first | ((with_reducible refine gate_callee (f := 10) rfl ?_); refine goesL_ (some 11) rfl rfl Tryd.func10 (by kernel_rfl) rfl #[] rfl (by (try simp only [List.map_toArray, List.map_cons, List.map_nil]); first | done | rfl | (simp only [List.length_drop, List.length_take]; rfl)) ?_; (with_reducible refine (plenumlaw22_awake.calls  true _ ?sideL A6.out).mono ?_); (case sideL => exact LaidT.below HL.out (by repeat (first | (with_reducible first | exact HB.out | apply below_alloc | apply pw_below_drewN | apply below_drew1) | exact HB.out))); rintro e w23 ⟨rfl, hb⟩; refine ⟨_, rfl, ?_⟩; have n0_ := Aside0.mk (below_step (by repeat (first | (with_reducible first | exact HB.out | apply below_alloc | apply pw_below_drewN | apply below_drew1) | exact HB.out)) hb); clear HB; have HB := n0_; clear n0_; (try clear hb); (try clear hb2); (try clear hk); (try clear hi)) | ((with_reducible refine gate_callee (f := 21) rfl ?_); refine goesL_ (some 15) rfl rfl Tryd.func21 (by kernel_rfl) rfl #[.int .i64 a0, .int .i64 a1] rfl (by (try simp only [List.map_toArray, List.map_cons, List.map_nil]); first | done | rfl | (simp only [List.length_drop, List.length_take]; rfl)) ?_; (with_reducible refine (psychro_Enthalpy.calls k a0 a1 t303 _ A8.out).mono ?_); rintro e w24 ⟨rfl, hb⟩; refine ⟨_, rfl, ?_⟩; have n0_ := Aside0.mk (below_step (by repeat (first | (with_reducible first | exact HB.out | apply below_alloc | apply pw_below_drewN | apply below_drew1) | exact HB.out)) hb); clear HB; have HB := n0_; clear n0_; (try clear hb); (try clear hb2); (try clear hk); (try clear hi)) | ((with_reducible refine gate_callee (f := 23) rfl ?_); refine goesL_ (some 18) rfl rfl Tryd.func23 (by kernel_rfl) rfl #[.int .i64 a0, .int .i64 a1] rfl (by (try simp only [List.map_toArray, List.map_cons, List.map_nil]); first | done | rfl | (simp only [List.length_drop, List.length_take]; rfl)) ?_; (with_reducible refine (plenumref22_Enthalpy.calls k a0 a1 t304 _ A9.out).mono ?_); rintro e w25 ⟨rfl, hb⟩; refine ⟨_, rfl, ?_⟩; have n0_ := Aside0.mk (below_step (by repeat (first | (with_reducible first | exact HB.out | apply below_alloc | apply pw_below_drewN | apply below_drew1) | exact HB.out)) hb); clear HB; have HB := n0_; clear n0_; (try clear hb); (try clear hb2); (try clear hk); (try clear hi)) | (go_at_call 22; (with_reducible refine (psychro_Temperature.calls k a2 a1 t305 _ A11.out).mono ?_); rintro e w26 ⟨rfl, hb⟩; have n0_ := Aside0.mk (below_step (by repeat (first | (with_reducible first | exact HB.out | apply below_alloc | apply pw_below_drewN | apply below_drew1) | exact HB.out)) hb); clear HB; have HB := n0_; clear n0_; (try clear hb); (try clear hb2); (try clear hk); (try clear hi)) | (go_at_call 24; (with_reducible refine (plenumref22_Temperature.calls k a2 a1 t306 _ A12.out).mono ?_); rintro e w27 ⟨rfl, hb⟩; have n0_ := Aside0.mk (below_step (by repeat (first | (with_reducible first | exact HB.out | apply below_alloc | apply pw_below_drewN | apply below_drew1) | exact HB.out)) hb); clear HB; have HB := n0_; clear n0_; (try clear hb); (try clear hb2); (try clear hk); (try clear hi)))
    go_ret
    exact ⟨by first | rfl | (simp [errW_none, errW_some] <;> rfl) | (simp [*, errW_none, errW_some] <;> rfl), by repeat (first | (with_reducible first | exact HB.out | apply below_alloc | apply pw_below_drewN | apply below_drew1) | exact HB.out)⟩
  ·
   rw [if_neg c10] at H
   have c10b0 : (t303 == t304) = false := beq_eq_false_iff_ne.mpr c10
   have c10b1 : (t303 != t304) = true := bne_iff_ne.mpr c10
   obtain rfl := Option.some.inj H
   go_enter Tryd.func8, Tryd.ntmps8
   go_wp2_with (first | ((with_reducible refine gate_callee (f := 10) rfl ?_); refine goesL_ (some 11) rfl rfl Tryd.func10 (by kernel_rfl) rfl #[] rfl (by (try simp only [List.map_toArray, List.map_cons, List.map_nil]); first | done | rfl | (simp only [List.length_drop, List.length_take]; rfl)) ?_; (with_reducible refine (plenumlaw22_awake.calls  true _ ?sideL A6.out).mono ?_); (case sideL => exact LaidT.below HL.out (by repeat (first | (with_reducible first | exact HB.out | apply below_alloc | apply pw_below_drewN | apply below_drew1) | exact HB.out))); rintro e w28 ⟨rfl, hb⟩; refine ⟨_, rfl, ?_⟩; have n0_ := Aside0.mk (below_step (by repeat (first | (with_reducible first | exact HB.out | apply below_alloc | apply pw_below_drewN | apply below_drew1) | exact HB.out)) hb); clear HB; have HB := n0_; clear n0_; (try clear hb); (try clear hb2); (try clear hk); (try clear hi)) | ((with_reducible refine gate_callee (f := 21) rfl ?_); refine goesL_ (some 15) rfl rfl Tryd.func21 (by kernel_rfl) rfl #[.int .i64 a0, .int .i64 a1] rfl (by (try simp only [List.map_toArray, List.map_cons, List.map_nil]); first | done | rfl | (simp only [List.length_drop, List.length_take]; rfl)) ?_; (with_reducible refine (psychro_Enthalpy.calls k a0 a1 t303 _ A8.out).mono ?_); rintro e w29 ⟨rfl, hb⟩; refine ⟨_, rfl, ?_⟩; have n0_ := Aside0.mk (below_step (by repeat (first | (with_reducible first | exact HB.out | apply below_alloc | apply pw_below_drewN | apply below_drew1) | exact HB.out)) hb); clear HB; have HB := n0_; clear n0_; (try clear hb); (try clear hb2); (try clear hk); (try clear hi)) | ((with_reducible refine gate_callee (f := 23) rfl ?_); refine goesL_ (some 18) rfl rfl Tryd.func23 (by kernel_rfl) rfl #[.int .i64 a0, .int .i64 a1] rfl (by (try simp only [List.map_toArray, List.map_cons, List.map_nil]); first | done | rfl | (simp only [List.length_drop, List.length_take]; rfl)) ?_; (with_reducible refine (plenumref22_Enthalpy.calls k a0 a1 t304 _ A9.out).mono ?_); rintro e w30 ⟨rfl, hb⟩; refine ⟨_, rfl, ?_⟩; have n0_ := Aside0.mk (below_step (by repeat (first | (with_reducible first | exact HB.out | apply below_alloc | apply pw_below_drewN | apply below_drew1) | exact HB.out)) hb); clear HB; have HB := n0_; clear n0_; (try clear hb); (try clear hb2); (try clear hk); (try clear hi)))
   go_ret
   exact ⟨by first | rfl | (simp [errW_none, errW_some] <;> rfl) | (simp [*, errW_none, errW_some] <;> rfl), by repeat (first | (with_reducible first | exact HB.out | apply below_alloc | apply pw_below_drewN | apply below_drew1) | exact HB.out)⟩
 ·
  replace c7 := Bool.eq_false_iff.mpr c7
  subst c7
  have H1 : (some false) = some r := by rw [if_neg (show ¬ (false = true) by decide)] at H; exact H
  clear H
  have H := H1
  clear H1
  obtain rfl := Option.some.inj H
  go_enter Tryd.func8, Tryd.ntmps8
  go_wp2_with (first | ((with_reducible refine gate_callee (f := 10) rfl ?_); refine goesL_ (some 11) rfl rfl Tryd.func10 (by kernel_rfl) rfl #[] rfl (by (try simp only [List.map_toArray, List.map_cons, List.map_nil]); first | done | rfl | (simp only [List.length_drop, List.length_take]; rfl)) ?_; (with_reducible refine (plenumlaw22_awake.calls  false _ ?sideL A6.out).mono ?_); (case sideL => exact LaidT.below HL.out (by repeat (first | (with_reducible first | exact HB.out | apply below_alloc | apply pw_below_drewN | apply below_drew1) | exact HB.out))); rintro e w31 ⟨rfl, hb⟩; refine ⟨_, rfl, ?_⟩; have n0_ := Aside0.mk (below_step (by repeat (first | (with_reducible first | exact HB.out | apply below_alloc | apply pw_below_drewN | apply below_drew1) | exact HB.out)) hb); clear HB; have HB := n0_; clear n0_; (try clear hb); (try clear hb2); (try clear hk); (try clear hi)))
  go_ret
  exact ⟨by first | rfl | (simp [errW_none, errW_some] <;> rfl) | (simp [*, errW_none, errW_some] <;> rfl), by repeat (first | (with_reducible first | exact HB.out | apply below_alloc | apply pw_below_drewN | apply below_drew1) | exact HB.out)⟩
/-- THE ONE PURE STATEMENT of plenumlaw22_PsychroHeat: yours. -/
def plenumlaw22_PsychroHeat.Pure : Prop := ∀ (a0 : Int) (a1 : Int) (a2 : Int) (a3 : Int) (a4 : Int), (Lit.int .i64 a0).wf = true → (Lit.int .i64 a1).wf = true → (Lit.int .i64 a2).wf = true → (Lit.int .i64 a3).wf = true → (Lit.int .i64 a4).wf = true → ∃ k, plenumlaw22_PsychroHeat.f k a0 a1 a2 a3 a4 = some true
theorem plenumlaw22_PsychroHeat.walk (P : plenumlaw22_PsychroHeat.Pure) (a0 : Int) (a1 : Int) (a2 : Int) (a3 : Int) (a4 : Int) (w : World) (hL : LaidT w) (w0 : (Lit.int .i64 a0).wf = true) (w1 : (Lit.int .i64 a1).wf = true) (w2 : (Lit.int .i64 a2).wf = true) (w3 : (Lit.int .i64 a3).wf = true) (w4 : (Lit.int .i64 a4).wf = true) :
 Calls Tryd.prog 8 #[.int .i64 a0, .int .i64 a1, .int .i64 a2, .int .i64 a3, .int .i64 a4] w fun e w' => e = .returned (.bool true) ∧ Below w.heap.size w w' := by
 obtain ⟨k, h⟩ := P a0 a1 a2 a3 a4 w0 w1 w2 w3 w4
 refine (plenumlaw22_PsychroHeat.calls k a0 a1 a2 a3 a4 true w hL h).mono ?_
 rintro e w' ⟨rfl, hd⟩
 exact ⟨rfl, hd⟩
end Go.Proofs.YtbfcplnaafnlhaaDoor.PT
