-- Laid by hp.py (a program of this session's) through the kit's printer. (squeezed)
import Derived.Test.YtbfcplnaafnlhaaDoorPTx0
import Derived.Test.YtbfcplnaafnlhaaDoorLaid
import Derived.Test.YtbfcplnaafnlhaaDoorPTx12
import Derived.Test.YtbfcplnaafnlhaaDoorPTx13
import Derived.Test.YtbfcplnaafnlhaaDoorPTx14
import Derived.Test.YtbfcplnaafnlhaaDoorPTx15
import Derived.Test.YtbfcplnaafnlhaaDoorPTx28
import Derived.Test.YtbfcplnaafnlhaaDoorPTx29
import Derived.Test.YtbfcplnaafnlhaaDoorPTx30
import Derived.Test.YtbfcplnaafnlhaaDoorPTx31
namespace Go.Proofs.YtbfcplnaafnlhaaDoor.PT
open Go.RowKit Go.Proofs.YtbfcplnaafnlhaaDoorW.PrintWords Go.Proofs.YtbfcplnaafnlhaaDoorW.PrintLast Go.Proofs.YtbfcplnaafnlhaaDoorW.PrintMore
attribute [local go_sem] max2_int min2_int max_two min_two max_three min_three max_four min_four   -- for this text's walks alone
set_option linter.unusedVariables false
set_option linter.unusedSimpArgs false
/-! ### plenumlaw22_PsychroAir: function 5 -/
def plenumlaw22_PsychroAir.f (k : Nat) (a0 : Int) (a1 : Int) (a2 : Int) : Option (Bool) := (plenumlaw22_awake.f).bind fun t255 => (if t255 = true then ((psychro_Saturation.f k a0).bind fun t256 => ((plenumref22_Saturation.f k a0).bind fun t257 => (if t256 = t257 then ((psychro_Ratio.f k a0 a1).bind fun t258 => ((plenumref22_Ratio.f k a0 a1).bind fun t259 => (if t258 = t259 then ((psychro_Humidity.f k a0 a2).bind fun t260 => ((plenumref22_Humidity.f k a0 a2).bind fun t261 => (if t260 = t261 then ((psychro_Dew.f k a2).bind fun t262 => ((plenumref22_Dew.f k a2).bind fun t263 => (some (t262 == t263)))) else (some false)))) else (some false)))) else (some false)))) else (some false))
theorem plenumlaw22_PsychroAir.mono : ∀ a0 a1 a2 k, LeO (plenumlaw22_PsychroAir.f k a0 a1 a2) (plenumlaw22_PsychroAir.f (k + 1) a0 a1 a2) := by
 intro a0 a1 a2 k
 unfold plenumlaw22_PsychroAir.f
 repeat' first
  | (with_reducible exact plenumref22_Dew.mono _ _)
  | (with_reducible exact plenumref22_Humidity.mono _ _ _)
  | (with_reducible exact plenumref22_Ratio.mono _ _ _)
  | (with_reducible exact plenumref22_Saturation.mono _ _)
  | (with_reducible exact psychro_Dew.mono _ _)
  | (with_reducible exact psychro_Humidity.mono _ _ _)
  | (with_reducible exact psychro_Ratio.mono _ _ _)
  | (with_reducible exact psychro_Saturation.mono _ _)
  | (with_reducible exact LeO.refl _)
  | (with_reducible exact LeO.none _)
  | (with_reducible refine LeO.ite ?_ ?_)
  | (with_reducible refine LeO.bind ?_ (fun _ => ?_))
  | exact plenumref22_Dew.mono _ _
  | exact plenumref22_Humidity.mono _ _ _
  | exact plenumref22_Ratio.mono _ _ _
  | exact plenumref22_Saturation.mono _ _
  | exact psychro_Dew.mono _ _
  | exact psychro_Humidity.mono _ _ _
  | exact psychro_Ratio.mono _ _ _
  | exact psychro_Saturation.mono _ _
  | exact LeO.none _
  | refine LeO.ite ?_ ?_
  | refine LeO.bind ?_ (fun _ => ?_)
set_option maxHeartbeats 8000000 in
set_option maxRecDepth 100000 in
theorem plenumlaw22_PsychroAir.calls (k : Nat) (a0 : Int) (a1 : Int) (a2 : Int) (r : Bool) (w : World) (hL : LaidT w) (h : plenumlaw22_PsychroAir.f k a0 a1 a2 = some r) :
 Calls Tryd.prog 5 #[.int .i64 a0, .int .i64 a1, .int .i64 a2] w fun e w' => e = .returned (.bool r) ∧ Below w.heap.size w w' := by
 have HL := Aside0.mk hL
 have HB := Aside0.mk (Below.refl w.heap.size w)
 have H : ((plenumlaw22_awake.f).bind fun t255 => (if t255 = true then ((psychro_Saturation.f k a0).bind fun t256 => ((plenumref22_Saturation.f k a0).bind fun t257 => (if t256 = t257 then ((psychro_Ratio.f k a0 a1).bind fun t258 => ((plenumref22_Ratio.f k a0 a1).bind fun t259 => (if t258 = t259 then ((psychro_Humidity.f k a0 a2).bind fun t260 => ((plenumref22_Humidity.f k a0 a2).bind fun t261 => (if t260 = t261 then ((psychro_Dew.f k a2).bind fun t262 => ((plenumref22_Dew.f k a2).bind fun t263 => (some (t262 == t263)))) else (some false)))) else (some false)))) else (some false)))) else (some false))) = some r := h
 clear h
 replace H := Option.bind_eq_some_iff.mp H
 obtain ⟨t255, A40, H⟩ := H
 replace H : (if t255 = true then ((psychro_Saturation.f k a0).bind fun t256 => ((plenumref22_Saturation.f k a0).bind fun t257 => (if t256 = t257 then ((psychro_Ratio.f k a0 a1).bind fun t258 => ((plenumref22_Ratio.f k a0 a1).bind fun t259 => (if t258 = t259 then ((psychro_Humidity.f k a0 a2).bind fun t260 => ((plenumref22_Humidity.f k a0 a2).bind fun t261 => (if t260 = t261 then ((psychro_Dew.f k a2).bind fun t262 => ((plenumref22_Dew.f k a2).bind fun t263 => (some (t262 == t263)))) else (some false)))) else (some false)))) else (some false)))) else (some false)) = some r := H
 have A4 := Aside0.mk A40
 clear A40
 by_cases c5 : t255 = true
 ·
  subst c5
  have H1 : ((psychro_Saturation.f k a0).bind fun t256 => ((plenumref22_Saturation.f k a0).bind fun t257 => (if t256 = t257 then ((psychro_Ratio.f k a0 a1).bind fun t258 => ((plenumref22_Ratio.f k a0 a1).bind fun t259 => (if t258 = t259 then ((psychro_Humidity.f k a0 a2).bind fun t260 => ((plenumref22_Humidity.f k a0 a2).bind fun t261 => (if t260 = t261 then ((psychro_Dew.f k a2).bind fun t262 => ((plenumref22_Dew.f k a2).bind fun t263 => (some (t262 == t263)))) else (some false)))) else (some false)))) else (some false)))) = some r := by rw [if_pos rfl] at H; exact H
  clear H
  have H := H1
  clear H1
  replace H := Option.bind_eq_some_iff.mp H
  obtain ⟨t256, A60, H⟩ := H
  replace H : ((plenumref22_Saturation.f k a0).bind fun t257 => (if t256 = t257 then ((psychro_Ratio.f k a0 a1).bind fun t258 => ((plenumref22_Ratio.f k a0 a1).bind fun t259 => (if t258 = t259 then ((psychro_Humidity.f k a0 a2).bind fun t260 => ((plenumref22_Humidity.f k a0 a2).bind fun t261 => (if t260 = t261 then ((psychro_Dew.f k a2).bind fun t262 => ((plenumref22_Dew.f k a2).bind fun t263 => (some (t262 == t263)))) else (some false)))) else (some false)))) else (some false))) = some r := H
  have A6 := Aside0.mk A60
  clear A60
  replace H := Option.bind_eq_some_iff.mp H
  obtain ⟨t257, A70, H⟩ := H
  replace H : (if t256 = t257 then ((psychro_Ratio.f k a0 a1).bind fun t258 => ((plenumref22_Ratio.f k a0 a1).bind fun t259 => (if t258 = t259 then ((psychro_Humidity.f k a0 a2).bind fun t260 => ((plenumref22_Humidity.f k a0 a2).bind fun t261 => (if t260 = t261 then ((psychro_Dew.f k a2).bind fun t262 => ((plenumref22_Dew.f k a2).bind fun t263 => (some (t262 == t263)))) else (some false)))) else (some false)))) else (some false)) = some r := H
  have A7 := Aside0.mk A70
  clear A70
  by_cases c8 : t256 = t257
  ·
   rw [if_pos c8] at H
   have c8b0 : (t256 == t257) = true := beq_iff_eq.mpr c8
   have c8b1 : (t256 != t257) = false := bne_eq_false_iff_eq.mpr c8
   clear c8
   replace H := Option.bind_eq_some_iff.mp H
   obtain ⟨t258, A90, H⟩ := H
   replace H : ((plenumref22_Ratio.f k a0 a1).bind fun t259 => (if t258 = t259 then ((psychro_Humidity.f k a0 a2).bind fun t260 => ((plenumref22_Humidity.f k a0 a2).bind fun t261 => (if t260 = t261 then ((psychro_Dew.f k a2).bind fun t262 => ((plenumref22_Dew.f k a2).bind fun t263 => (some (t262 == t263)))) else (some false)))) else (some false))) = some r := H
   have A9 := Aside0.mk A90
   clear A90
   replace H := Option.bind_eq_some_iff.mp H
   obtain ⟨t259, A100, H⟩ := H
   replace H : (if t258 = t259 then ((psychro_Humidity.f k a0 a2).bind fun t260 => ((plenumref22_Humidity.f k a0 a2).bind fun t261 => (if t260 = t261 then ((psychro_Dew.f k a2).bind fun t262 => ((plenumref22_Dew.f k a2).bind fun t263 => (some (t262 == t263)))) else (some false)))) else (some false)) = some r := H
   have A10 := Aside0.mk A100
   clear A100
   by_cases c11 : t258 = t259
   ·
    rw [if_pos c11] at H
    have c11b0 : (t258 == t259) = true := beq_iff_eq.mpr c11
    have c11b1 : (t258 != t259) = false := bne_eq_false_iff_eq.mpr c11
    clear c11
    replace H := Option.bind_eq_some_iff.mp H
    obtain ⟨t260, A120, H⟩ := H
    replace H : ((plenumref22_Humidity.f k a0 a2).bind fun t261 => (if t260 = t261 then ((psychro_Dew.f k a2).bind fun t262 => ((plenumref22_Dew.f k a2).bind fun t263 => (some (t262 == t263)))) else (some false))) = some r := H
    have A12 := Aside0.mk A120
    clear A120
    replace H := Option.bind_eq_some_iff.mp H
    obtain ⟨t261, A130, H⟩ := H
    replace H : (if t260 = t261 then ((psychro_Dew.f k a2).bind fun t262 => ((plenumref22_Dew.f k a2).bind fun t263 => (some (t262 == t263)))) else (some false)) = some r := H
    have A13 := Aside0.mk A130
    clear A130
    by_cases c14 : t260 = t261
    ·
     rw [if_pos c14] at H
     have c14b0 : (t260 == t261) = true := beq_iff_eq.mpr c14
     have c14b1 : (t260 != t261) = false := bne_eq_false_iff_eq.mpr c14
     clear c14
     replace H := Option.bind_eq_some_iff.mp H
     obtain ⟨t262, A150, H⟩ := H
     replace H : ((plenumref22_Dew.f k a2).bind fun t263 => (some (t262 == t263))) = some r := H
     have A15 := Aside0.mk A150
     clear A150
     replace H := Option.bind_eq_some_iff.mp H
     obtain ⟨t263, A160, H⟩ := H
     replace H : (some (t262 == t263)) = some r := H
     have A16 := Aside0.mk A160
     clear A160
     obtain rfl := Option.some.inj H
     go_enter Tryd.func5, Tryd.ntmps5
     go_wp2_with (first | ((with_reducible refine gate_callee (f := 10) rfl ?_); refine goesL_ (some 7) rfl rfl Tryd.func10 (by kernel_rfl) rfl #[] rfl (by (try simp only [List.map_toArray, List.map_cons, List.map_nil]); first | done | rfl | (simp only [List.length_drop, List.length_take]; rfl)) ?_; (with_reducible refine (plenumlaw22_awake.calls  true _ ?sideL A4.out).mono ?_); (case sideL => exact LaidT.below HL.out (by repeat (first | (with_reducible first | exact HB.out | apply below_alloc | apply pw_below_drewN | apply below_drew1) | exact HB.out))); rintro e w17 ⟨rfl, hb⟩; refine ⟨_, rfl, ?_⟩; have n0_ := Aside0.mk (below_step (by repeat (first | (with_reducible first | exact HB.out | apply below_alloc | apply pw_below_drewN | apply below_drew1) | exact HB.out)) hb); clear HB; have HB := n0_; clear n0_; (try clear hb); (try clear hb2); (try clear hk); (try clear hi)) | ((with_reducible refine gate_callee (f := 15) rfl ?_); refine goesL_ (some 10) rfl rfl Tryd.func15 (by kernel_rfl) rfl #[.int .i64 a0] rfl (by (try simp only [List.map_toArray, List.map_cons, List.map_nil]); first | done | rfl | (simp only [List.length_drop, List.length_take]; rfl)) ?_; (with_reducible refine (psychro_Saturation.calls k a0 t256 _ ?sideL A6.out).mono ?_); (case sideL => exact LaidT.below HL.out (by repeat (first | (with_reducible first | exact HB.out | apply below_alloc | apply pw_below_drewN | apply below_drew1) | exact HB.out))); rintro e w18 ⟨rfl, hb⟩; refine ⟨_, rfl, ?_⟩; have n0_ := Aside0.mk (below_step (by repeat (first | (with_reducible first | exact HB.out | apply below_alloc | apply pw_below_drewN | apply below_drew1) | exact HB.out)) hb); clear HB; have HB := n0_; clear n0_; (try clear hb); (try clear hb2); (try clear hk); (try clear hi)) | ((with_reducible refine gate_callee (f := 16) rfl ?_); refine goesL_ (some 12) rfl rfl Tryd.func16 (by kernel_rfl) rfl #[.int .i64 a0] rfl (by (try simp only [List.map_toArray, List.map_cons, List.map_nil]); first | done | rfl | (simp only [List.length_drop, List.length_take]; rfl)) ?_; (with_reducible refine (plenumref22_Saturation.calls k a0 t257 _ A7.out).mono ?_); rintro e w19 ⟨rfl, hb⟩; refine ⟨_, rfl, ?_⟩; have n0_ := Aside0.mk (below_step (by repeat (first | (with_reducible first | exact HB.out | apply below_alloc | apply pw_below_drewN | apply below_drew1) | exact HB.out)) hb); clear HB; have HB := n0_; clear n0_; (try clear hb); (try clear hb2); (try clear hk); (try clear hi)) | (go_at_call 14; (with_reducible refine (psychro_Ratio.calls k a0 a1 t258 _ ?sideL A9.out).mono ?_); (case sideL => exact LaidT.below HL.out (by repeat (first | (with_reducible first | exact HB.out | apply below_alloc | apply pw_below_drewN | apply below_drew1) | exact HB.out))); rintro e w20 ⟨rfl, hb⟩; have n0_ := Aside0.mk (below_step (by repeat (first | (with_reducible first | exact HB.out | apply below_alloc | apply pw_below_drewN | apply below_drew1) | exact HB.out)) hb); clear HB; have HB := n0_; clear n0_; (try clear hb); (try clear hb2); (try clear hk); (try clear hi)) | (go_at_call 17; (with_reducible refine (plenumref22_Ratio.calls k a0 a1 t259 _ A10.out).mono ?_); rintro e w21 ⟨rfl, hb⟩; have n0_ := Aside0.mk (below_step (by repeat (first | (with_reducible first | exact HB.out | apply below_alloc | apply pw_below_drewN | apply below_drew1) | exact HB.out)) hb); clear HB; have HB := n0_; clear n0_; (try clear hb); (try clear hb2); (try clear hk); (try clear hi)) | (go_at_call 18; (with_reducible refine (psychro_Humidity.calls k a0 a2 t260 _ ?sideL A12.out).mono ?_); (case sideL => exact LaidT.below HL.out (by repeat (first | (with_reducible first | exact HB.out | apply below_alloc | apply pw_below_drewN | apply below_drew1) | exact HB.out))); rintro e w22 ⟨rfl, hb⟩; have n0_ := Aside0.mk (below_step (by repeat (first | (with_reducible first | exact HB.out | apply below_alloc | apply pw_below_drewN | apply below_drew1) | exact HB.out)) hb); clear HB; have HB := n0_; clear n0_; (try clear hb); (try clear hb2); (try clear hk); (try clear hi)) | (go_at_call 19; (with_reducible refine (plenumref22_Humidity.calls k a0 a2 t261 _ A13.out).mono ?_); rintro e w23 ⟨rfl, hb⟩; have n0_ := Aside0.mk (below_step (by repeat (first | (with_reducible first | exact HB.out | apply below_alloc | apply pw_below_drewN | apply below_drew1) | exact HB.out)) hb); clear HB; have HB := n0_; clear n0_; (try clear hb); (try clear hb2); (try clear hk); (try clear hi)) | (go_at_call 13; (with_reducible refine (psychro_Dew.calls k a2 t262 _ ?sideL A15.out).mono ?_); (case sideL => exact LaidT.below HL.out (by repeat (first | (with_reducible first | exact HB.out | apply below_alloc | apply pw_below_drewN | apply below_drew1) | exact HB.out))); rintro e w24 ⟨rfl, hb⟩; have n0_ := Aside0.mk (below_step (by repeat (first | (with_reducible first | exact HB.out | apply below_alloc | apply pw_below_drewN | apply below_drew1) | exact HB.out)) hb); clear HB; have HB := n0_; clear n0_; (try clear hb); (try clear hb2); (try clear hk); (try clear hi)) | (go_at_call 20; (with_reducible refine (plenumref22_Dew.calls k a2 t263 _ A16.out).mono ?_); rintro e w25 ⟨rfl, hb⟩; have n0_ := Aside0.mk (below_step (by repeat (first | (with_reducible first | exact HB.out | apply below_alloc | apply pw_below_drewN | apply below_drew1) | exact HB.out)) hb); clear HB; have HB := n0_; clear n0_; (try clear hb); (try clear hb2); (try clear hk); (try clear hi)))
     go_ret
     exact ⟨by first | rfl | (simp [errW_none, errW_some] <;> rfl) | (simp [*, errW_none, errW_some] <;> rfl), by repeat (first | (with_reducible first | exact HB.out | apply below_alloc | apply pw_below_drewN | apply below_drew1) | exact HB.out)⟩
    ·
     rw [if_neg c14] at H
     have c14b0 : (t260 == t261) = false := beq_eq_false_iff_ne.mpr c14
     have c14b1 : (t260 != t261) = true := bne_iff_ne.mpr c14
     obtain rfl := Option.some.inj H
     go_enter Tryd.func5, Tryd.ntmps5
     go_wp2_with (first | ((with_reducible refine gate_callee (f := 10) rfl ?_); refine goesL_ (some 7) rfl rfl Tryd.func10 (by kernel_rfl) rfl #[] rfl (by (try simp only [List.map_toArray, List.map_cons, List.map_nil]); first | done | rfl | (simp only [List.length_drop, List.length_take]; rfl)) ?_; (with_reducible refine (plenumlaw22_awake.calls  true _ ?sideL A4.out).mono ?_); (case sideL => exact LaidT.below HL.out (by repeat (first | (with_reducible first | exact HB.out | apply below_alloc | apply pw_below_drewN | apply below_drew1) | exact HB.out))); rintro e w26 ⟨rfl, hb⟩; refine ⟨_, rfl, ?_⟩; have n0_ := Aside0.mk (below_step (by repeat (first | (with_reducible first | exact HB.out | apply below_alloc | apply pw_below_drewN | apply below_drew1) | exact HB.out)) hb); clear HB; have HB := n0_; clear n0_; (try clear hb); (try clear hb2); (try clear hk); (try clear hi)) | ((with_reducible refine gate_callee (f := 15) rfl ?_); refine goesL_ (some 10) rfl rfl Tryd.func15 (by kernel_rfl) rfl #[.int .i64 a0] rfl (by (try simp only [List.map_toArray, List.map_cons, List.map_nil]); first | done | rfl | (simp only [List.length_drop, List.length_take]; rfl)) ?_; (with_reducible refine (psychro_Saturation.calls k a0 t256 _ ?sideL A6.out).mono ?_); (case sideL => exact LaidT.below HL.out (by repeat (first | (with_reducible first | exact HB.out | apply below_alloc | apply pw_below_drewN | apply below_drew1) | exact HB.out))); rintro e w27 ⟨rfl, hb⟩; refine ⟨_, rfl, ?_⟩; have n0_ := Aside0.mk (below_step (by repeat (first | (with_reducible first | exact HB.out | apply below_alloc | apply pw_below_drewN | apply below_drew1) | exact HB.out)) hb); clear HB; have HB := n0_; clear n0_; (try clear hb); (try clear hb2); (try clear hk); (try clear hi)) | ((with_reducible refine gate_callee (f := 16) rfl ?_); refine goesL_ (some 12) rfl rfl Tryd.func16 (by kernel_rfl) rfl #[.int .i64 a0] rfl (by (try simp only [List.map_toArray, List.map_cons, List.map_nil]); first | done | rfl | (simp only [List.length_drop, List.length_take]; rfl)) ?_; (with_reducible refine (plenumref22_Saturation.calls k a0 t257 _ A7.out).mono ?_); rintro e w28 ⟨rfl, hb⟩; refine ⟨_, rfl, ?_⟩; have n0_ := Aside0.mk (below_step (by repeat (first | (with_reducible first | exact HB.out | apply below_alloc | apply pw_below_drewN | apply below_drew1) | exact HB.out)) hb); clear HB; have HB := n0_; clear n0_; (try clear hb); (try clear hb2); (try clear hk); (try clear hi)) | (go_at_call 14; (with_reducible refine (psychro_Ratio.calls k a0 a1 t258 _ ?sideL A9.out).mono ?_); (case sideL => exact LaidT.below HL.out (by repeat (first | (with_reducible first | exact HB.out | apply below_alloc | apply pw_below_drewN | apply below_drew1) | exact HB.out))); rintro e w29 ⟨rfl, hb⟩; have n0_ := Aside0.mk (below_step (by repeat (first | (with_reducible first | exact HB.out | apply below_alloc | apply pw_below_drewN | apply below_drew1) | exact HB.out)) hb); clear HB; have HB := n0_; clear n0_; (try clear hb); (try clear hb2); (try clear hk); (try clear hi)) | (go_at_call 17; (with_reducible refine (plenumref22_Ratio.calls k a0 a1 t259 _ A10.out).mono ?_); rintro e w30 ⟨rfl, hb⟩; have n0_ := Aside0.mk (below_step (by repeat (first | (with_reducible first | exact HB.out | apply below_alloc | apply pw_below_drewN | apply below_drew1) | exact HB.out)) hb); clear HB; have HB := n0_; clear n0_; (try clear hb); (try clear hb2); (try clear hk); (try clear hi)) | (go_at_call 18; (with_reducible refine (psychro_Humidity.calls k a0 a2 t260 _ ?sideL A12.out).mono ?_); (case sideL => exact LaidT.below HL.out (by repeat (first | (with_reducible first | exact HB.out | apply below_alloc | apply pw_below_drewN | apply below_drew1) | exact HB.out))); rintro e w31 ⟨rfl, hb⟩; have n0_ := Aside0.mk (below_step (by repeat (first | (with_reducible first | exact HB.out | apply below_alloc | apply pw_below_drewN | apply below_drew1) | exact HB.out)) hb); clear HB; have HB := n0_; clear n0_; (try clear hb); (try clear hb2); (try clear hk); (try clear hi)) | (go_at_call 19; (with_reducible refine (plenumref22_Humidity.calls k a0 a2 t261 _ A13.out).mono ?_); rintro e w32 ⟨rfl, hb⟩; have n0_ := Aside0.mk (below_step (by repeat (first | (with_reducible first | exact HB.out | apply below_alloc | apply pw_below_drewN | apply below_drew1) | exact HB.out)) hb); clear HB; have HB := n0_; clear n0_; (try clear hb); (try clear hb2); (try clear hk); (try clear hi)))
     go_ret
     exact ⟨by first | rfl | (simp [errW_none, errW_some] <;> rfl) | (simp [*, errW_none, errW_some] <;> rfl), by repeat (first | (with_reducible first | exact HB.out | apply below_alloc | apply pw_below_drewN | apply below_drew1) | exact HB.out)⟩
   ·
    rw [if_neg c11] at H
    have c11b0 : (t258 == t259) = false := beq_eq_false_iff_ne.mpr c11
    have c11b1 : (t258 != t259) = true := bne_iff_ne.mpr c11
    obtain rfl := Option.some.inj H
    go_enter Tryd.func5, Tryd.ntmps5
    go_wp2_with (first | ((with_reducible refine gate_callee (f := 10) rfl ?_); refine goesL_ (some 7) rfl rfl Tryd.func10 (by kernel_rfl) rfl #[] rfl (by (try simp only [List.map_toArray, List.map_cons, List.map_nil]); first | done | rfl | (simp only [List.length_drop, List.length_take]; rfl)) ?_; (with_reducible refine (plenumlaw22_awake.calls  true _ ?sideL A4.out).mono ?_); (case sideL => exact LaidT.below HL.out (by repeat (first | (with_reducible first | exact HB.out | apply below_alloc | apply pw_below_drewN | apply below_drew1) | exact HB.out))); rintro e w33 ⟨rfl, hb⟩; refine ⟨_, rfl, ?_⟩; have n0_ := Aside0.mk (below_step (by repeat (first | (with_reducible first | exact HB.out | apply below_alloc | apply pw_below_drewN | apply below_drew1) | exact HB.out)) hb); clear HB; have HB := n0_; clear n0_; (try clear hb); (try clear hb2); (try clear hk); (try clear hi)) | ((with_reducible refine gate_callee (f := 15) rfl ?_); refine goesL_ (some 10) rfl rfl Tryd.func15 (by kernel_rfl) rfl #[.int .i64 a0] rfl (by (try simp only [List.map_toArray, List.map_cons, List.map_nil]); first | done | rfl | (simp only [List.length_drop, List.length_take]; rfl)) ?_; (with_reducible refine (psychro_Saturation.calls k a0 t256 _ ?sideL A6.out).mono ?_); (case sideL => exact LaidT.below HL.out (by repeat (first | (with_reducible first | exact HB.out | apply below_alloc | apply pw_below_drewN | apply below_drew1) | exact HB.out))); rintro e w34 ⟨rfl, hb⟩; refine ⟨_, rfl, ?_⟩; have n0_ := Aside0.mk (below_step (by repeat (first | (with_reducible first | exact HB.out | apply below_alloc | apply pw_below_drewN | apply below_drew1) | exact HB.out)) hb); clear HB; have HB := n0_; clear n0_; (try clear hb); (try clear hb2); (try clear hk); (try clear hi)) | ((with_reducible refine gate_callee (f := 16) rfl ?_); refine goesL_ (some 12) rfl rfl Tryd.func16 (by kernel_rfl) rfl #[.int .i64 a0] rfl (by (try simp only [List.map_toArray, List.map_cons, List.map_nil]); first | done | rfl | (simp only [List.length_drop, List.length_take]; rfl)) ?_; (with_reducible refine (plenumref22_Saturation.calls k a0 t257 _ A7.out).mono ?_); rintro e w35 ⟨rfl, hb⟩; refine ⟨_, rfl, ?_⟩; have n0_ := Aside0.mk (below_step (by repeat (first | (with_reducible first | exact HB.out | apply below_alloc | apply pw_below_drewN | apply below_drew1) | exact HB.out)) hb); clear HB; have HB := n0_; clear n0_; (try clear hb); (try clear hb2); (try clear hk); (try clear hi)) | (go_at_call 14; (with_reducible refine (psychro_Ratio.calls k a0 a1 t258 _ ?sideL A9.out).mono ?_); (case sideL => exact LaidT.below HL.out (by repeat (first | (with_reducible first | exact HB.out | apply below_alloc | apply pw_below_drewN | apply below_drew1) | exact HB.out))); rintro e w36 ⟨rfl, hb⟩; have n0_ := Aside0.mk (below_step (by repeat (first | (with_reducible first | exact HB.out | apply below_alloc | apply pw_below_drewN | apply below_drew1) | exact HB.out)) hb); clear HB; have HB := n0_; clear n0_; (try clear hb); (try clear hb2); (try clear hk); (try clear hi)) | (go_at_call 17; (with_reducible refine (plenumref22_Ratio.calls k a0 a1 t259 _ A10.out).mono ?_); rintro e w37 ⟨rfl, hb⟩; have n0_ := Aside0.mk (below_step (by repeat (first | (with_reducible first | exact HB.out | apply below_alloc | apply pw_below_drewN | apply below_drew1) | exact HB.out)) hb); clear HB; have HB := n0_; clear n0_; (try clear hb); (try clear hb2); (try clear hk); (try clear hi)))
    go_ret
    exact ⟨by first | rfl | (simp [errW_none, errW_some] <;> rfl) | (simp [*, errW_none, errW_some] <;> rfl), by repeat (first | (with_reducible first | exact HB.out | apply below_alloc | apply pw_below_drewN | apply below_drew1) | exact HB.out)⟩
  ·
   rw [if_neg c8] at H
   have c8b0 : (t256 == t257) = false := beq_eq_false_iff_ne.mpr c8
   have c8b1 : (t256 != t257) = true := bne_iff_ne.mpr c8
   obtain rfl := Option.some.inj H
   go_enter Tryd.func5, Tryd.ntmps5
   go_wp2_with (first | ((with_reducible refine gate_callee (f := 10) rfl ?_); refine goesL_ (some 7) rfl rfl Tryd.func10 (by kernel_rfl) rfl #[] rfl (by (try simp only [List.map_toArray, List.map_cons, List.map_nil]); first | done | rfl | (simp only [List.length_drop, List.length_take]; rfl)) ?_; (with_reducible refine (plenumlaw22_awake.calls  true _ ?sideL A4.out).mono ?_); (case sideL => exact LaidT.below HL.out (by repeat (first | (with_reducible first | exact HB.out | apply below_alloc | apply pw_below_drewN | apply below_drew1) | exact HB.out))); rintro e w38 ⟨rfl, hb⟩; refine ⟨_, rfl, ?_⟩; have n0_ := Aside0.mk (below_step (by repeat (first | (with_reducible first | exact HB.out | apply below_alloc | apply pw_below_drewN | apply below_drew1) | exact HB.out)) hb); clear HB; have HB := n0_; clear n0_; (try clear hb); (try clear hb2); (try clear hk); (try clear hi)) | ((with_reducible refine gate_callee (f := 15) rfl ?_); refine goesL_ (some 10) rfl rfl Tryd.func15 (by kernel_rfl) rfl #[.int .i64 a0] rfl (by (try simp only [List.map_toArray, List.map_cons, List.map_nil]); first | done | rfl | (simp only [List.length_drop, List.length_take]; rfl)) ?_; (with_reducible refine (psychro_Saturation.calls k a0 t256 _ ?sideL A6.out).mono ?_); (case sideL => exact LaidT.below HL.out (by repeat (first | (with_reducible first | exact HB.out | apply below_alloc | apply pw_below_drewN | apply below_drew1) | exact HB.out))); rintro e w39 ⟨rfl, hb⟩; refine ⟨_, rfl, ?_⟩; have n0_ := Aside0.mk (below_step (by repeat (first | (with_reducible first | exact HB.out | apply below_alloc | apply pw_below_drewN | apply below_drew1) | exact HB.out)) hb); clear HB; have HB := n0_; clear n0_; (try clear hb); (try clear hb2); (try clear hk); (try clear hi)) | ((with_reducible refine gate_callee (f := 16) rfl ?_); refine goesL_ (some 12) rfl rfl Tryd.func16 (by kernel_rfl) rfl #[.int .i64 a0] rfl (by (try simp only [List.map_toArray, List.map_cons, List.map_nil]); first | done | rfl | (simp only [List.length_drop, List.length_take]; rfl)) ?_; (with_reducible refine (plenumref22_Saturation.calls k a0 t257 _ A7.out).mono ?_); rintro e w40 ⟨rfl, hb⟩; refine ⟨_, rfl, ?_⟩; have n0_ := Aside0.mk (below_step (by repeat (first | (with_reducible first | exact HB.out | apply below_alloc | apply pw_below_drewN | apply below_drew1) | exact HB.out)) hb); clear HB; have HB := n0_; clear n0_; (try clear hb); (try clear hb2); (try clear hk); (try clear hi)))
   go_ret
   exact ⟨by first | rfl | (simp [errW_none, errW_some] <;> rfl) | (simp [*, errW_none, errW_some] <;> rfl), by repeat (first | (with_reducible first | exact HB.out | apply below_alloc | apply pw_below_drewN | apply below_drew1) | exact HB.out)⟩
 ·
  replace c5 := Bool.eq_false_iff.mpr c5
  subst c5
  have H1 : (some false) = some r := by rw [if_neg (show ¬ (false = true) by decide)] at H; exact H
  clear H
  have H := H1
  clear H1
  obtain rfl := Option.some.inj H
  go_enter Tryd.func5, Tryd.ntmps5
  go_wp2_with (first | ((with_reducible refine gate_callee (f := 10) rfl ?_); refine goesL_ (some 7) rfl rfl Tryd.func10 (by kernel_rfl) rfl #[] rfl (by (try simp only [List.map_toArray, List.map_cons, List.map_nil]); first | done | rfl | (simp only [List.length_drop, List.length_take]; rfl)) ?_; (with_reducible refine (plenumlaw22_awake.calls  false _ ?sideL A4.out).mono ?_); (case sideL => exact LaidT.below HL.out (by repeat (first | (with_reducible first | exact HB.out | apply below_alloc | apply pw_below_drewN | apply below_drew1) | exact HB.out))); rintro e w41 ⟨rfl, hb⟩; refine ⟨_, rfl, ?_⟩; have n0_ := Aside0.mk (below_step (by repeat (first | (with_reducible first | exact HB.out | apply below_alloc | apply pw_below_drewN | apply below_drew1) | exact HB.out)) hb); clear HB; have HB := n0_; clear n0_; (try clear hb); (try clear hb2); (try clear hk); (try clear hi)))
  go_ret
  exact ⟨by first | rfl | (simp [errW_none, errW_some] <;> rfl) | (simp [*, errW_none, errW_some] <;> rfl), by repeat (first | (with_reducible first | exact HB.out | apply below_alloc | apply pw_below_drewN | apply below_drew1) | exact HB.out)⟩
/-- THE ONE PURE STATEMENT of plenumlaw22_PsychroAir: yours. -/
def plenumlaw22_PsychroAir.Pure : Prop := ∀ (a0 : Int) (a1 : Int) (a2 : Int), (Lit.int .i64 a0).wf = true → (Lit.int .i64 a1).wf = true → (Lit.int .i64 a2).wf = true → ∃ k, plenumlaw22_PsychroAir.f k a0 a1 a2 = some true
theorem plenumlaw22_PsychroAir.walk (P : plenumlaw22_PsychroAir.Pure) (a0 : Int) (a1 : Int) (a2 : Int) (w : World) (hL : LaidT w) (w0 : (Lit.int .i64 a0).wf = true) (w1 : (Lit.int .i64 a1).wf = true) (w2 : (Lit.int .i64 a2).wf = true) :
 Calls Tryd.prog 5 #[.int .i64 a0, .int .i64 a1, .int .i64 a2] w fun e w' => e = .returned (.bool true) ∧ Below w.heap.size w w' := by
 obtain ⟨k, h⟩ := P a0 a1 a2 w0 w1 w2
 refine (plenumlaw22_PsychroAir.calls k a0 a1 a2 true w hL h).mono ?_
 rintro e w' ⟨rfl, hd⟩
 exact ⟨rfl, hd⟩
end Go.Proofs.YtbfcplnaafnlhaaDoor.PT
