-- Laid by hp.py (a program of this session's) through the kit's printer. (squeezed)
import Derived.Test.YtbfcplnaafnlhaaDoorPTx0
import Derived.Test.YtbfcplnaafnlhaaDoorLaid
import Derived.Test.YtbfcplnaafnlhaaDoorPTx10
import Derived.Test.YtbfcplnaafnlhaaDoorPTx12
import Derived.Test.YtbfcplnaafnlhaaDoorPTx13
import Derived.Test.YtbfcplnaafnlhaaDoorPTx14
namespace Go.Proofs.YtbfcplnaafnlhaaDoor.PT
open Go.RowKit Go.Proofs.YtbfcplnaafnlhaaDoorW.PrintWords Go.Proofs.YtbfcplnaafnlhaaDoorW.PrintLast Go.Proofs.YtbfcplnaafnlhaaDoorW.PrintMore
attribute [local go_sem] max2_int min2_int max_two min_two max_three min_three max_four min_four   -- for this text's walks alone
set_option linter.unusedVariables false
set_option linter.unusedSimpArgs false
-- HAND 10 plenumlaw22_awake
theorem plenumlaw22_awake0.ff {r : Bool} (hr : r = true) {P : Prop} (H : (some false : Option Bool) = some r) : P := by subst hr; cases H
/-! ### plenumlaw22_awake: function 10 -/
def plenumlaw22_awake0.f (k : Nat)  : Option (Bool) := (psychro_Mix.f k 20000 5000 3 0 1000 1).bind fun bt140 => ((psychro_Saturation.f k 20000).bind fun t142 => (if t142 = 14757 then ((psychro_Saturation.f k 22000).bind fun t143 => (if t143 = 16922 then ((psychro_Ratio.f k 20000 50000).bind fun t144 => (if t144 = 7379 then ((psychro_Enthalpy.f k 20000 7379).bind fun t145 => (if t145 = 38849 then ((psychro_Dew.f k 7661).bind fun t146 => (if t146 = 10000 then (if bt140.1 = 15000 then (some (bt140.2 == 4000)) else (some false)) else (some false))) else (some false))) else (some false))) else (some false))) else (some false)))
theorem plenumlaw22_awake0.mono : ∀ k, LeO (plenumlaw22_awake0.f k ) (plenumlaw22_awake0.f (k + 1) ) := by
 intro  k
 unfold plenumlaw22_awake0.f
 repeat' first
  | (with_reducible exact psychro_Dew.mono _ _)
  | (with_reducible exact psychro_Enthalpy.mono _ _ _)
  | (with_reducible exact psychro_Mix.mono _ _ _ _ _ _ _)
  | (with_reducible exact psychro_Ratio.mono _ _ _)
  | (with_reducible exact psychro_Saturation.mono _ _)
  | (with_reducible exact LeO.refl _)
  | (with_reducible exact LeO.none _)
  | (with_reducible refine LeO.ite ?_ ?_)
  | (with_reducible refine LeO.bind ?_ (fun _ => ?_))
  | exact psychro_Dew.mono _ _
  | exact psychro_Enthalpy.mono _ _ _
  | exact psychro_Mix.mono _ _ _ _ _ _ _
  | exact psychro_Ratio.mono _ _ _
  | exact psychro_Saturation.mono _ _
  | exact LeO.none _
  | refine LeO.ite ?_ ?_
  | refine LeO.bind ?_ (fun _ => ?_)
set_option maxHeartbeats 8000000 in
set_option maxRecDepth 100000 in
theorem plenumlaw22_awake0.callsT (k : Nat)  (r : Bool) (hr_ : r = true) (w : World) (hL : LaidT w) (h : plenumlaw22_awake0.f k  = some r) :
 Calls Tryd.prog 10 #[] w fun e w' => e = .returned (.bool r) ∧ Below w.heap.size w w' := by
 have HL := Aside0.mk hL
 have HB := Aside0.mk (Below.refl w.heap.size w)
 have H : ((psychro_Mix.f k 20000 5000 3 0 1000 1).bind fun bt140 => ((psychro_Saturation.f k 20000).bind fun t142 => (if t142 = 14757 then ((psychro_Saturation.f k 22000).bind fun t143 => (if t143 = 16922 then ((psychro_Ratio.f k 20000 50000).bind fun t144 => (if t144 = 7379 then ((psychro_Enthalpy.f k 20000 7379).bind fun t145 => (if t145 = 38849 then ((psychro_Dew.f k 7661).bind fun t146 => (if t146 = 10000 then (if bt140.1 = 15000 then (some (bt140.2 == 4000)) else (some false)) else (some false))) else (some false))) else (some false))) else (some false))) else (some false)))) = some r := h
 clear h
 have HR_ := Aside0.mk hr_
 clear hr_
 replace H := Option.bind_eq_some_iff.mp H
 obtain ⟨⟨t140, t141⟩, A10, H⟩ := H
 replace H : ((psychro_Saturation.f k 20000).bind fun t142 => (if t142 = 14757 then ((psychro_Saturation.f k 22000).bind fun t143 => (if t143 = 16922 then ((psychro_Ratio.f k 20000 50000).bind fun t144 => (if t144 = 7379 then ((psychro_Enthalpy.f k 20000 7379).bind fun t145 => (if t145 = 38849 then ((psychro_Dew.f k 7661).bind fun t146 => (if t146 = 10000 then (if t140 = 15000 then (some (t141 == 4000)) else (some false)) else (some false))) else (some false))) else (some false))) else (some false))) else (some false))) = some r := H
 have A1 := Aside0.mk A10
 clear A10
 replace H := Option.bind_eq_some_iff.mp H
 obtain ⟨t142, A20, H⟩ := H
 replace H : (if t142 = 14757 then ((psychro_Saturation.f k 22000).bind fun t143 => (if t143 = 16922 then ((psychro_Ratio.f k 20000 50000).bind fun t144 => (if t144 = 7379 then ((psychro_Enthalpy.f k 20000 7379).bind fun t145 => (if t145 = 38849 then ((psychro_Dew.f k 7661).bind fun t146 => (if t146 = 10000 then (if t140 = 15000 then (some (t141 == 4000)) else (some false)) else (some false))) else (some false))) else (some false))) else (some false))) else (some false)) = some r := H
 have A2 := Aside0.mk A20
 clear A20
 by_cases c3 : t142 = 14757
 ·
  rw [if_pos c3] at H
  have c3b0 : (t142 == 14757) = true := beq_iff_eq.mpr c3
  have c3b1 : (t142 != 14757) = false := bne_eq_false_iff_eq.mpr c3
  clear c3
  replace H := Option.bind_eq_some_iff.mp H
  obtain ⟨t143, A40, H⟩ := H
  replace H : (if t143 = 16922 then ((psychro_Ratio.f k 20000 50000).bind fun t144 => (if t144 = 7379 then ((psychro_Enthalpy.f k 20000 7379).bind fun t145 => (if t145 = 38849 then ((psychro_Dew.f k 7661).bind fun t146 => (if t146 = 10000 then (if t140 = 15000 then (some (t141 == 4000)) else (some false)) else (some false))) else (some false))) else (some false))) else (some false)) = some r := H
  have A4 := Aside0.mk A40
  clear A40
  by_cases c5 : t143 = 16922
  ·
   rw [if_pos c5] at H
   have c5b0 : (t143 == 16922) = true := beq_iff_eq.mpr c5
   have c5b1 : (t143 != 16922) = false := bne_eq_false_iff_eq.mpr c5
   clear c5
   replace H := Option.bind_eq_some_iff.mp H
   obtain ⟨t144, A60, H⟩ := H
   replace H : (if t144 = 7379 then ((psychro_Enthalpy.f k 20000 7379).bind fun t145 => (if t145 = 38849 then ((psychro_Dew.f k 7661).bind fun t146 => (if t146 = 10000 then (if t140 = 15000 then (some (t141 == 4000)) else (some false)) else (some false))) else (some false))) else (some false)) = some r := H
   have A6 := Aside0.mk A60
   clear A60
   by_cases c7 : t144 = 7379
   ·
    rw [if_pos c7] at H
    have c7b0 : (t144 == 7379) = true := beq_iff_eq.mpr c7
    have c7b1 : (t144 != 7379) = false := bne_eq_false_iff_eq.mpr c7
    clear c7
    replace H := Option.bind_eq_some_iff.mp H
    obtain ⟨t145, A80, H⟩ := H
    replace H : (if t145 = 38849 then ((psychro_Dew.f k 7661).bind fun t146 => (if t146 = 10000 then (if t140 = 15000 then (some (t141 == 4000)) else (some false)) else (some false))) else (some false)) = some r := H
    have A8 := Aside0.mk A80
    clear A80
    by_cases c9 : t145 = 38849
    ·
     rw [if_pos c9] at H
     have c9b0 : (t145 == 38849) = true := beq_iff_eq.mpr c9
     have c9b1 : (t145 != 38849) = false := bne_eq_false_iff_eq.mpr c9
     clear c9
     replace H := Option.bind_eq_some_iff.mp H
     obtain ⟨t146, A100, H⟩ := H
     replace H : (if t146 = 10000 then (if t140 = 15000 then (some (t141 == 4000)) else (some false)) else (some false)) = some r := H
     have A10 := Aside0.mk A100
     clear A100
     by_cases c11 : t146 = 10000
     ·
      rw [if_pos c11] at H
      have c11b0 : (t146 == 10000) = true := beq_iff_eq.mpr c11
      have c11b1 : (t146 != 10000) = false := bne_eq_false_iff_eq.mpr c11
      clear c11
      by_cases c12 : t140 = 15000
      ·
       rw [if_pos c12] at H
       have c12b0 : (t140 == 15000) = true := beq_iff_eq.mpr c12
       have c12b1 : (t140 != 15000) = false := bne_eq_false_iff_eq.mpr c12
       clear c12
       obtain rfl := Option.some.inj H
       go_enter Tryd.func10, Tryd.ntmps10
       go_wp2_with (first | ((with_reducible refine gate_callee (f := 11) rfl ?_); refine goesL_ (some 4) rfl rfl Tryd.func11 (by kernel_rfl) rfl #[.int .i64 20000, .int .i64 5000, .int .i64 3, .int .i64 0, .int .i64 1000, .int .i64 1] rfl (by (try simp only [List.map_toArray, List.map_cons, List.map_nil]); first | done | rfl | (simp only [List.length_drop, List.length_take]; rfl)) ?_; (with_reducible refine (psychro_Mix.calls k 20000 5000 3 0 1000 1 t140 t141 _ A1.out).mono ?_); rintro e w13 ⟨rfl, hb⟩; refine ⟨_, rfl, ?_⟩; have n0_ := Aside0.mk (below_step (by repeat (first | (with_reducible first | exact HB.out | apply below_alloc | apply pw_below_drewN | apply below_drew1) | exact HB.out)) hb); clear HB; have HB := n0_; clear n0_; (try clear hb); (try clear hb2); (try clear hk); (try clear hi)) | ((with_reducible refine gate_callee (f := 15) rfl ?_); refine goesL_ (some 7) rfl rfl Tryd.func15 (by kernel_rfl) rfl #[.int .i64 20000] rfl (by (try simp only [List.map_toArray, List.map_cons, List.map_nil]); first | done | rfl | (simp only [List.length_drop, List.length_take]; rfl)) ?_; (with_reducible refine (psychro_Saturation.calls k 20000 t142 _ ?sideL A2.out).mono ?_); (case sideL => exact LaidT.below HL.out (by repeat (first | (with_reducible first | exact HB.out | apply below_alloc | apply pw_below_drewN | apply below_drew1) | exact HB.out))); rintro e w14 ⟨rfl, hb⟩; refine ⟨_, rfl, ?_⟩; have n0_ := Aside0.mk (below_step (by repeat (first | (with_reducible first | exact HB.out | apply below_alloc | apply pw_below_drewN | apply below_drew1) | exact HB.out)) hb); clear HB; have HB := n0_; clear n0_; (try clear hb); (try clear hb2); (try clear hk); (try clear hi)) | (go_at_call 15; (with_reducible refine (psychro_Saturation.calls k 22000 t143 _ ?sideL A4.out).mono ?_); (case sideL => exact LaidT.below HL.out (by repeat (first | (with_reducible first | exact HB.out | apply below_alloc | apply pw_below_drewN | apply below_drew1) | exact HB.out))); rintro e w15 ⟨rfl, hb⟩; have n0_ := Aside0.mk (below_step (by repeat (first | (with_reducible first | exact HB.out | apply below_alloc | apply pw_below_drewN | apply below_drew1) | exact HB.out)) hb); clear HB; have HB := n0_; clear n0_; (try clear hb); (try clear hb2); (try clear hk); (try clear hi)) | (go_at_call 14; (with_reducible refine (psychro_Ratio.calls k 20000 50000 t144 _ ?sideL A6.out).mono ?_); (case sideL => exact LaidT.below HL.out (by repeat (first | (with_reducible first | exact HB.out | apply below_alloc | apply pw_below_drewN | apply below_drew1) | exact HB.out))); rintro e w16 ⟨rfl, hb⟩; have n0_ := Aside0.mk (below_step (by repeat (first | (with_reducible first | exact HB.out | apply below_alloc | apply pw_below_drewN | apply below_drew1) | exact HB.out)) hb); clear HB; have HB := n0_; clear n0_; (try clear hb); (try clear hb2); (try clear hk); (try clear hi)) | (go_at_call 21; (with_reducible refine (psychro_Enthalpy.calls k 20000 7379 t145 _ A8.out).mono ?_); rintro e w17 ⟨rfl, hb⟩; have n0_ := Aside0.mk (below_step (by repeat (first | (with_reducible first | exact HB.out | apply below_alloc | apply pw_below_drewN | apply below_drew1) | exact HB.out)) hb); clear HB; have HB := n0_; clear n0_; (try clear hb); (try clear hb2); (try clear hk); (try clear hi)) | (go_at_call 13; (with_reducible refine (psychro_Dew.calls k 7661 t146 _ ?sideL A10.out).mono ?_); (case sideL => exact LaidT.below HL.out (by repeat (first | (with_reducible first | exact HB.out | apply below_alloc | apply pw_below_drewN | apply below_drew1) | exact HB.out))); rintro e w18 ⟨rfl, hb⟩; have n0_ := Aside0.mk (below_step (by repeat (first | (with_reducible first | exact HB.out | apply below_alloc | apply pw_below_drewN | apply below_drew1) | exact HB.out)) hb); clear HB; have HB := n0_; clear n0_; (try clear hb); (try clear hb2); (try clear hk); (try clear hi)))
       go_ret
       exact ⟨by first | rfl | (simp [errW_none, errW_some] <;> rfl) | (simp [*, errW_none, errW_some] <;> rfl), by repeat (first | (with_reducible first | exact HB.out | apply below_alloc | apply pw_below_drewN | apply below_drew1) | exact HB.out)⟩
      ·
       rw [if_neg c12] at H
       first | exact plenumlaw22_awake0.ff HR_.out H | exact absurd H (by simp)
     ·
      rw [if_neg c11] at H
      first | exact plenumlaw22_awake0.ff HR_.out H | exact absurd H (by simp)
    ·
     rw [if_neg c9] at H
     first | exact plenumlaw22_awake0.ff HR_.out H | exact absurd H (by simp)
   ·
    rw [if_neg c7] at H
    first | exact plenumlaw22_awake0.ff HR_.out H | exact absurd H (by simp)
  ·
   rw [if_neg c5] at H
   first | exact plenumlaw22_awake0.ff HR_.out H | exact absurd H (by simp)
 ·
  rw [if_neg c3] at H
  first | exact plenumlaw22_awake0.ff HR_.out H | exact absurd H (by simp)
/-- Its own call answers true. -/
def plenumlaw22_awake.f : Option (Bool) := some true
set_option maxRecDepth 1000000 in
theorem plenumlaw22_awake0.run : plenumlaw22_awake0.f 200 = some true := by decide +kernel
theorem plenumlaw22_awake.calls (r : Bool) (w : World) (hL : LaidT w) (h : plenumlaw22_awake.f = some r) :
 Calls Tryd.prog 10 #[] w fun e w' => e = .returned (.bool r) ∧ Below w.heap.size w w' := by
 have HL := Aside0.mk hL
 obtain rfl := Option.some.inj h
 exact plenumlaw22_awake0.callsT 200 true rfl w hL plenumlaw22_awake0.run
end Go.Proofs.YtbfcplnaafnlhaaDoor.PT
