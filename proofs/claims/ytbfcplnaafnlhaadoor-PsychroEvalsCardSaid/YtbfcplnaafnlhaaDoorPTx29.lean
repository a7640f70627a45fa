-- Laid by hp.py (a program of this session's) through the kit's printer. (squeezed)
import Derived.Test.YtbfcplnaafnlhaaDoorPTx0
import Derived.Test.YtbfcplnaafnlhaaDoorLaid
import Derived.Test.YtbfcplnaafnlhaaDoorPTx3
import Derived.Test.YtbfcplnaafnlhaaDoorPTx8
import Derived.Test.YtbfcplnaafnlhaaDoorPTx13
import Derived.Test.YtbfcplnaafnlhaaDoorPTx16
import Derived.Test.YtbfcplnaafnlhaaDoorPTx20
import Derived.Test.YtbfcplnaafnlhaaDoorPTx28
namespace Go.Proofs.YtbfcplnaafnlhaaDoor.PT
open Go.RowKit Go.Proofs.YtbfcplnaafnlhaaDoorW.PrintWords Go.Proofs.YtbfcplnaafnlhaaDoorW.PrintLast Go.Proofs.YtbfcplnaafnlhaaDoorW.PrintMore
attribute [local go_sem] max2_int min2_int max_two min_two max_three min_three max_four min_four   -- for this text's walks alone
set_option linter.unusedVariables false
set_option linter.unusedSimpArgs false
/-! ### plenumref22_Ratio: function 17 -/
def plenumref22_Ratio.f (k : Nat) (a0 : Int) (a1 : Int) : Option (Int) := (plenumref22_Saturation.f k a0).bind fun t235 => ((plenumref22_limit.f a1 0 100000).bind fun t236 => ((plenumref01_MulDiv.f k t235 t236 100000).bind fun t237 => (some t237)))
theorem plenumref22_Ratio.mono : ∀ a0 a1 k, LeO (plenumref22_Ratio.f k a0 a1) (plenumref22_Ratio.f (k + 1) a0 a1) := by
 intro a0 a1 k
 unfold plenumref22_Ratio.f
 repeat' first
  | (with_reducible exact plenumref01_MulDiv.mono _ _ _ _)
  | (with_reducible exact plenumref22_Saturation.mono _ _)
  | (with_reducible exact LeO.refl _)
  | (with_reducible exact LeO.none _)
  | (with_reducible refine LeO.ite ?_ ?_)
  | (with_reducible refine LeO.bind ?_ (fun _ => ?_))
  | exact plenumref01_MulDiv.mono _ _ _ _
  | exact plenumref22_Saturation.mono _ _
  | exact LeO.none _
  | refine LeO.ite ?_ ?_
  | refine LeO.bind ?_ (fun _ => ?_)
set_option maxHeartbeats 8000000 in
set_option maxRecDepth 100000 in
theorem plenumref22_Ratio.calls (k : Nat) (a0 : Int) (a1 : Int) (r : Int) (w : World) (h : plenumref22_Ratio.f k a0 a1 = some r) :
 Calls Tryd.prog 17 #[.int .i64 a0, .int .i64 a1] w fun e w' => e = .returned (.int .i64 r) ∧ Below w.heap.size w w' := by
 have HB := Aside0.mk (Below.refl w.heap.size w)
 have H : ((plenumref22_Saturation.f k a0).bind fun t235 => ((plenumref22_limit.f a1 0 100000).bind fun t236 => ((plenumref01_MulDiv.f k t235 t236 100000).bind fun t237 => (some t237)))) = some r := h
 clear h
 replace H := Option.bind_eq_some_iff.mp H
 obtain ⟨t235, A30, H⟩ := H
 replace H : ((plenumref22_limit.f a1 0 100000).bind fun t236 => ((plenumref01_MulDiv.f k t235 t236 100000).bind fun t237 => (some t237))) = some r := H
 have A3 := Aside0.mk A30
 clear A30
 replace H := Option.bind_eq_some_iff.mp H
 obtain ⟨t236, A40, H⟩ := H
 replace H : ((plenumref01_MulDiv.f k t235 t236 100000).bind fun t237 => (some t237)) = some r := H
 have A4 := Aside0.mk A40
 clear A40
 replace H := Option.bind_eq_some_iff.mp H
 obtain ⟨t237, A50, H⟩ := H
 replace H : (some t237) = some r := H
 have A5 := Aside0.mk A50
 clear A50
 obtain rfl := Option.some.inj H
 go_enter Tryd.func17, Tryd.ntmps17
 go_wp2_with (first | ((with_reducible refine gate_callee (f := 16) rfl ?_); refine goesL_ (some 6) rfl rfl Tryd.func16 (by kernel_rfl) rfl #[.int .i64 a0] rfl (by (try simp only [List.map_toArray, List.map_cons, List.map_nil]); first | done | rfl | (simp only [List.length_drop, List.length_take]; rfl)) ?_; (with_reducible refine (plenumref22_Saturation.calls k a0 t235 _ A3.out).mono ?_); rintro e w6 ⟨rfl, hb⟩; refine ⟨_, rfl, ?_⟩; have n0_ := Aside0.mk (below_step (by repeat (first | (with_reducible first | exact HB.out | apply below_alloc | apply pw_below_drewN | apply below_drew1) | exact HB.out)) hb); clear HB; have HB := n0_; clear n0_; (try clear hb); (try clear hb2); (try clear hk); (try clear hi)) | ((with_reducible refine gate_callee (f := 40) rfl ?_); refine goesL_ (some 8) rfl rfl Tryd.func40 (by kernel_rfl) rfl #[.int .i64 a1, .int .i64 0, .int .i64 100000] rfl (by (try simp only [List.map_toArray, List.map_cons, List.map_nil]); first | done | rfl | (simp only [List.length_drop, List.length_take]; rfl)) ?_; (with_reducible refine (plenumref22_limit.calls a1 0 100000 t236 _ A4.out).mono ?_); rintro e w7 ⟨rfl, hb⟩; refine ⟨_, rfl, ?_⟩; have n0_ := Aside0.mk (below_step (by repeat (first | (with_reducible first | exact HB.out | apply below_alloc | apply pw_below_drewN | apply below_drew1) | exact HB.out)) hb); clear HB; have HB := n0_; clear n0_; (try clear hb); (try clear hb2); (try clear hk); (try clear hi)) | ((with_reducible refine gate_callee (f := 35) rfl ?_); refine goesL_ (some 9) rfl rfl Tryd.func35 (by kernel_rfl) rfl #[.int .i64 t235, .int .i64 t236, .int .i64 100000] rfl (by (try simp only [List.map_toArray, List.map_cons, List.map_nil]); first | done | rfl | (simp only [List.length_drop, List.length_take]; rfl)) ?_; (with_reducible refine (plenumref01_MulDiv.calls k t235 t236 100000 t237 _ A5.out).mono ?_); rintro e w8 ⟨rfl, hb⟩; refine ⟨_, rfl, ?_⟩; have n0_ := Aside0.mk (below_step (by repeat (first | (with_reducible first | exact HB.out | apply below_alloc | apply pw_below_drewN | apply below_drew1) | exact HB.out)) hb); clear HB; have HB := n0_; clear n0_; (try clear hb); (try clear hb2); (try clear hk); (try clear hi)))
 go_ret
 exact ⟨by first | rfl | (simp [errW_none, errW_some] <;> rfl) | (simp [*, errW_none, errW_some] <;> rfl), by repeat (first | (with_reducible first | exact HB.out | apply below_alloc | apply pw_below_drewN | apply below_drew1) | exact HB.out)⟩
/-! ### psychro_Humidity: function 18 -/
def psychro_Humidity.f (k : Nat) (a0 : Int) (a1 : Int) : Option (Int) := (psychro_limit.f a1 0 1000000).bind fun t238 => ((psychro_Saturation.f k a0).bind fun t239 => ((fixed_MulDiv.f k t238 100000 t239).bind fun t240 => (some (mn 100000 t240))))
theorem psychro_Humidity.mono : ∀ a0 a1 k, LeO (psychro_Humidity.f k a0 a1) (psychro_Humidity.f (k + 1) a0 a1) := by
 intro a0 a1 k
 unfold psychro_Humidity.f
 repeat' first
  | (with_reducible exact fixed_MulDiv.mono _ _ _ _)
  | (with_reducible exact psychro_Saturation.mono _ _)
  | (with_reducible exact LeO.refl _)
  | (with_reducible exact LeO.none _)
  | (with_reducible refine LeO.ite ?_ ?_)
  | (with_reducible refine LeO.bind ?_ (fun _ => ?_))
  | exact fixed_MulDiv.mono _ _ _ _
  | exact psychro_Saturation.mono _ _
  | exact LeO.none _
  | refine LeO.ite ?_ ?_
  | refine LeO.bind ?_ (fun _ => ?_)
set_option maxHeartbeats 8000000 in
set_option maxRecDepth 100000 in
theorem psychro_Humidity.calls (k : Nat) (a0 : Int) (a1 : Int) (r : Int) (w : World) (hL : LaidT w) (h : psychro_Humidity.f k a0 a1 = some r) :
 Calls Tryd.prog 18 #[.int .i64 a0, .int .i64 a1] w fun e w' => e = .returned (.int .i64 r) ∧ Below w.heap.size w w' := by
 have HL := Aside0.mk hL
 have HB := Aside0.mk (Below.refl w.heap.size w)
 have H : ((psychro_limit.f a1 0 1000000).bind fun t238 => ((psychro_Saturation.f k a0).bind fun t239 => ((fixed_MulDiv.f k t238 100000 t239).bind fun t240 => (some (mn 100000 t240))))) = some r := h
 clear h
 replace H := Option.bind_eq_some_iff.mp H
 obtain ⟨t238, A30, H⟩ := H
 replace H : ((psychro_Saturation.f k a0).bind fun t239 => ((fixed_MulDiv.f k t238 100000 t239).bind fun t240 => (some (mn 100000 t240)))) = some r := H
 have A3 := Aside0.mk A30
 clear A30
 replace H := Option.bind_eq_some_iff.mp H
 obtain ⟨t239, A40, H⟩ := H
 replace H : ((fixed_MulDiv.f k t238 100000 t239).bind fun t240 => (some (mn 100000 t240))) = some r := H
 have A4 := Aside0.mk A40
 clear A40
 replace H := Option.bind_eq_some_iff.mp H
 obtain ⟨t240, A50, H⟩ := H
 replace H : (some (mn 100000 t240)) = some r := H
 have A5 := Aside0.mk A50
 clear A50
 obtain ⟨ji6, hji6⟩ : ∃ j_ : Int, (mn 100000 t240) = j_ := ⟨_, rfl⟩
 replace H : (some ji6) = some r := by first | (rw [hji6] at H; exact H) | (simp only [hji6] at H ⊢; exact H)
 (try rw [hji6] at A3)
 (try rw [hji6] at A4)
 (try rw [hji6] at A5)
 (try (have hji6h : ji6 ≤ 100000 := by (rw [← hji6]; unfold mn; (repeat' split) <;> omega)))
 (try (have hji6g : ji6 ≤ 64 := by omega))
 have hji6_ : (if t240 < 100000 then t240 else 100000) = ji6 := hji6
 obtain rfl := Option.some.inj H
 go_enter Tryd.func18, Tryd.ntmps18
 go_wp2_with (first | ((with_reducible refine gate_callee (f := 29) rfl ?_); refine goesL_ (some 6) rfl rfl Tryd.func29 (by kernel_rfl) rfl #[.int .i64 a1, .int .i64 0, .int .i64 1000000] rfl (by (try simp only [List.map_toArray, List.map_cons, List.map_nil]); first | done | rfl | (simp only [List.length_drop, List.length_take]; rfl)) ?_; (with_reducible refine (psychro_limit.calls a1 0 1000000 t238 _ A3.out).mono ?_); rintro e w7 ⟨rfl, hb⟩; refine ⟨_, rfl, ?_⟩; have n0_ := Aside0.mk (below_step (by repeat (first | (with_reducible first | exact HB.out | apply below_alloc | apply pw_below_drewN | apply below_drew1) | exact HB.out)) hb); clear HB; have HB := n0_; clear n0_; (try clear hb); (try clear hb2); (try clear hk); (try clear hi)) | ((with_reducible refine gate_callee (f := 15) rfl ?_); refine goesL_ (some 8) rfl rfl Tryd.func15 (by kernel_rfl) rfl #[.int .i64 a0] rfl (by (try simp only [List.map_toArray, List.map_cons, List.map_nil]); first | done | rfl | (simp only [List.length_drop, List.length_take]; rfl)) ?_; (with_reducible refine (psychro_Saturation.calls k a0 t239 _ ?sideL A4.out).mono ?_); (case sideL => exact LaidT.below HL.out (by repeat (first | (with_reducible first | exact HB.out | apply below_alloc | apply pw_below_drewN | apply below_drew1) | exact HB.out))); rintro e w8 ⟨rfl, hb⟩; refine ⟨_, rfl, ?_⟩; have n0_ := Aside0.mk (below_step (by repeat (first | (with_reducible first | exact HB.out | apply below_alloc | apply pw_below_drewN | apply below_drew1) | exact HB.out)) hb); clear HB; have HB := n0_; clear n0_; (try clear hb); (try clear hb2); (try clear hk); (try clear hi)) | ((with_reducible refine gate_callee (f := 31) rfl ?_); refine goesL_ (some 9) rfl rfl Tryd.func31 (by kernel_rfl) rfl #[.int .i64 t238, .int .i64 100000, .int .i64 t239] rfl (by (try simp only [List.map_toArray, List.map_cons, List.map_nil]); first | done | rfl | (simp only [List.length_drop, List.length_take]; rfl)) ?_; (with_reducible refine (fixed_MulDiv.calls k t238 100000 t239 t240 _ A5.out).mono ?_); rintro e w9 ⟨rfl, hb⟩; refine ⟨_, rfl, ?_⟩; have n0_ := Aside0.mk (below_step (by repeat (first | (with_reducible first | exact HB.out | apply below_alloc | apply pw_below_drewN | apply below_drew1) | exact HB.out)) hb); clear HB; have HB := n0_; clear n0_; (try clear hb); (try clear hb2); (try clear hk); (try clear hi)))
 go_ret
 exact ⟨by first | rfl | (simp [errW_none, errW_some] <;> rfl) | (simp only [← hji6]; first | rfl | (simp [errW_none, errW_some] <;> rfl)) | (simp [*, errW_none, errW_some] <;> rfl), by repeat (first | (with_reducible first | exact HB.out | apply below_alloc | apply pw_below_drewN | apply below_drew1) | exact HB.out)⟩
end Go.Proofs.YtbfcplnaafnlhaaDoor.PT
