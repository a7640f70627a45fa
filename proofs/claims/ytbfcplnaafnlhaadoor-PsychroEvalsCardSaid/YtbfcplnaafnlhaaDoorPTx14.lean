-- Laid by hp.py (a program of this session's) through the kit's printer. (squeezed)
import Derived.Test.YtbfcplnaafnlhaaDoorPTx0
import Derived.Test.YtbfcplnaafnlhaaDoorLaid
import Derived.Test.YtbfcplnaafnlhaaDoorPTx3
import Derived.Test.YtbfcplnaafnlhaaDoorPTx8
import Derived.Test.YtbfcplnaafnlhaaDoorPTx13
namespace Go.Proofs.YtbfcplnaafnlhaaDoor.PT
open Go.RowKit Go.Proofs.YtbfcplnaafnlhaaDoorW.PrintWords Go.Proofs.YtbfcplnaafnlhaaDoorW.PrintLast Go.Proofs.YtbfcplnaafnlhaaDoorW.PrintMore
attribute [local go_sem] max2_int min2_int max_two min_two max_three min_three max_four min_four   -- for this text's walks alone
set_option linter.unusedVariables false
set_option linter.unusedSimpArgs false
/-! ### psychro_Ratio: function 14 -/
def psychro_Ratio.f (k : Nat) (a0 : Int) (a1 : Int) : Option (Int) := (psychro_Saturation.f k a0).bind fun t132 => ((psychro_limit.f a1 0 100000).bind fun t133 => ((fixed_MulDiv.f k t132 t133 100000).bind fun t134 => (some t134)))
theorem psychro_Ratio.mono : ∀ a0 a1 k, LeO (psychro_Ratio.f k a0 a1) (psychro_Ratio.f (k + 1) a0 a1) := by
 intro a0 a1 k
 unfold psychro_Ratio.f
 repeat' first
  | (with_reducible exact fixed_MulDiv.mono _ _ _ _)
  | (with_reducible exact psychro_Saturation.mono _ _)
  | (with_reducible exact LeO.refl _)
  | (with_reducible exact LeO.none _)
  | (with_reducible refine LeO.ite ?_ ?_)
  | (with_reducible refine LeO.bind ?_ (fun _ => ?_))
  | exact fixed_MulDiv.mono _ _ _ _
  | exact psychro_Saturation.mono _ _
  | exact LeO.none _
  | refine LeO.ite ?_ ?_
  | refine LeO.bind ?_ (fun _ => ?_)
set_option maxHeartbeats 8000000 in
set_option maxRecDepth 100000 in
theorem psychro_Ratio.calls (k : Nat) (a0 : Int) (a1 : Int) (r : Int) (w : World) (hL : LaidT w) (h : psychro_Ratio.f k a0 a1 = some r) :
 Calls Tryd.prog 14 #[.int .i64 a0, .int .i64 a1] w fun e w' => e = .returned (.int .i64 r) ∧ Below w.heap.size w w' := by
 have HL := Aside0.mk hL
 have HB := Aside0.mk (Below.refl w.heap.size w)
 have H : ((psychro_Saturation.f k a0).bind fun t132 => ((psychro_limit.f a1 0 100000).bind fun t133 => ((fixed_MulDiv.f k t132 t133 100000).bind fun t134 => (some t134)))) = some r := h
 clear h
 replace H := Option.bind_eq_some_iff.mp H
 obtain ⟨t132, A30, H⟩ := H
 replace H : ((psychro_limit.f a1 0 100000).bind fun t133 => ((fixed_MulDiv.f k t132 t133 100000).bind fun t134 => (some t134))) = some r := H
 have A3 := Aside0.mk A30
 clear A30
 replace H := Option.bind_eq_some_iff.mp H
 obtain ⟨t133, A40, H⟩ := H
 replace H : ((fixed_MulDiv.f k t132 t133 100000).bind fun t134 => (some t134)) = some r := H
 have A4 := Aside0.mk A40
 clear A40
 replace H := Option.bind_eq_some_iff.mp H
 obtain ⟨t134, A50, H⟩ := H
 replace H : (some t134) = some r := H
 have A5 := Aside0.mk A50
 clear A50
 obtain rfl := Option.some.inj H
 go_enter Tryd.func14, Tryd.ntmps14
 go_wp2_with (first | ((with_reducible refine gate_callee (f := 15) rfl ?_); refine goesL_ (some 6) rfl rfl Tryd.func15 (by kernel_rfl) rfl #[.int .i64 a0] rfl (by (try simp only [List.map_toArray, List.map_cons, List.map_nil]); first | done | rfl | (simp only [List.length_drop, List.length_take]; rfl)) ?_; (with_reducible refine (psychro_Saturation.calls k a0 t132 _ ?sideL A3.out).mono ?_); (case sideL => exact LaidT.below HL.out (by repeat (first | (with_reducible first | exact HB.out | apply below_alloc | apply pw_below_drewN | apply below_drew1) | exact HB.out))); rintro e w6 ⟨rfl, hb⟩; refine ⟨_, rfl, ?_⟩; have n0_ := Aside0.mk (below_step (by repeat (first | (with_reducible first | exact HB.out | apply below_alloc | apply pw_below_drewN | apply below_drew1) | exact HB.out)) hb); clear HB; have HB := n0_; clear n0_; (try clear hb); (try clear hb2); (try clear hk); (try clear hi)) | ((with_reducible refine gate_callee (f := 29) rfl ?_); refine goesL_ (some 8) rfl rfl Tryd.func29 (by kernel_rfl) rfl #[.int .i64 a1, .int .i64 0, .int .i64 100000] rfl (by (try simp only [List.map_toArray, List.map_cons, List.map_nil]); first | done | rfl | (simp only [List.length_drop, List.length_take]; rfl)) ?_; (with_reducible refine (psychro_limit.calls a1 0 100000 t133 _ A4.out).mono ?_); rintro e w7 ⟨rfl, hb⟩; refine ⟨_, rfl, ?_⟩; have n0_ := Aside0.mk (below_step (by repeat (first | (with_reducible first | exact HB.out | apply below_alloc | apply pw_below_drewN | apply below_drew1) | exact HB.out)) hb); clear HB; have HB := n0_; clear n0_; (try clear hb); (try clear hb2); (try clear hk); (try clear hi)) | ((with_reducible refine gate_callee (f := 31) rfl ?_); refine goesL_ (some 9) rfl rfl Tryd.func31 (by kernel_rfl) rfl #[.int .i64 t132, .int .i64 t133, .int .i64 100000] rfl (by (try simp only [List.map_toArray, List.map_cons, List.map_nil]); first | done | rfl | (simp only [List.length_drop, List.length_take]; rfl)) ?_; (with_reducible refine (fixed_MulDiv.calls k t132 t133 100000 t134 _ A5.out).mono ?_); rintro e w8 ⟨rfl, hb⟩; refine ⟨_, rfl, ?_⟩; have n0_ := Aside0.mk (below_step (by repeat (first | (with_reducible first | exact HB.out | apply below_alloc | apply pw_below_drewN | apply below_drew1) | exact HB.out)) hb); clear HB; have HB := n0_; clear n0_; (try clear hb); (try clear hb2); (try clear hk); (try clear hi)))
 go_ret
 exact ⟨by first | rfl | (simp [errW_none, errW_some] <;> rfl) | (simp [*, errW_none, errW_some] <;> rfl), by repeat (first | (with_reducible first | exact HB.out | apply below_alloc | apply pw_below_drewN | apply below_drew1) | exact HB.out)⟩
/-! ### psychro_Enthalpy: function 21 -/
def psychro_Enthalpy.f (k : Nat) (a0 : Int) (a1 : Int) : Option (Int) := (psychro_limit.f a0 (-100000) 200000).bind fun t135 => ((psychro_limit.f a1 0 1000000).bind fun t136 => ((fixed_MulDiv.f k t135 1006 1000).bind fun t137 => ((fixed_MulDiv.f k t135 1860 1000).bind fun t138 => ((fixed_MulDiv.f k t136 (wrap64 (2501000 + t138)) 1000000).bind fun t139 => (some (wrap64 (t137 + t139)))))))
theorem psychro_Enthalpy.mono : ∀ a0 a1 k, LeO (psychro_Enthalpy.f k a0 a1) (psychro_Enthalpy.f (k + 1) a0 a1) := by
 intro a0 a1 k
 unfold psychro_Enthalpy.f
 repeat' first
  | (with_reducible exact fixed_MulDiv.mono _ _ _ _)
  | (with_reducible exact LeO.refl _)
  | (with_reducible exact LeO.none _)
  | (with_reducible refine LeO.ite ?_ ?_)
  | (with_reducible refine LeO.bind ?_ (fun _ => ?_))
  | exact fixed_MulDiv.mono _ _ _ _
  | exact LeO.none _
  | refine LeO.ite ?_ ?_
  | refine LeO.bind ?_ (fun _ => ?_)
set_option maxHeartbeats 8000000 in
set_option maxRecDepth 100000 in
theorem psychro_Enthalpy.calls (k : Nat) (a0 : Int) (a1 : Int) (r : Int) (w : World) (h : psychro_Enthalpy.f k a0 a1 = some r) :
 Calls Tryd.prog 21 #[.int .i64 a0, .int .i64 a1] w fun e w' => e = .returned (.int .i64 r) ∧ Below w.heap.size w w' := by
 have HB := Aside0.mk (Below.refl w.heap.size w)
 have H : ((psychro_limit.f a0 (-100000) 200000).bind fun t135 => ((psychro_limit.f a1 0 1000000).bind fun t136 => ((fixed_MulDiv.f k t135 1006 1000).bind fun t137 => ((fixed_MulDiv.f k t135 1860 1000).bind fun t138 => ((fixed_MulDiv.f k t136 (wrap64 (2501000 + t138)) 1000000).bind fun t139 => (some (wrap64 (t137 + t139)))))))) = some r := h
 clear h
 replace H := Option.bind_eq_some_iff.mp H
 obtain ⟨t135, A30, H⟩ := H
 replace H : ((psychro_limit.f a1 0 1000000).bind fun t136 => ((fixed_MulDiv.f k t135 1006 1000).bind fun t137 => ((fixed_MulDiv.f k t135 1860 1000).bind fun t138 => ((fixed_MulDiv.f k t136 (wrap64 (2501000 + t138)) 1000000).bind fun t139 => (some (wrap64 (t137 + t139))))))) = some r := H
 have A3 := Aside0.mk A30
 clear A30
 replace H := Option.bind_eq_some_iff.mp H
 obtain ⟨t136, A40, H⟩ := H
 replace H : ((fixed_MulDiv.f k t135 1006 1000).bind fun t137 => ((fixed_MulDiv.f k t135 1860 1000).bind fun t138 => ((fixed_MulDiv.f k t136 (wrap64 (2501000 + t138)) 1000000).bind fun t139 => (some (wrap64 (t137 + t139)))))) = some r := H
 have A4 := Aside0.mk A40
 clear A40
 replace H := Option.bind_eq_some_iff.mp H
 obtain ⟨t137, A50, H⟩ := H
 replace H : ((fixed_MulDiv.f k t135 1860 1000).bind fun t138 => ((fixed_MulDiv.f k t136 (wrap64 (2501000 + t138)) 1000000).bind fun t139 => (some (wrap64 (t137 + t139))))) = some r := H
 have A5 := Aside0.mk A50
 clear A50
 replace H := Option.bind_eq_some_iff.mp H
 obtain ⟨t138, A60, H⟩ := H
 replace H : ((fixed_MulDiv.f k t136 (wrap64 (2501000 + t138)) 1000000).bind fun t139 => (some (wrap64 (t137 + t139)))) = some r := H
 have A6 := Aside0.mk A60
 clear A60
 replace H := Option.bind_eq_some_iff.mp H
 obtain ⟨t139, A70, H⟩ := H
 replace H : (some (wrap64 (t137 + t139))) = some r := H
 have A7 := Aside0.mk A70
 clear A70
 obtain rfl := Option.some.inj H
 go_enter Tryd.func21, Tryd.ntmps21
 go_wp2_with (first | ((with_reducible refine gate_callee (f := 29) rfl ?_); refine goesL_ (some 8) rfl rfl Tryd.func29 (by kernel_rfl) rfl #[.int .i64 a0, .int .i64 (-100000), .int .i64 200000] rfl (by (try simp only [List.map_toArray, List.map_cons, List.map_nil]); first | done | rfl | (simp only [List.length_drop, List.length_take]; rfl)) ?_; (with_reducible refine (psychro_limit.calls a0 (-100000) 200000 t135 _ A3.out).mono ?_); rintro e w8 ⟨rfl, hb⟩; refine ⟨_, rfl, ?_⟩; have n0_ := Aside0.mk (below_step (by repeat (first | (with_reducible first | exact HB.out | apply below_alloc | apply pw_below_drewN | apply below_drew1) | exact HB.out)) hb); clear HB; have HB := n0_; clear n0_; (try clear hb); (try clear hb2); (try clear hk); (try clear hi)) | ((with_reducible refine gate_callee (f := 29) rfl ?_); refine goesL_ (some 10) rfl rfl Tryd.func29 (by kernel_rfl) rfl #[.int .i64 a1, .int .i64 0, .int .i64 1000000] rfl (by (try simp only [List.map_toArray, List.map_cons, List.map_nil]); first | done | rfl | (simp only [List.length_drop, List.length_take]; rfl)) ?_; (with_reducible refine (psychro_limit.calls a1 0 1000000 t136 _ A4.out).mono ?_); rintro e w9 ⟨rfl, hb⟩; refine ⟨_, rfl, ?_⟩; have n0_ := Aside0.mk (below_step (by repeat (first | (with_reducible first | exact HB.out | apply below_alloc | apply pw_below_drewN | apply below_drew1) | exact HB.out)) hb); clear HB; have HB := n0_; clear n0_; (try clear hb); (try clear hb2); (try clear hk); (try clear hi)) | ((with_reducible refine gate_callee (f := 31) rfl ?_); refine goesL_ (some 12) rfl rfl Tryd.func31 (by kernel_rfl) rfl #[.int .i64 t135, .int .i64 1006, .int .i64 1000] rfl (by (try simp only [List.map_toArray, List.map_cons, List.map_nil]); first | done | rfl | (simp only [List.length_drop, List.length_take]; rfl)) ?_; (with_reducible refine (fixed_MulDiv.calls k t135 1006 1000 t137 _ A5.out).mono ?_); rintro e w10 ⟨rfl, hb⟩; refine ⟨_, rfl, ?_⟩; have n0_ := Aside0.mk (below_step (by repeat (first | (with_reducible first | exact HB.out | apply below_alloc | apply pw_below_drewN | apply below_drew1) | exact HB.out)) hb); clear HB; have HB := n0_; clear n0_; (try clear hb); (try clear hb2); (try clear hk); (try clear hi)) | ((with_reducible refine gate_callee (f := 31) rfl ?_); refine goesL_ (some 15) rfl rfl Tryd.func31 (by kernel_rfl) rfl #[.int .i64 t135, .int .i64 1860, .int .i64 1000] rfl (by (try simp only [List.map_toArray, List.map_cons, List.map_nil]); first | done | rfl | (simp only [List.length_drop, List.length_take]; rfl)) ?_; (with_reducible refine (fixed_MulDiv.calls k t135 1860 1000 t138 _ A6.out).mono ?_); rintro e w11 ⟨rfl, hb⟩; refine ⟨_, rfl, ?_⟩; have n0_ := Aside0.mk (below_step (by repeat (first | (with_reducible first | exact HB.out | apply below_alloc | apply pw_below_drewN | apply below_drew1) | exact HB.out)) hb); clear HB; have HB := n0_; clear n0_; (try clear hb); (try clear hb2); (try clear hk); (try clear hi)) | ((with_reducible refine gate_callee (f := 31) rfl ?_); refine goesL_ (some 17) rfl rfl Tryd.func31 (by kernel_rfl) rfl #[.int .i64 t136, .int .i64 (wrap64 (2501000 + t138)), .int .i64 1000000] rfl (by (try simp only [List.map_toArray, List.map_cons, List.map_nil]); first | done | rfl | (simp only [List.length_drop, List.length_take]; rfl)) ?_; (with_reducible refine (fixed_MulDiv.calls k t136 (wrap64 (2501000 + t138)) 1000000 t139 _ A7.out).mono ?_); rintro e w12 ⟨rfl, hb⟩; refine ⟨_, rfl, ?_⟩; have n0_ := Aside0.mk (below_step (by repeat (first | (with_reducible first | exact HB.out | apply below_alloc | apply pw_below_drewN | apply below_drew1) | exact HB.out)) hb); clear HB; have HB := n0_; clear n0_; (try clear hb); (try clear hb2); (try clear hk); (try clear hi)))
 go_ret
 exact ⟨by first | rfl | (simp [errW_none, errW_some] <;> rfl) | (simp [*, errW_none, errW_some] <;> rfl), by repeat (first | (with_reducible first | exact HB.out | apply below_alloc | apply pw_below_drewN | apply below_drew1) | exact HB.out)⟩
end Go.Proofs.YtbfcplnaafnlhaaDoor.PT
