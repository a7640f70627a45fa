-- Laid by hp.py (a program of this session's) through the kit's printer. (squeezed)
import Derived.Test.YtbfcplnaafnlhaaDoorPTx0
import Derived.Test.YtbfcplnaafnlhaaDoorPTx16
import Derived.Test.YtbfcplnaafnlhaaDoorPTx20
namespace Go.Proofs.YtbfcplnaafnlhaaDoor.PT
open Go.RowKit Go.Proofs.YtbfcplnaafnlhaaDoorW.PrintWords Go.Proofs.YtbfcplnaafnlhaaDoorW.PrintLast Go.Proofs.YtbfcplnaafnlhaaDoorW.PrintMore
attribute [local go_sem] max2_int min2_int max_two min_two max_three min_three max_four min_four   -- for this text's walks alone
set_option linter.unusedVariables false
set_option linter.unusedSimpArgs false
/-! ### plenumref22_Mix: function 12 -/
def plenumref22_Mix.f (k : Nat) (a0 : Int) (a1 : Int) (a2 : Int) (a3 : Int) (a4 : Int) (a5 : Int) : Option (Int × Int) := (plenumref22_temperature.f a0).bind fun t166 => ((plenumref22_ratio.f a1).bind fun t167 => ((plenumref22_flow.f a2).bind fun t168 => ((plenumref22_temperature.f a3).bind fun t169 => ((plenumref22_ratio.f a4).bind fun t170 => ((plenumref22_flow.f a5).bind fun t171 => (if (wrap64 (t168 + t171)) = 0 then (some (t166, t167)) else ((plenumref01_MulDiv.f k (wrap64 (t169 - t166)) t171 (wrap64 (t168 + t171))).bind fun t172 => ((plenumref01_MulDiv.f k (wrap64 (t170 - t167)) t171 (wrap64 (t168 + t171))).bind fun t173 => (some (wrap64 (t166 + t172), wrap64 (t167 + t173)))))))))))
theorem plenumref22_Mix.mono : ∀ a0 a1 a2 a3 a4 a5 k, LeO (plenumref22_Mix.f k a0 a1 a2 a3 a4 a5) (plenumref22_Mix.f (k + 1) a0 a1 a2 a3 a4 a5) := by
 intro a0 a1 a2 a3 a4 a5 k
 unfold plenumref22_Mix.f
 repeat' first
  | (with_reducible exact plenumref01_MulDiv.mono _ _ _ _)
  | (with_reducible exact LeO.refl _)
  | (with_reducible exact LeO.none _)
  | (with_reducible refine LeO.ite ?_ ?_)
  | (with_reducible refine LeO.bind ?_ (fun _ => ?_))
  | exact plenumref01_MulDiv.mono _ _ _ _
  | exact LeO.none _
  | refine LeO.ite ?_ ?_
  | refine LeO.bind ?_ (fun _ => ?_)
set_option maxHeartbeats 8000000 in
set_option maxRecDepth 100000 in
theorem plenumref22_Mix.calls (k : Nat) (a0 : Int) (a1 : Int) (a2 : Int) (a3 : Int) (a4 : Int) (a5 : Int) (r1 : Int) (r2 : Int) (w : World) (h : plenumref22_Mix.f k a0 a1 a2 a3 a4 a5 = some (r1, r2)) :
 Calls Tryd.prog 12 #[.int .i64 a0, .int .i64 a1, .int .i64 a2, .int .i64 a3, .int .i64 a4, .int .i64 a5] w fun e w' => e = .returned (.tuple #[.int .i64 r1, .int .i64 r2]) ∧ Below w.heap.size w w' := by
 have HB := Aside0.mk (Below.refl w.heap.size w)
 have H : ((plenumref22_temperature.f a0).bind fun t166 => ((plenumref22_ratio.f a1).bind fun t167 => ((plenumref22_flow.f a2).bind fun t168 => ((plenumref22_temperature.f a3).bind fun t169 => ((plenumref22_ratio.f a4).bind fun t170 => ((plenumref22_flow.f a5).bind fun t171 => (if (wrap64 (t168 + t171)) = 0 then (some (t166, t167)) else ((plenumref01_MulDiv.f k (wrap64 (t169 - t166)) t171 (wrap64 (t168 + t171))).bind fun t172 => ((plenumref01_MulDiv.f k (wrap64 (t170 - t167)) t171 (wrap64 (t168 + t171))).bind fun t173 => (some (wrap64 (t166 + t172), wrap64 (t167 + t173)))))))))))) = some (r1, r2) := h
 clear h
 replace H := Option.bind_eq_some_iff.mp H
 obtain ⟨t166, A70, H⟩ := H
 replace H : ((plenumref22_ratio.f a1).bind fun t167 => ((plenumref22_flow.f a2).bind fun t168 => ((plenumref22_temperature.f a3).bind fun t169 => ((plenumref22_ratio.f a4).bind fun t170 => ((plenumref22_flow.f a5).bind fun t171 => (if (wrap64 (t168 + t171)) = 0 then (some (t166, t167)) else ((plenumref01_MulDiv.f k (wrap64 (t169 - t166)) t171 (wrap64 (t168 + t171))).bind fun t172 => ((plenumref01_MulDiv.f k (wrap64 (t170 - t167)) t171 (wrap64 (t168 + t171))).bind fun t173 => (some (wrap64 (t166 + t172), wrap64 (t167 + t173))))))))))) = some (r1, r2) := H
 have A7 := Aside0.mk A70
 clear A70
 replace H := Option.bind_eq_some_iff.mp H
 obtain ⟨t167, A80, H⟩ := H
 replace H : ((plenumref22_flow.f a2).bind fun t168 => ((plenumref22_temperature.f a3).bind fun t169 => ((plenumref22_ratio.f a4).bind fun t170 => ((plenumref22_flow.f a5).bind fun t171 => (if (wrap64 (t168 + t171)) = 0 then (some (t166, t167)) else ((plenumref01_MulDiv.f k (wrap64 (t169 - t166)) t171 (wrap64 (t168 + t171))).bind fun t172 => ((plenumref01_MulDiv.f k (wrap64 (t170 - t167)) t171 (wrap64 (t168 + t171))).bind fun t173 => (some (wrap64 (t166 + t172), wrap64 (t167 + t173)))))))))) = some (r1, r2) := H
 have A8 := Aside0.mk A80
 clear A80
 replace H := Option.bind_eq_some_iff.mp H
 obtain ⟨t168, A90, H⟩ := H
 replace H : ((plenumref22_temperature.f a3).bind fun t169 => ((plenumref22_ratio.f a4).bind fun t170 => ((plenumref22_flow.f a5).bind fun t171 => (if (wrap64 (t168 + t171)) = 0 then (some (t166, t167)) else ((plenumref01_MulDiv.f k (wrap64 (t169 - t166)) t171 (wrap64 (t168 + t171))).bind fun t172 => ((plenumref01_MulDiv.f k (wrap64 (t170 - t167)) t171 (wrap64 (t168 + t171))).bind fun t173 => (some (wrap64 (t166 + t172), wrap64 (t167 + t173))))))))) = some (r1, r2) := H
 have A9 := Aside0.mk A90
 clear A90
 replace H := Option.bind_eq_some_iff.mp H
 obtain ⟨t169, A100, H⟩ := H
 replace H : ((plenumref22_ratio.f a4).bind fun t170 => ((plenumref22_flow.f a5).bind fun t171 => (if (wrap64 (t168 + t171)) = 0 then (some (t166, t167)) else ((plenumref01_MulDiv.f k (wrap64 (t169 - t166)) t171 (wrap64 (t168 + t171))).bind fun t172 => ((plenumref01_MulDiv.f k (wrap64 (t170 - t167)) t171 (wrap64 (t168 + t171))).bind fun t173 => (some (wrap64 (t166 + t172), wrap64 (t167 + t173)))))))) = some (r1, r2) := H
 have A10 := Aside0.mk A100
 clear A100
 replace H := Option.bind_eq_some_iff.mp H
 obtain ⟨t170, A110, H⟩ := H
 replace H : ((plenumref22_flow.f a5).bind fun t171 => (if (wrap64 (t168 + t171)) = 0 then (some (t166, t167)) else ((plenumref01_MulDiv.f k (wrap64 (t169 - t166)) t171 (wrap64 (t168 + t171))).bind fun t172 => ((plenumref01_MulDiv.f k (wrap64 (t170 - t167)) t171 (wrap64 (t168 + t171))).bind fun t173 => (some (wrap64 (t166 + t172), wrap64 (t167 + t173))))))) = some (r1, r2) := H
 have A11 := Aside0.mk A110
 clear A110
 replace H := Option.bind_eq_some_iff.mp H
 obtain ⟨t171, A120, H⟩ := H
 replace H : (if (wrap64 (t168 + t171)) = 0 then (some (t166, t167)) else ((plenumref01_MulDiv.f k (wrap64 (t169 - t166)) t171 (wrap64 (t168 + t171))).bind fun t172 => ((plenumref01_MulDiv.f k (wrap64 (t170 - t167)) t171 (wrap64 (t168 + t171))).bind fun t173 => (some (wrap64 (t166 + t172), wrap64 (t167 + t173)))))) = some (r1, r2) := H
 have A12 := Aside0.mk A120
 clear A120
 by_cases c13 : (wrap64 (t168 + t171)) = 0
 ·
  rw [if_pos c13] at H
  have c13b0 : ((wrap64 (t168 + t171)) == 0) = true := beq_iff_eq.mpr c13
  have c13b1 : ((wrap64 (t168 + t171)) != 0) = false := bne_eq_false_iff_eq.mpr c13
  clear c13
  simp only [Option.some.injEq, Prod.mk.injEq] at H
  obtain ⟨rfl, rfl⟩ := H
  go_enter Tryd.func12, Tryd.ntmps12
  go_wp2_with (first | ((with_reducible refine gate_callee (f := 32) rfl ?_); refine goesL_ (some 15) rfl rfl Tryd.func32 (by kernel_rfl) rfl #[.int .i64 a0] rfl (by (try simp only [List.map_toArray, List.map_cons, List.map_nil]); first | done | rfl | (simp only [List.length_drop, List.length_take]; rfl)) ?_; (with_reducible refine (plenumref22_temperature.calls a0 t166 _ A7.out).mono ?_); rintro e w14 ⟨rfl, hb⟩; refine ⟨_, rfl, ?_⟩; have n0_ := Aside0.mk (below_step (by repeat (first | (with_reducible first | exact HB.out | apply below_alloc | apply pw_below_drewN | apply below_drew1) | exact HB.out)) hb); clear HB; have HB := n0_; clear n0_; (try clear hb); (try clear hb2); (try clear hk); (try clear hi)) | ((with_reducible refine gate_callee (f := 33) rfl ?_); refine goesL_ (some 17) rfl rfl Tryd.func33 (by kernel_rfl) rfl #[.int .i64 a1] rfl (by (try simp only [List.map_toArray, List.map_cons, List.map_nil]); first | done | rfl | (simp only [List.length_drop, List.length_take]; rfl)) ?_; (with_reducible refine (plenumref22_ratio.calls a1 t167 _ A8.out).mono ?_); rintro e w15 ⟨rfl, hb⟩; refine ⟨_, rfl, ?_⟩; have n0_ := Aside0.mk (below_step (by repeat (first | (with_reducible first | exact HB.out | apply below_alloc | apply pw_below_drewN | apply below_drew1) | exact HB.out)) hb); clear HB; have HB := n0_; clear n0_; (try clear hb); (try clear hb2); (try clear hk); (try clear hi)) | ((with_reducible refine gate_callee (f := 34) rfl ?_); refine goesL_ (some 19) rfl rfl Tryd.func34 (by kernel_rfl) rfl #[.int .i64 a2] rfl (by (try simp only [List.map_toArray, List.map_cons, List.map_nil]); first | done | rfl | (simp only [List.length_drop, List.length_take]; rfl)) ?_; (with_reducible refine (plenumref22_flow.calls a2 t168 _ A9.out).mono ?_); rintro e w16 ⟨rfl, hb⟩; refine ⟨_, rfl, ?_⟩; have n0_ := Aside0.mk (below_step (by repeat (first | (with_reducible first | exact HB.out | apply below_alloc | apply pw_below_drewN | apply below_drew1) | exact HB.out)) hb); clear HB; have HB := n0_; clear n0_; (try clear hb); (try clear hb2); (try clear hk); (try clear hi)) | ((with_reducible refine gate_callee (f := 32) rfl ?_); refine goesL_ (some 21) rfl rfl Tryd.func32 (by kernel_rfl) rfl #[.int .i64 a3] rfl (by (try simp only [List.map_toArray, List.map_cons, List.map_nil]); first | done | rfl | (simp only [List.length_drop, List.length_take]; rfl)) ?_; (with_reducible refine (plenumref22_temperature.calls a3 t169 _ A10.out).mono ?_); rintro e w17 ⟨rfl, hb⟩; refine ⟨_, rfl, ?_⟩; have n0_ := Aside0.mk (below_step (by repeat (first | (with_reducible first | exact HB.out | apply below_alloc | apply pw_below_drewN | apply below_drew1) | exact HB.out)) hb); clear HB; have HB := n0_; clear n0_; (try clear hb); (try clear hb2); (try clear hk); (try clear hi)) | ((with_reducible refine gate_callee (f := 33) rfl ?_); refine goesL_ (some 23) rfl rfl Tryd.func33 (by kernel_rfl) rfl #[.int .i64 a4] rfl (by (try simp only [List.map_toArray, List.map_cons, List.map_nil]); first | done | rfl | (simp only [List.length_drop, List.length_take]; rfl)) ?_; (with_reducible refine (plenumref22_ratio.calls a4 t170 _ A11.out).mono ?_); rintro e w18 ⟨rfl, hb⟩; refine ⟨_, rfl, ?_⟩; have n0_ := Aside0.mk (below_step (by repeat (first | (with_reducible first | exact HB.out | apply below_alloc | apply pw_below_drewN | apply below_drew1) | exact HB.out)) hb); clear HB; have HB := n0_; clear n0_; (try clear hb); (try clear hb2); (try clear hk); (try clear hi)) | ((with_reducible refine gate_callee (f := 34) rfl ?_); refine goesL_ (some 25) rfl rfl Tryd.func34 (by kernel_rfl) rfl #[.int .i64 a5] rfl (by (try simp only [List.map_toArray, List.map_cons, List.map_nil]); first | done | rfl | (simp only [List.length_drop, List.length_take]; rfl)) ?_; (with_reducible refine (plenumref22_flow.calls a5 t171 _ A12.out).mono ?_); rintro e w19 ⟨rfl, hb⟩; refine ⟨_, rfl, ?_⟩; have n0_ := Aside0.mk (below_step (by repeat (first | (with_reducible first | exact HB.out | apply below_alloc | apply pw_below_drewN | apply below_drew1) | exact HB.out)) hb); clear HB; have HB := n0_; clear n0_; (try clear hb); (try clear hb2); (try clear hk); (try clear hi)))
  go_ret2
  exact ⟨by first | rfl | (simp [errW_none, errW_some] <;> rfl) | (simp [*, errW_none, errW_some] <;> rfl), by repeat (first | (with_reducible first | exact HB.out | apply below_alloc | apply pw_below_drewN | apply below_drew1) | exact HB.out)⟩
 ·
  rw [if_neg c13] at H
  have c13b0 : ((wrap64 (t168 + t171)) == 0) = false := beq_eq_false_iff_ne.mpr c13
  have c13b1 : ((wrap64 (t168 + t171)) != 0) = true := bne_iff_ne.mpr c13
  replace H := Option.bind_eq_some_iff.mp H
  obtain ⟨t172, A200, H⟩ := H
  replace H : ((plenumref01_MulDiv.f k (wrap64 (t170 - t167)) t171 (wrap64 (t168 + t171))).bind fun t173 => (some (wrap64 (t166 + t172), wrap64 (t167 + t173)))) = some (r1, r2) := H
  have A20 := Aside0.mk A200
  clear A200
  replace H := Option.bind_eq_some_iff.mp H
  obtain ⟨t173, A210, H⟩ := H
  replace H : (some (wrap64 (t166 + t172), wrap64 (t167 + t173))) = some (r1, r2) := H
  have A21 := Aside0.mk A210
  clear A210
  simp only [Option.some.injEq, Prod.mk.injEq] at H
  obtain ⟨rfl, rfl⟩ := H
  go_enter Tryd.func12, Tryd.ntmps12
  go_wp2_with (first | ((with_reducible refine gate_callee (f := 32) rfl ?_); refine goesL_ (some 15) rfl rfl Tryd.func32 (by kernel_rfl) rfl #[.int .i64 a0] rfl (by (try simp only [List.map_toArray, List.map_cons, List.map_nil]); first | done | rfl | (simp only [List.length_drop, List.length_take]; rfl)) ?_; (with_reducible refine (plenumref22_temperature.calls a0 t166 _ A7.out).mono ?_); rintro e w22 ⟨rfl, hb⟩; refine ⟨_, rfl, ?_⟩; have n0_ := Aside0.mk (below_step (by repeat (first | (with_reducible first | exact HB.out | apply below_alloc | apply pw_below_drewN | apply below_drew1) | exact HB.out)) hb); clear HB; have HB := n0_; clear n0_; (try clear hb); (try clear hb2); (try clear hk); (try clear hi)) | ((with_reducible refine gate_callee (f := 33) rfl ?_); refine goesL_ (some 17) rfl rfl Tryd.func33 (by kernel_rfl) rfl #[.int .i64 a1] rfl (by (try simp only [List.map_toArray, List.map_cons, List.map_nil]); first | done | rfl | (simp only [List.length_drop, List.length_take]; rfl)) ?_; (with_reducible refine (plenumref22_ratio.calls a1 t167 _ A8.out).mono ?_); rintro e w23 ⟨rfl, hb⟩; refine ⟨_, rfl, ?_⟩; have n0_ := Aside0.mk (below_step (by repeat (first | (with_reducible first | exact HB.out | apply below_alloc | apply pw_below_drewN | apply below_drew1) | exact HB.out)) hb); clear HB; have HB := n0_; clear n0_; (try clear hb); (try clear hb2); (try clear hk); (try clear hi)) | ((with_reducible refine gate_callee (f := 34) rfl ?_); refine goesL_ (some 19) rfl rfl Tryd.func34 (by kernel_rfl) rfl #[.int .i64 a2] rfl (by (try simp only [List.map_toArray, List.map_cons, List.map_nil]); first | done | rfl | (simp only [List.length_drop, List.length_take]; rfl)) ?_; (with_reducible refine (plenumref22_flow.calls a2 t168 _ A9.out).mono ?_); rintro e w24 ⟨rfl, hb⟩; refine ⟨_, rfl, ?_⟩; have n0_ := Aside0.mk (below_step (by repeat (first | (with_reducible first | exact HB.out | apply below_alloc | apply pw_below_drewN | apply below_drew1) | exact HB.out)) hb); clear HB; have HB := n0_; clear n0_; (try clear hb); (try clear hb2); (try clear hk); (try clear hi)) | ((with_reducible refine gate_callee (f := 32) rfl ?_); refine goesL_ (some 21) rfl rfl Tryd.func32 (by kernel_rfl) rfl #[.int .i64 a3] rfl (by (try simp only [List.map_toArray, List.map_cons, List.map_nil]); first | done | rfl | (simp only [List.length_drop, List.length_take]; rfl)) ?_; (with_reducible refine (plenumref22_temperature.calls a3 t169 _ A10.out).mono ?_); rintro e w25 ⟨rfl, hb⟩; refine ⟨_, rfl, ?_⟩; have n0_ := Aside0.mk (below_step (by repeat (first | (with_reducible first | exact HB.out | apply below_alloc | apply pw_below_drewN | apply below_drew1) | exact HB.out)) hb); clear HB; have HB := n0_; clear n0_; (try clear hb); (try clear hb2); (try clear hk); (try clear hi)) | ((with_reducible refine gate_callee (f := 33) rfl ?_); refine goesL_ (some 23) rfl rfl Tryd.func33 (by kernel_rfl) rfl #[.int .i64 a4] rfl (by (try simp only [List.map_toArray, List.map_cons, List.map_nil]); first | done | rfl | (simp only [List.length_drop, List.length_take]; rfl)) ?_; (with_reducible refine (plenumref22_ratio.calls a4 t170 _ A11.out).mono ?_); rintro e w26 ⟨rfl, hb⟩; refine ⟨_, rfl, ?_⟩; have n0_ := Aside0.mk (below_step (by repeat (first | (with_reducible first | exact HB.out | apply below_alloc | apply pw_below_drewN | apply below_drew1) | exact HB.out)) hb); clear HB; have HB := n0_; clear n0_; (try clear hb); (try clear hb2); (try clear hk); (try clear hi)) | ((with_reducible refine gate_callee (f := 34) rfl ?_); refine goesL_ (some 25) rfl rfl Tryd.func34 (by kernel_rfl) rfl #[.int .i64 a5] rfl (by (try simp only [List.map_toArray, List.map_cons, List.map_nil]); first | done | rfl | (simp only [List.length_drop, List.length_take]; rfl)) ?_; (with_reducible refine (plenumref22_flow.calls a5 t171 _ A12.out).mono ?_); rintro e w27 ⟨rfl, hb⟩; refine ⟨_, rfl, ?_⟩; have n0_ := Aside0.mk (below_step (by repeat (first | (with_reducible first | exact HB.out | apply below_alloc | apply pw_below_drewN | apply below_drew1) | exact HB.out)) hb); clear HB; have HB := n0_; clear n0_; (try clear hb); (try clear hb2); (try clear hk); (try clear hi)) | ((with_reducible refine gate_callee (f := 35) rfl ?_); refine goesL_ (some 40) rfl rfl Tryd.func35 (by kernel_rfl) rfl #[.int .i64 (wrap64 (t169 - t166)), .int .i64 t171, .int .i64 (wrap64 (t168 + t171))] rfl (by (try simp only [List.map_toArray, List.map_cons, List.map_nil]); first | done | rfl | (simp only [List.length_drop, List.length_take]; rfl)) ?_; (with_reducible refine (plenumref01_MulDiv.calls k (wrap64 (t169 - t166)) t171 (wrap64 (t168 + t171)) t172 _ A20.out).mono ?_); rintro e w28 ⟨rfl, hb⟩; refine ⟨_, rfl, ?_⟩; have n0_ := Aside0.mk (below_step (by repeat (first | (with_reducible first | exact HB.out | apply below_alloc | apply pw_below_drewN | apply below_drew1) | exact HB.out)) hb); clear HB; have HB := n0_; clear n0_; (try clear hb); (try clear hb2); (try clear hk); (try clear hi)) | ((with_reducible refine gate_callee (f := 35) rfl ?_); refine goesL_ (some 50) rfl rfl Tryd.func35 (by kernel_rfl) rfl #[.int .i64 (wrap64 (t170 - t167)), .int .i64 t171, .int .i64 (wrap64 (t168 + t171))] rfl (by (try simp only [List.map_toArray, List.map_cons, List.map_nil]); first | done | rfl | (simp only [List.length_drop, List.length_take]; rfl)) ?_; (with_reducible refine (plenumref01_MulDiv.calls k (wrap64 (t170 - t167)) t171 (wrap64 (t168 + t171)) t173 _ A21.out).mono ?_); rintro e w29 ⟨rfl, hb⟩; refine ⟨_, rfl, ?_⟩; have n0_ := Aside0.mk (below_step (by repeat (first | (with_reducible first | exact HB.out | apply below_alloc | apply pw_below_drewN | apply below_drew1) | exact HB.out)) hb); clear HB; have HB := n0_; clear n0_; (try clear hb); (try clear hb2); (try clear hk); (try clear hi)))
  go_ret2
  exact ⟨by first | rfl | (simp [errW_none, errW_some] <;> rfl) | (simp [*, errW_none, errW_some] <;> rfl), by repeat (first | (with_reducible first | exact HB.out | apply below_alloc | apply pw_below_drewN | apply below_drew1) | exact HB.out)⟩
end Go.Proofs.YtbfcplnaafnlhaaDoor.PT
