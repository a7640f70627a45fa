-- Laid by hp.py (a program of this session's) through the kit's printer. (squeezed)
import Derived.Test.YtbfcplnaafnlhaaDoorPTx0
import Derived.Test.YtbfcplnaafnlhaaDoorPTx16
import Derived.Test.YtbfcplnaafnlhaaDoorPTx18
import Derived.Test.YtbfcplnaafnlhaaDoorPTx19
namespace Go.Proofs.YtbfcplnaafnlhaaDoor.PT
open Go.RowKit Go.Proofs.YtbfcplnaafnlhaaDoorW.PrintWords Go.Proofs.YtbfcplnaafnlhaaDoorW.PrintLast Go.Proofs.YtbfcplnaafnlhaaDoorW.PrintMore
attribute [local go_sem] max2_int min2_int max_two min_two max_three min_three max_four min_four   -- for this text's walks alone
set_option linter.unusedVariables false
set_option linter.unusedSimpArgs false
/-! ### plenumref01_MulDiv: function 35 -/
def plenumref01_MulDiv.j0 : Nat → Int → Int → Int → Bool → Bool → Option (Int)
 | 0, _, _, _, _, _ => none
 | k + 1, x0, x1, x2, x7, x24 => if x24 = true then (some 0) else (if x2 = 0 then (if x7 = true then ((plenumref01_limit.f (-1)).bind fun t158 => (some t158)) else ((plenumref01_limit.f 1).bind fun t159 => (some t159))) else ((plenumref01_size.f x0).bind fun t160 => ((plenumref01_size.f x1).bind fun t161 => ((plenumref01_product.f t160 t161).bind fun bt162 => ((plenumref01_size.f x2).bind fun t164 => ((plenumref01_rounded.f k (x7 != (decide (x2 < 0))) bt162.1 bt162.2 t164).bind fun t165 => (some t165)))))))
def plenumref01_MulDiv.f (k : Nat) (a0 : Int) (a1 : Int) (a2 : Int) : Option (Int) := (plenumref01_Clamp.f a0).bind fun t155 => ((plenumref01_Clamp.f a1).bind fun t156 => ((plenumref01_Clamp.f a2).bind fun t157 => (if t155 = 0 then (plenumref01_MulDiv.j0 k t155 t156 t157 ((decide (t155 < 0)) != (decide (t156 < 0))) true) else (plenumref01_MulDiv.j0 k t155 t156 t157 ((decide (t155 < 0)) != (decide (t156 < 0))) (t156 == 0)))))
theorem plenumref01_MulDiv.mono_l : ∀ k, (∀ y0 y1 y2 y3 y4, LeO (plenumref01_MulDiv.j0 k y0 y1 y2 y3 y4) (plenumref01_MulDiv.j0 (k + 1) y0 y1 y2 y3 y4))
 | 0 => fun _ _ _ _ _ r h => by simp [plenumref01_MulDiv.j0] at h
 | k + 1 => by
  have ih0 := plenumref01_MulDiv.mono_l k
  ·
   intro y0 y1 y2 y3 y4
   unfold plenumref01_MulDiv.j0
   repeat' first
   | (with_reducible exact ih0 _ _ _ _ _)
   | (with_reducible exact plenumref01_rounded.mono _ _ _ _ _)
   | (with_reducible exact LeO.refl _)
   | (with_reducible exact LeO.none _)
   | (with_reducible refine LeO.ite ?_ ?_)
   | (with_reducible refine LeO.bind ?_ (fun _ => ?_))
   | exact ih0 _ _ _ _ _
   | exact plenumref01_rounded.mono _ _ _ _ _
   | exact LeO.none _
   | refine LeO.ite ?_ ?_
   | refine LeO.bind ?_ (fun _ => ?_)
theorem plenumref01_MulDiv.mono : ∀ a0 a1 a2 k, LeO (plenumref01_MulDiv.f k a0 a1 a2) (plenumref01_MulDiv.f (k + 1) a0 a1 a2) := by
 intro a0 a1 a2 k
 have ih0 := plenumref01_MulDiv.mono_l k
 unfold plenumref01_MulDiv.f
 repeat' first
  | (with_reducible exact ih0 _ _ _ _ _)
  | (with_reducible exact plenumref01_rounded.mono _ _ _ _ _)
  | (with_reducible exact LeO.refl _)
  | (with_reducible exact LeO.none _)
  | (with_reducible refine LeO.ite ?_ ?_)
  | (with_reducible refine LeO.bind ?_ (fun _ => ?_))
  | exact ih0 _ _ _ _ _
  | exact plenumref01_rounded.mono _ _ _ _ _
  | exact LeO.none _
  | refine LeO.ite ?_ ?_
  | refine LeO.bind ?_ (fun _ => ?_)
set_option maxHeartbeats 8000000 in
set_option maxRecDepth 100000 in
theorem plenumref01_MulDiv.calls (k : Nat) (a0 : Int) (a1 : Int) (a2 : Int) (r : Int) (w : World) (h : plenumref01_MulDiv.f k a0 a1 a2 = some r) :
 Calls Tryd.prog 35 #[.int .i64 a0, .int .i64 a1, .int .i64 a2] w fun e w' => e = .returned (.int .i64 r) ∧ Below w.heap.size w w' := by
 have HB := Aside0.mk (Below.refl w.heap.size w)
 have H : ((plenumref01_Clamp.f a0).bind fun t155 => ((plenumref01_Clamp.f a1).bind fun t156 => ((plenumref01_Clamp.f a2).bind fun t157 => (if t155 = 0 then (plenumref01_MulDiv.j0 k t155 t156 t157 ((decide (t155 < 0)) != (decide (t156 < 0))) true) else (plenumref01_MulDiv.j0 k t155 t156 t157 ((decide (t155 < 0)) != (decide (t156 < 0))) (t156 == 0)))))) = some r := h
 clear h
 replace H := Option.bind_eq_some_iff.mp H
 obtain ⟨t155, A40, H⟩ := H
 replace H : ((plenumref01_Clamp.f a1).bind fun t156 => ((plenumref01_Clamp.f a2).bind fun t157 => (if t155 = 0 then (plenumref01_MulDiv.j0 k t155 t156 t157 ((decide (t155 < 0)) != (decide (t156 < 0))) true) else (plenumref01_MulDiv.j0 k t155 t156 t157 ((decide (t155 < 0)) != (decide (t156 < 0))) (t156 == 0))))) = some r := H
 have A4 := Aside0.mk A40
 clear A40
 replace H := Option.bind_eq_some_iff.mp H
 obtain ⟨t156, A50, H⟩ := H
 replace H : ((plenumref01_Clamp.f a2).bind fun t157 => (if t155 = 0 then (plenumref01_MulDiv.j0 k t155 t156 t157 ((decide (t155 < 0)) != (decide (t156 < 0))) true) else (plenumref01_MulDiv.j0 k t155 t156 t157 ((decide (t155 < 0)) != (decide (t156 < 0))) (t156 == 0)))) = some r := H
 have A5 := Aside0.mk A50
 clear A50
 replace H := Option.bind_eq_some_iff.mp H
 obtain ⟨t157, A60, H⟩ := H
 replace H : (if t155 = 0 then (plenumref01_MulDiv.j0 k t155 t156 t157 ((decide (t155 < 0)) != (decide (t156 < 0))) true) else (plenumref01_MulDiv.j0 k t155 t156 t157 ((decide (t155 < 0)) != (decide (t156 < 0))) (t156 == 0))) = some r := H
 have A6 := Aside0.mk A60
 clear A60
 have HC7 := Aside0.mk H
 clear H
 go_enter Tryd.func35, Tryd.ntmps35
 go_upto_region 5 with (first | ((with_reducible refine gate_callee (f := 41) rfl ?_); refine goesL_ (some 9) rfl rfl Tryd.func41 (by kernel_rfl) rfl #[.int .i64 a0] rfl (by (try simp only [List.map_toArray, List.map_cons, List.map_nil]); first | done | rfl | (simp only [List.length_drop, List.length_take]; rfl)) ?_; (with_reducible refine (plenumref01_Clamp.calls a0 t155 _ A4.out).mono ?_); rintro e w8 ⟨rfl, hb⟩; refine ⟨_, rfl, ?_⟩; have n0_ := Aside0.mk (below_step (by repeat (first | (with_reducible first | exact HB.out | apply below_alloc | apply pw_below_drewN | apply below_drew1) | exact HB.out)) hb); clear HB; have HB := n0_; clear n0_; (try clear hb); (try clear hb2); (try clear hk); (try clear hi)) | ((with_reducible refine gate_callee (f := 41) rfl ?_); refine goesL_ (some 11) rfl rfl Tryd.func41 (by kernel_rfl) rfl #[.int .i64 a1] rfl (by (try simp only [List.map_toArray, List.map_cons, List.map_nil]); first | done | rfl | (simp only [List.length_drop, List.length_take]; rfl)) ?_; (with_reducible refine (plenumref01_Clamp.calls a1 t156 _ A5.out).mono ?_); rintro e w9 ⟨rfl, hb⟩; refine ⟨_, rfl, ?_⟩; have n0_ := Aside0.mk (below_step (by repeat (first | (with_reducible first | exact HB.out | apply below_alloc | apply pw_below_drewN | apply below_drew1) | exact HB.out)) hb); clear HB; have HB := n0_; clear n0_; (try clear hb); (try clear hb2); (try clear hk); (try clear hi)) | ((with_reducible refine gate_callee (f := 41) rfl ?_); refine goesL_ (some 13) rfl rfl Tryd.func41 (by kernel_rfl) rfl #[.int .i64 a2] rfl (by (try simp only [List.map_toArray, List.map_cons, List.map_nil]); first | done | rfl | (simp only [List.length_drop, List.length_take]; rfl)) ?_; (with_reducible refine (plenumref01_Clamp.calls a2 t157 _ A6.out).mono ?_); rintro e w10 ⟨rfl, hb⟩; refine ⟨_, rfl, ?_⟩; have n0_ := Aside0.mk (below_step (by repeat (first | (with_reducible first | exact HB.out | apply below_alloc | apply pw_below_drewN | apply below_drew1) | exact HB.out)) hb); clear HB; have HB := n0_; clear n0_; (try clear hb); (try clear hb2); (try clear hk); (try clear hi)))
 (try simp only [Act.put, List.setIfInBounds_toArray, List.set_cons_zero, List.set_cons_succ])
 go_cut [24] (fun v24 wc => ∃ (kq : Nat) (x24_6 : Bool), v24 = .bool x24_6 ∧ Aside0 (plenumref01_MulDiv.j0 kq t155 t156 t157 ((decide (t155 < 0)) != (decide (t156 < 0))) x24_6 = some r) ∧ Aside0 (kq ≤ k) ∧ Aside0 (Below w.heap.size w wc))
 case first =>
  have H := HC7.out
  clear HC7
  by_cases c11 : t155 = 0
  ·
   rw [if_pos c11] at H
   have c11b0 : (t155 == 0) = true := beq_iff_eq.mpr c11
   have c11b1 : (t155 != 0) = false := bne_eq_false_iff_eq.mpr c11
   clear c11
   (first | rw [c11b0] | (simp only [i64_w, i32_w]; rw [c11b0]) | skip)
   have H' := Aside0.mk H
   clear H
   go_wp2
   go_meet
   case rel => exact ⟨_, (true), (by first | rfl | (simp; done) | (simp [*]; done)), H', ⟨by first | omega | exact Nat.le_refl _⟩, ⟨by repeat (first | (with_reducible first | exact HB.out | apply below_alloc | apply pw_below_drewN | apply below_drew1) | exact HB.out)⟩⟩
  ·
   rw [if_neg c11] at H
   have c11b0 : (t155 == 0) = false := beq_eq_false_iff_ne.mpr c11
   have c11b1 : (t155 != 0) = true := bne_iff_ne.mpr c11
   (first | rw [c11b0] | (simp only [i64_w, i32_w]; rw [c11b0]) | skip)
   have H' := Aside0.mk H
   clear H
   go_wp2
   go_meet
   case rel => exact ⟨_, ((t156 == 0)), (by first | rfl | (simp; done) | (simp [*]; done)), H', ⟨by first | omega | exact Nat.le_refl _⟩, ⟨by repeat (first | (with_reducible first | exact HB.out | apply below_alloc | apply pw_below_drewN | apply below_drew1) | exact HB.out)⟩⟩
 case rest =>
  clear HC7
  try clear c1
  try clear p2
  try clear c3
  try clear c4
  try clear c11
  try clear c11b0
  try clear c11b1
  obtain ⟨kq, x24_6, rfl, HA, HJ6, HB⟩ := hcut
  cases kq with
  | zero => exact absurd HA.out (by simp [plenumref01_MulDiv.j0])
  | succ kj6 =>
   have H := HA.out
   clear HA
   simp only [plenumref01_MulDiv.j0] at H
   by_cases c12 : x24_6 = true
   ·
    subst c12
    have H1 : (some 0) = some r := by rw [if_pos rfl] at H; exact H
    clear H
    have H := H1
    clear H1
    obtain rfl := Option.some.inj H
    go_wp2
    go_ret
    exact ⟨by first | rfl | (simp [errW_none, errW_some] <;> rfl) | (simp [*, errW_none, errW_some] <;> rfl), by repeat (first | (with_reducible first | exact HB.out | apply below_alloc | apply pw_below_drewN | apply below_drew1) | exact HB.out)⟩
   ·
    replace c12 := Bool.eq_false_iff.mpr c12
    subst c12
    have H1 : (if t157 = 0 then (if ((decide (t155 < 0)) != (decide (t156 < 0))) = true then ((plenumref01_limit.f (-1)).bind fun t158 => (some t158)) else ((plenumref01_limit.f 1).bind fun t159 => (some t159))) else ((plenumref01_size.f t155).bind fun t160 => ((plenumref01_size.f t156).bind fun t161 => ((plenumref01_product.f t160 t161).bind fun bt162 => ((plenumref01_size.f t157).bind fun t164 => ((plenumref01_rounded.f kj6 (((decide (t155 < 0)) != (decide (t156 < 0))) != (decide (t157 < 0))) bt162.1 bt162.2 t164).bind fun t165 => (some t165))))))) = some r := by rw [if_neg (show ¬ (false = true) by decide)] at H; exact H
    clear H
    have H := H1
    clear H1
    by_cases c13 : t157 = 0
    ·
     rw [if_pos c13] at H
     have c13b0 : (t157 == 0) = true := beq_iff_eq.mpr c13
     have c13b1 : (t157 != 0) = false := bne_eq_false_iff_eq.mpr c13
     clear c13
     by_cases c14 : ((decide (t155 < 0)) != (decide (t156 < 0))) = true
     ·
      rw [if_pos c14] at H
      have c14b0 : ((decide (t155 < 0)) != (decide (t156 < 0))) = true := c14
      have c14bz : (!decide (t155 < 0) == decide (t156 < 0)) = true := by rw [← c14b0]; cases decide (t155 < 0) <;> cases decide (t156 < 0) <;> rfl
      (try (have c14b1 : decide ((decide (t155 < 0)) = (decide (t156 < 0))) = false := by simpa using c14))
      (try (have c14b2 : ((decide (t155 < 0)) == (decide (t156 < 0))) = false := by simpa using c14))
      (try (have c14b3 : ¬ ((decide (t155 < 0)) = (decide (t156 < 0))) := by simpa using c14))
      clear c14
      replace H := Option.bind_eq_some_iff.mp H
      obtain ⟨t158, A150, H⟩ := H
      replace H : (some t158) = some r := H
      have A15 := Aside0.mk A150
      clear A150
      obtain rfl := Option.some.inj H
      go_wp2_with (first | ((with_reducible refine gate_callee (f := 46) rfl ?_); refine goesL_ (some 28) rfl rfl Tryd.func46 (by kernel_rfl) rfl #[.int .i64 (-1)] rfl (by (try simp only [List.map_toArray, List.map_cons, List.map_nil]); first | done | rfl | (simp only [List.length_drop, List.length_take]; rfl)) ?_; (with_reducible refine (plenumref01_limit.calls (-1) t158 _ A15.out).mono ?_); rintro e w' ⟨rfl, ⟨nd, rfl⟩⟩; refine ⟨_, rfl, ?_⟩))
      any_goals (first | (exact absurd (c14bz.symm.trans (show (!decide (t155 < 0) == decide (t156 < 0)) = false by assumption)) (by decide)) | skip)
      go_ret
      exact ⟨by first | rfl | (simp [errW_none, errW_some] <;> rfl) | (simp [*, errW_none, errW_some] <;> rfl), by repeat (first | (with_reducible first | exact HB.out | apply below_alloc | apply pw_below_drewN | apply below_drew1) | exact HB.out)⟩
     ·
      rw [if_neg c14] at H
      have c14b0 : ((decide (t155 < 0)) != (decide (t156 < 0))) = false := by simpa using c14
      have c14bz : (!decide (t155 < 0) == decide (t156 < 0)) = false := by rw [← c14b0]; cases decide (t155 < 0) <;> cases decide (t156 < 0) <;> rfl
      (try (have c14b1 : decide ((decide (t155 < 0)) = (decide (t156 < 0))) = true := by simpa using c14))
      (try (have c14b2 : ((decide (t155 < 0)) == (decide (t156 < 0))) = true := by simpa using c14))
      clear c14
      replace H := Option.bind_eq_some_iff.mp H
      obtain ⟨t159, A160, H⟩ := H
      replace H : (some t159) = some r := H
      have A16 := Aside0.mk A160
      clear A160
      obtain rfl := Option.some.inj H
      go_wp2_with (first | ((with_reducible refine gate_callee (f := 46) rfl ?_); refine goesL_ (some 29) rfl rfl Tryd.func46 (by kernel_rfl) rfl #[.int .i64 1] rfl (by (try simp only [List.map_toArray, List.map_cons, List.map_nil]); first | done | rfl | (simp only [List.length_drop, List.length_take]; rfl)) ?_; (with_reducible refine (plenumref01_limit.calls 1 t159 _ A16.out).mono ?_); rintro e w' ⟨rfl, ⟨nd, rfl⟩⟩; refine ⟨_, rfl, ?_⟩))
      any_goals (first | (exact absurd (c14bz.symm.trans (show (!decide (t155 < 0) == decide (t156 < 0)) = true by assumption)) (by decide)) | skip)
      go_ret
      exact ⟨by first | rfl | (simp [errW_none, errW_some] <;> rfl) | (simp [*, errW_none, errW_some] <;> rfl), by repeat (first | (with_reducible first | exact HB.out | apply below_alloc | apply pw_below_drewN | apply below_drew1) | exact HB.out)⟩
    ·
     rw [if_neg c13] at H
     have c13b0 : (t157 == 0) = false := beq_eq_false_iff_ne.mpr c13
     have c13b1 : (t157 != 0) = true := bne_iff_ne.mpr c13
     replace H := Option.bind_eq_some_iff.mp H
     obtain ⟨t160, A170, H⟩ := H
     replace H : ((plenumref01_size.f t156).bind fun t161 => ((plenumref01_product.f t160 t161).bind fun bt162 => ((plenumref01_size.f t157).bind fun t164 => ((plenumref01_rounded.f kj6 (((decide (t155 < 0)) != (decide (t156 < 0))) != (decide (t157 < 0))) bt162.1 bt162.2 t164).bind fun t165 => (some t165))))) = some r := H
     have A17 := Aside0.mk A170
     clear A170
     replace H := Option.bind_eq_some_iff.mp H
     obtain ⟨t161, A180, H⟩ := H
     replace H : ((plenumref01_product.f t160 t161).bind fun bt162 => ((plenumref01_size.f t157).bind fun t164 => ((plenumref01_rounded.f kj6 (((decide (t155 < 0)) != (decide (t156 < 0))) != (decide (t157 < 0))) bt162.1 bt162.2 t164).bind fun t165 => (some t165)))) = some r := H
     have A18 := Aside0.mk A180
     clear A180
     replace H := Option.bind_eq_some_iff.mp H
     obtain ⟨⟨t162, t163⟩, A190, H⟩ := H
     replace H : ((plenumref01_size.f t157).bind fun t164 => ((plenumref01_rounded.f kj6 (((decide (t155 < 0)) != (decide (t156 < 0))) != (decide (t157 < 0))) t162 t163 t164).bind fun t165 => (some t165))) = some r := H
     have A19 := Aside0.mk A190
     clear A190
     replace H := Option.bind_eq_some_iff.mp H
     obtain ⟨t164, A200, H⟩ := H
     replace H : ((plenumref01_rounded.f kj6 (((decide (t155 < 0)) != (decide (t156 < 0))) != (decide (t157 < 0))) t162 t163 t164).bind fun t165 => (some t165)) = some r := H
     have A20 := Aside0.mk A200
     clear A200
     replace H := Option.bind_eq_some_iff.mp H
     obtain ⟨t165, A210, H⟩ := H
     replace H : (some t165) = some r := H
     have A21 := Aside0.mk A210
     clear A210
     obtain rfl := Option.some.inj H
     go_wp2_with (first | ((with_reducible refine gate_callee (f := 49) rfl ?_); refine goesL_ (some 35) rfl rfl Tryd.func49 (by kernel_rfl) rfl #[.int .i64 t155] rfl (by (try simp only [List.map_toArray, List.map_cons, List.map_nil]); first | done | rfl | (simp only [List.length_drop, List.length_take]; rfl)) ?_; (with_reducible refine (plenumref01_size.calls t155 t160 _ A17.out).mono ?_); rintro e w' ⟨rfl, ⟨nd, rfl⟩⟩; refine ⟨_, rfl, ?_⟩) | ((with_reducible refine gate_callee (f := 49) rfl ?_); refine goesL_ (some 37) rfl rfl Tryd.func49 (by kernel_rfl) rfl #[.int .i64 t156] rfl (by (try simp only [List.map_toArray, List.map_cons, List.map_nil]); first | done | rfl | (simp only [List.length_drop, List.length_take]; rfl)) ?_; (with_reducible refine (plenumref01_size.calls t156 t161 _ A18.out).mono ?_); rintro e w' ⟨rfl, ⟨nd, rfl⟩⟩; refine ⟨_, rfl, ?_⟩) | ((with_reducible refine gate_callee (f := 48) rfl ?_); refine goesL_ (some 38) rfl rfl Tryd.func48 (by kernel_rfl) rfl #[.int .u64 t160, .int .u64 t161] rfl (by (try simp only [List.map_toArray, List.map_cons, List.map_nil]); first | done | rfl | (simp only [List.length_drop, List.length_take]; rfl)) ?_; (with_reducible refine (plenumref01_product.calls t160 t161 t162 t163 _ A19.out).mono ?_); rintro e w22 ⟨rfl, hb⟩; refine ⟨_, rfl, ?_⟩; have n0_ := Aside0.mk (below_step (by repeat (first | (with_reducible first | exact HB.out | apply below_alloc | apply pw_below_drewN | apply below_drew1) | exact HB.out)) hb); clear HB; have HB := n0_; clear n0_; (try clear hb); (try clear hb2); (try clear hk); (try clear hi)) | ((with_reducible refine gate_callee (f := 49) rfl ?_); refine goesL_ (some 40) rfl rfl Tryd.func49 (by kernel_rfl) rfl #[.int .i64 t157] rfl (by (try simp only [List.map_toArray, List.map_cons, List.map_nil]); first | done | rfl | (simp only [List.length_drop, List.length_take]; rfl)) ?_; (with_reducible refine (plenumref01_size.calls t157 t164 _ A20.out).mono ?_); rintro e w' ⟨rfl, ⟨nd, rfl⟩⟩; refine ⟨_, rfl, ?_⟩) | ((with_reducible refine gate_callee (f := 47) rfl ?_); refine goesL_ (some 41) rfl rfl Tryd.func47 (by kernel_rfl) rfl #[.bool (((decide (t155 < 0)) != (decide (t156 < 0))) != (decide (t157 < 0))), .agg #[.int .u64 t162, .int .u64 t163], .int .u64 t164] rfl (by (try simp only [List.map_toArray, List.map_cons, List.map_nil]); first | done | rfl | (simp only [List.length_drop, List.length_take]; rfl)) ?_; (with_reducible refine (plenumref01_rounded.calls kj6 (((decide (t155 < 0)) != (decide (t156 < 0))) != (decide (t157 < 0))) t162 t163 t164 t165 _ A21.out).mono ?_); rintro e w23 ⟨rfl, hb⟩; refine ⟨_, rfl, ?_⟩; have n0_ := Aside0.mk (below_step (by repeat (first | (with_reducible first | exact HB.out | apply below_alloc | apply pw_below_drewN | apply below_drew1) | exact HB.out)) hb); clear HB; have HB := n0_; clear n0_; (try clear hb); (try clear hb2); (try clear hk); (try clear hi)))
     go_ret
     exact ⟨by first | rfl | (simp [errW_none, errW_some] <;> rfl) | (simp [*, errW_none, errW_some] <;> rfl), by repeat (first | (with_reducible first | exact HB.out | apply below_alloc | apply pw_below_drewN | apply below_drew1) | exact HB.out)⟩
end Go.Proofs.YtbfcplnaafnlhaaDoor.PT
