-- Laid by hp.py (a program of this session's) through the kit's printer. (squeezed)
import Derived.Test.YtnfcbhoaebcndaaPTx0
import Derived.Test.YtnfcbhoaebcndaaPTx40
import Derived.Test.YtnfcbhoaebcndaaPTx43
namespace Go.Proofs.Ytnfcbhoaebcndaa.PT
open Go.RowKit Go.Proofs.YtnfcbhoaebcndaaW.PrintWords Go.Proofs.YtnfcbhoaebcndaaW.PrintLast Go.Proofs.YtnfcbhoaebcndaaW.PrintMore
attribute [local go_sem] max2_int min2_int max_two min_two max_three min_three max_four min_four   -- for this text's walks alone
set_option linter.unusedVariables false
set_option linter.unusedSimpArgs false
/-! ### plenumref44_Mean: function 34 -/
def plenumref44_Mean.j0 : Nat → Int → Int → Int → Option (Int × Bool)
 | 0, _, _, _ => none
 | k + 1, x8, x9, x10 => (bits_Div64.f k 0 x10 (IntKind.u64.wrap (x9))).bind fun bt406 => (if (IntKind.u64.wrap (2 * bt406.2)) ≥ (IntKind.u64.wrap (x9)) then (if x8 < 0 then (some (wrap64 (-(wrap64 (IntKind.u64.wrap (bt406.1 + 1)))), true)) else (some (wrap64 (IntKind.u64.wrap (bt406.1 + 1)), true))) else (if x8 < 0 then (some (wrap64 (-(wrap64 (bt406.1))), true)) else (some (wrap64 (bt406.1), true))))
def plenumref44_Mean.f (k : Nat) (l0 : List (S57)) (a1 : Int) (a2 : Int) : Option (Int × Bool) := (plenumref44_Integral.f k l0 a1 a2).bind fun bt404 => (if bt404.2 = 0 then (some (0, false)) else (if bt404.1 < 0 then (plenumref44_Mean.j0 k bt404.1 bt404.2 (IntKind.u64.wrap (wrap64 (-bt404.1)))) else (plenumref44_Mean.j0 k bt404.1 bt404.2 (IntKind.u64.wrap (bt404.1)))))
theorem plenumref44_Mean.mono_l : ∀ k, (∀ y0 y1 y2, LeO (plenumref44_Mean.j0 k y0 y1 y2) (plenumref44_Mean.j0 (k + 1) y0 y1 y2))
 | 0 => fun _ _ _ r h => by simp [plenumref44_Mean.j0] at h
 | k + 1 => by
  have ih0 := plenumref44_Mean.mono_l k
  ·
   intro y0 y1 y2
   unfold plenumref44_Mean.j0
   repeat' first
   | (with_reducible exact ih0 _ _ _)
   | (with_reducible exact bits_Div64.mono _ _ _ _)
   | (with_reducible exact plenumref44_Integral.mono _ _ _ _)
   | (with_reducible exact LeO.refl _)
   | (with_reducible exact LeO.none _)
   | (with_reducible refine LeO.ite ?_ ?_)
   | (with_reducible refine LeO.bind ?_ (fun _ => ?_))
   | exact ih0 _ _ _
   | exact bits_Div64.mono _ _ _ _
   | exact plenumref44_Integral.mono _ _ _ _
   | exact LeO.none _
   | refine LeO.ite ?_ ?_
   | refine LeO.bind ?_ (fun _ => ?_)
theorem plenumref44_Mean.mono : ∀ a0 a1 a2 k, LeO (plenumref44_Mean.f k a0 a1 a2) (plenumref44_Mean.f (k + 1) a0 a1 a2) := by
 intro a0 a1 a2 k
 have ih0 := plenumref44_Mean.mono_l k
 unfold plenumref44_Mean.f
 repeat' first
  | (with_reducible exact ih0 _ _ _)
  | (with_reducible exact bits_Div64.mono _ _ _ _)
  | (with_reducible exact plenumref44_Integral.mono _ _ _ _)
  | (with_reducible exact LeO.refl _)
  | (with_reducible exact LeO.none _)
  | (with_reducible refine LeO.ite ?_ ?_)
  | (with_reducible refine LeO.bind ?_ (fun _ => ?_))
  | exact ih0 _ _ _
  | exact bits_Div64.mono _ _ _ _
  | exact plenumref44_Integral.mono _ _ _ _
  | exact LeO.none _
  | refine LeO.ite ?_ ?_
  | refine LeO.bind ?_ (fun _ => ?_)
set_option maxHeartbeats 8000000 in
set_option maxRecDepth 100000 in
theorem plenumref44_Mean.calls (k : Nat) (A0 : Option Addr) (c0 : Nat) (l0 : List (S57)) (a1 : Int) (a2 : Int) (r1 : Int) (r2 : Bool) (w : World) (hr0 : Kd.C k57 w A0 l0.length l0) (hc0 : l0.length ≤ c0) (h : plenumref44_Mean.f k l0 a1 a2 = some (r1, r2)) :
 Calls Try.prog 34 #[.slice A0 l0.length c0, .int .i64 a1, .int .i64 a2] w fun e w' => e = .returned (.tuple #[.int .i64 r1, .bool r2]) ∧ Below w.heap.size w w' := by
 have HR0 := Aside0.mk hr0
 have HC0 := Aside0.mk hc0
 clear hr0 hc0
 have HB := Aside0.mk (Below.refl w.heap.size w)
 have H : ((plenumref44_Integral.f k l0 a1 a2).bind fun bt404 => (if bt404.2 = 0 then (some (0, false)) else (if bt404.1 < 0 then (plenumref44_Mean.j0 k bt404.1 bt404.2 (IntKind.u64.wrap (wrap64 (-bt404.1)))) else (plenumref44_Mean.j0 k bt404.1 bt404.2 (IntKind.u64.wrap (bt404.1)))))) = some (r1, r2) := h
 clear h
 replace H := Option.bind_eq_some_iff.mp H
 obtain ⟨⟨t404, t405⟩, A40, H⟩ := H
 replace H : (if t405 = 0 then (some (0, false)) else (if t404 < 0 then (plenumref44_Mean.j0 k t404 t405 (IntKind.u64.wrap (wrap64 (-t404)))) else (plenumref44_Mean.j0 k t404 t405 (IntKind.u64.wrap (t404))))) = some (r1, r2) := H
 have A4 := Aside0.mk A40
 clear A40
 by_cases c5 : t405 = 0
 ·
  rw [if_pos c5] at H
  have c5b0 : (t405 == 0) = true := beq_iff_eq.mpr c5
  have c5b1 : (t405 != 0) = false := bne_eq_false_iff_eq.mpr c5
  clear c5
  simp only [Option.some.injEq, Prod.mk.injEq] at H
  obtain ⟨rfl, rfl⟩ := H
  go_enter Try.func34, Try.ntmps34
  go_wp2_with (first | ((with_reducible refine gate_callee (f := 33) rfl ?_); refine goesL_ (some 17) rfl rfl Try.func33 (by kernel_rfl) rfl #[.slice A0 l0.length c0, .int .i64 a1, .int .i64 a2] rfl (by (try simp only [List.map_toArray, List.map_cons, List.map_nil]); first | done | rfl | (simp only [List.length_drop, List.length_take]; rfl)) ?_; (with_reducible refine (plenumref44_Integral.calls k _ _ l0 a1 a2 t404 t405 _ ?side1 ?side2 A4.out).mono ?_); (case side1 => repeat (first | exact HR0.out | (with_reducible refine Kd.C_alloc ?_ _) | (with_reducible refine Kd.C_drewN ?_ _) | (with_reducible refine Kd.C_drew ?_))); (case side2 => exact HC0.out); rintro e w6 ⟨rfl, hb⟩; refine ⟨_, rfl, ?_⟩; have n0_ := Aside0.mk (below_step (by repeat (first | (with_reducible first | exact HB.out | apply below_alloc | apply pw_below_drewN | apply below_drew1) | exact HB.out)) hb); clear HB; have HB := n0_; clear n0_; (try clear hb); (try clear hb2); (try clear hk); (try clear hi)))
  go_ret2
  exact ⟨by first | rfl | (simp [errW_none, errW_some] <;> rfl) | (simp [*, errW_none, errW_some] <;> rfl), by repeat (first | (with_reducible first | exact HB.out | apply below_alloc | apply pw_below_drewN | apply below_drew1) | exact HB.out)⟩
 ·
  rw [if_neg c5] at H
  have c5b0 : (t405 == 0) = false := beq_eq_false_iff_ne.mpr c5
  have c5b1 : (t405 != 0) = true := bne_iff_ne.mpr c5
  have HC7 := Aside0.mk H
  clear H
  go_enter Try.func34, Try.ntmps34
  go_upto_if 25 with (first | ((with_reducible refine gate_callee (f := 33) rfl ?_); refine goesL_ (some 17) rfl rfl Try.func33 (by kernel_rfl) rfl #[.slice A0 l0.length c0, .int .i64 a1, .int .i64 a2] rfl (by (try simp only [List.map_toArray, List.map_cons, List.map_nil]); first | done | rfl | (simp only [List.length_drop, List.length_take]; rfl)) ?_; (with_reducible refine (plenumref44_Integral.calls k _ _ l0 a1 a2 t404 t405 _ ?side1 ?side2 A4.out).mono ?_); (case side1 => repeat (first | exact HR0.out | (with_reducible refine Kd.C_alloc ?_ _) | (with_reducible refine Kd.C_drewN ?_ _) | (with_reducible refine Kd.C_drew ?_))); (case side2 => exact HC0.out); rintro e w8 ⟨rfl, hb⟩; refine ⟨_, rfl, ?_⟩; have n0_ := Aside0.mk (below_step (by repeat (first | (with_reducible first | exact HB.out | apply below_alloc | apply pw_below_drewN | apply below_drew1) | exact HB.out)) hb); clear HB; have HB := n0_; clear n0_; (try clear hb); (try clear hb2); (try clear hk); (try clear hi)))
  (try simp only [Act.put, List.setIfInBounds_toArray, List.set_cons_zero, List.set_cons_succ])
  go_cut [10] (fun v10 wc => ∃ (kq : Nat) (x10_6 : Int), v10 = .int .u64 x10_6 ∧ Aside0 (plenumref44_Mean.j0 kq t404 t405 x10_6 = some (r1, r2)) ∧ Aside0 (kq ≤ k) ∧ Aside0 (Below w.heap.size w wc))
  case first =>
   have H := HC7.out
   clear HC7
   by_cases c9 : t404 < 0
   ·
    rw [if_pos c9] at H
    have c9b0 : decide (t404 < 0) = true := decide_eq_true c9
    clear c9
    (first | rw [c9b0] | (simp only [i64_w, i32_w]; rw [c9b0]) | skip)
    have H' := Aside0.mk H
    clear H
    go_wp2
    go_meet
    case rel => exact ⟨_, (IntKind.u64.wrap (wrap64 (-t404))), (by first | rfl | (simp; done) | (simp [*]; done)), H', ⟨by first | omega | exact Nat.le_refl _⟩, ⟨by repeat (first | (with_reducible first | exact HB.out | apply below_alloc | apply pw_below_drewN | apply below_drew1) | exact HB.out)⟩⟩
   ·
    rw [if_neg c9] at H
    have c9b0 : decide (t404 < 0) = false := decide_eq_false c9
    clear c9
    (first | rw [c9b0] | (simp only [i64_w, i32_w]; rw [c9b0]) | skip)
    have H' := Aside0.mk H
    clear H
    go_wp2
    go_meet
    case rel => exact ⟨_, (IntKind.u64.wrap (t404)), (by first | rfl | (simp; done) | (simp [*]; done)), H', ⟨by first | omega | exact Nat.le_refl _⟩, ⟨by repeat (first | (with_reducible first | exact HB.out | apply below_alloc | apply pw_below_drewN | apply below_drew1) | exact HB.out)⟩⟩
  case rest =>
   clear HC7
   try clear p2
   try clear c3
   try clear c5
   try clear c5b0
   try clear c5b1
   try clear p6
   try clear c9
   try clear c9b0
   obtain ⟨kq, x10_6, rfl, HA, HJ6, HB⟩ := hcut
   cases kq with
   | zero => exact absurd HA.out (by simp [plenumref44_Mean.j0])
   | succ kj6 =>
    have H := HA.out
    clear HA
    simp only [plenumref44_Mean.j0] at H
    replace H := Option.bind_eq_some_iff.mp H
    obtain ⟨⟨t406, t407⟩, A100, H⟩ := H
    replace H : (if (IntKind.u64.wrap (2 * t407)) ≥ (IntKind.u64.wrap (t405)) then (if t404 < 0 then (some (wrap64 (-(wrap64 (IntKind.u64.wrap (t406 + 1)))), true)) else (some (wrap64 (IntKind.u64.wrap (t406 + 1)), true))) else (if t404 < 0 then (some (wrap64 (-(wrap64 (t406))), true)) else (some (wrap64 (t406), true)))) = some (r1, r2) := H
    have A10 := Aside0.mk A100
    clear A100
    by_cases c11 : (IntKind.u64.wrap (2 * t407)) ≥ (IntKind.u64.wrap (t405))
    ·
     rw [if_pos c11] at H
     have c11b0 : decide ((IntKind.u64.wrap (t405)) ≤ (IntKind.u64.wrap (2 * t407))) = true := decide_eq_true c11
     clear c11
     by_cases c12 : t404 < 0
     ·
      rw [if_pos c12] at H
      have c12b0 : decide (t404 < 0) = true := decide_eq_true c12
      clear c12
      simp only [Option.some.injEq, Prod.mk.injEq] at H
      obtain ⟨rfl, rfl⟩ := H
      go_wp2_with (first | ((with_reducible refine gate_callee (f := 53) rfl ?_); refine goesL_ (some 33) rfl rfl Try.func53 (by kernel_rfl) rfl #[.int .u64 0, .int .u64 x10_6, .int .u64 (IntKind.u64.wrap (t405))] rfl (by (try simp only [List.map_toArray, List.map_cons, List.map_nil]); first | done | rfl | (simp only [List.length_drop, List.length_take]; rfl)) ?_; (with_reducible refine (bits_Div64.calls kj6 0 x10_6 (IntKind.u64.wrap (t405)) t406 t407 _ A10.out).mono ?_); rintro e w' ⟨rfl, ⟨nd, rfl⟩⟩; refine ⟨_, rfl, ?_⟩))
      go_ret2
      exact ⟨by first | rfl | (simp [errW_none, errW_some] <;> rfl) | (simp [*, errW_none, errW_some] <;> rfl), by repeat (first | (with_reducible first | exact HB.out | apply below_alloc | apply pw_below_drewN | apply below_drew1) | exact HB.out)⟩
     ·
      rw [if_neg c12] at H
      have c12b0 : decide (t404 < 0) = false := decide_eq_false c12
      clear c12
      simp only [Option.some.injEq, Prod.mk.injEq] at H
      obtain ⟨rfl, rfl⟩ := H
      go_wp2_with (first | ((with_reducible refine gate_callee (f := 53) rfl ?_); refine goesL_ (some 33) rfl rfl Try.func53 (by kernel_rfl) rfl #[.int .u64 0, .int .u64 x10_6, .int .u64 (IntKind.u64.wrap (t405))] rfl (by (try simp only [List.map_toArray, List.map_cons, List.map_nil]); first | done | rfl | (simp only [List.length_drop, List.length_take]; rfl)) ?_; (with_reducible refine (bits_Div64.calls kj6 0 x10_6 (IntKind.u64.wrap (t405)) t406 t407 _ A10.out).mono ?_); rintro e w' ⟨rfl, ⟨nd, rfl⟩⟩; refine ⟨_, rfl, ?_⟩))
      go_ret2
      exact ⟨by first | rfl | (simp [errW_none, errW_some] <;> rfl) | (simp [*, errW_none, errW_some] <;> rfl), by repeat (first | (with_reducible first | exact HB.out | apply below_alloc | apply pw_below_drewN | apply below_drew1) | exact HB.out)⟩
    ·
     rw [if_neg c11] at H
     have c11b0 : decide ((IntKind.u64.wrap (t405)) ≤ (IntKind.u64.wrap (2 * t407))) = false := decide_eq_false c11
     clear c11
     by_cases c13 : t404 < 0
     ·
      rw [if_pos c13] at H
      have c13b0 : decide (t404 < 0) = true := decide_eq_true c13
      clear c13
      simp only [Option.some.injEq, Prod.mk.injEq] at H
      obtain ⟨rfl, rfl⟩ := H
      go_wp2_with (first | ((with_reducible refine gate_callee (f := 53) rfl ?_); refine goesL_ (some 33) rfl rfl Try.func53 (by kernel_rfl) rfl #[.int .u64 0, .int .u64 x10_6, .int .u64 (IntKind.u64.wrap (t405))] rfl (by (try simp only [List.map_toArray, List.map_cons, List.map_nil]); first | done | rfl | (simp only [List.length_drop, List.length_take]; rfl)) ?_; (with_reducible refine (bits_Div64.calls kj6 0 x10_6 (IntKind.u64.wrap (t405)) t406 t407 _ A10.out).mono ?_); rintro e w' ⟨rfl, ⟨nd, rfl⟩⟩; refine ⟨_, rfl, ?_⟩))
      go_ret2
      exact ⟨by first | rfl | (simp [errW_none, errW_some] <;> rfl) | (simp [*, errW_none, errW_some] <;> rfl), by repeat (first | (with_reducible first | exact HB.out | apply below_alloc | apply pw_below_drewN | apply below_drew1) | exact HB.out)⟩
     ·
      rw [if_neg c13] at H
      have c13b0 : decide (t404 < 0) = false := decide_eq_false c13
      clear c13
      simp only [Option.some.injEq, Prod.mk.injEq] at H
      obtain ⟨rfl, rfl⟩ := H
      go_wp2_with (first | ((with_reducible refine gate_callee (f := 53) rfl ?_); refine goesL_ (some 33) rfl rfl Try.func53 (by kernel_rfl) rfl #[.int .u64 0, .int .u64 x10_6, .int .u64 (IntKind.u64.wrap (t405))] rfl (by (try simp only [List.map_toArray, List.map_cons, List.map_nil]); first | done | rfl | (simp only [List.length_drop, List.length_take]; rfl)) ?_; (with_reducible refine (bits_Div64.calls kj6 0 x10_6 (IntKind.u64.wrap (t405)) t406 t407 _ A10.out).mono ?_); rintro e w' ⟨rfl, ⟨nd, rfl⟩⟩; refine ⟨_, rfl, ?_⟩))
      go_ret2
      exact ⟨by first | rfl | (simp [errW_none, errW_some] <;> rfl) | (simp [*, errW_none, errW_some] <;> rfl), by repeat (first | (with_reducible first | exact HB.out | apply below_alloc | apply pw_below_drewN | apply below_drew1) | exact HB.out)⟩
end Go.Proofs.Ytnfcbhoaebcndaa.PT
