-- Laid by hp.py (a program of this session's) through the kit's printer. (squeezed)
import Derived.Test.YtacheoimnckghaaPTx0
import Derived.Test.YtacheoimnckghaaPTx7
import Derived.Test.YtacheoimnckghaaPTx15
namespace Go.Proofs.Ytacheoimnckghaa.PT
open Go.RowKit Go.Proofs.YtacheoimnckghaaW.PrintWords Go.Proofs.YtacheoimnckghaaW.PrintLast Go.Proofs.YtacheoimnckghaaW.PrintMore
attribute [local go_sem] max2_int min2_int max_two min_two max_three min_three max_four min_four   -- for this text's walks alone
set_option linter.unusedVariables false
set_option linter.unusedSimpArgs false
/-! ### curve_divide: function 33 -/
def curve_divide.j0 : Nat → Int → Int → Int → Bool → Option (Int × Int)
 | 0, _, _, _, _ => none
 | k + 1, x2, x10, x11, x40 => if x40 = true then (some (wrap64 (x10), wrap64 (x11))) else (if x11 = 0 then (some (wrap64 (-(wrap64 (x10))), 0)) else (some (wrap64 ((wrap64 (-(wrap64 (x10)))) - 1), wrap64 (x2 - (wrap64 (x11))))))
def curve_divide.f (k : Nat) (a0 : Int) (a1 : Int) (a2 : Int) : Option (Int × Int) := (curve_size.f a0).bind fun t144 => ((curve_size.f a1).bind fun t145 => ((bits_Mul64.f t144 t145).bind fun bt146 => ((bits_Div64.f k bt146.1 bt146.2 (IntKind.u64.wrap (a2))).bind fun bt148 => (if ((decide (a0 < 0)) == (decide (a1 < 0))) = true then (curve_divide.j0 k a2 bt148.1 bt148.2 true) else (if bt148.1 = 0 then (curve_divide.j0 k a2 bt148.1 bt148.2 (bt148.2 == 0)) else (curve_divide.j0 k a2 bt148.1 bt148.2 false))))))
theorem curve_divide.mono_l : ∀ k, (∀ y0 y1 y2 y3, LeO (curve_divide.j0 k y0 y1 y2 y3) (curve_divide.j0 (k + 1) y0 y1 y2 y3))
 | 0 => fun _ _ _ _ r h => by simp [curve_divide.j0] at h
 | k + 1 => by
  have ih0 := curve_divide.mono_l k
  ·
   intro y0 y1 y2 y3
   unfold curve_divide.j0
   repeat' first
   | (with_reducible exact ih0 _ _ _ _)
   | (with_reducible exact bits_Div64.mono _ _ _ _)
   | (with_reducible exact LeO.refl _)
   | (with_reducible exact LeO.none _)
   | (with_reducible refine LeO.ite ?_ ?_)
   | (with_reducible refine LeO.bind ?_ (fun _ => ?_))
   | exact ih0 _ _ _ _
   | exact bits_Div64.mono _ _ _ _
   | exact LeO.none _
   | refine LeO.ite ?_ ?_
   | refine LeO.bind ?_ (fun _ => ?_)
theorem curve_divide.mono : ∀ a0 a1 a2 k, LeO (curve_divide.f k a0 a1 a2) (curve_divide.f (k + 1) a0 a1 a2) := by
 intro a0 a1 a2 k
 have ih0 := curve_divide.mono_l k
 unfold curve_divide.f
 repeat' first
  | (with_reducible exact ih0 _ _ _ _)
  | (with_reducible exact bits_Div64.mono _ _ _ _)
  | (with_reducible exact LeO.refl _)
  | (with_reducible exact LeO.none _)
  | (with_reducible refine LeO.ite ?_ ?_)
  | (with_reducible refine LeO.bind ?_ (fun _ => ?_))
  | exact ih0 _ _ _ _
  | exact bits_Div64.mono _ _ _ _
  | exact LeO.none _
  | refine LeO.ite ?_ ?_
  | refine LeO.bind ?_ (fun _ => ?_)
set_option maxHeartbeats 8000000 in
set_option maxRecDepth 100000 in
theorem curve_divide.calls (k : Nat) (a0 : Int) (a1 : Int) (a2 : Int) (r1 : Int) (r2 : Int) (w : World) (h : curve_divide.f k a0 a1 a2 = some (r1, r2)) :
 Calls Try.prog 33 #[.int .i64 a0, .int .i64 a1, .int .i64 a2] w fun e w' => e = .returned (.tuple #[.int .i64 r1, .int .i64 r2]) ∧ Drawn0 w w' := by
 have H : ((curve_size.f a0).bind fun t144 => ((curve_size.f a1).bind fun t145 => ((bits_Mul64.f t144 t145).bind fun bt146 => ((bits_Div64.f k bt146.1 bt146.2 (IntKind.u64.wrap (a2))).bind fun bt148 => (if ((decide (a0 < 0)) == (decide (a1 < 0))) = true then (curve_divide.j0 k a2 bt148.1 bt148.2 true) else (if bt148.1 = 0 then (curve_divide.j0 k a2 bt148.1 bt148.2 (bt148.2 == 0)) else (curve_divide.j0 k a2 bt148.1 bt148.2 false))))))) = some (r1, r2) := h
 clear h
 replace H := Option.bind_eq_some_iff.mp H
 obtain ⟨t144, A40, H⟩ := H
 replace H : ((curve_size.f a1).bind fun t145 => ((bits_Mul64.f t144 t145).bind fun bt146 => ((bits_Div64.f k bt146.1 bt146.2 (IntKind.u64.wrap (a2))).bind fun bt148 => (if ((decide (a0 < 0)) == (decide (a1 < 0))) = true then (curve_divide.j0 k a2 bt148.1 bt148.2 true) else (if bt148.1 = 0 then (curve_divide.j0 k a2 bt148.1 bt148.2 (bt148.2 == 0)) else (curve_divide.j0 k a2 bt148.1 bt148.2 false)))))) = some (r1, r2) := H
 have A4 := Aside0.mk A40
 clear A40
 replace H := Option.bind_eq_some_iff.mp H
 obtain ⟨t145, A50, H⟩ := H
 replace H : ((bits_Mul64.f t144 t145).bind fun bt146 => ((bits_Div64.f k bt146.1 bt146.2 (IntKind.u64.wrap (a2))).bind fun bt148 => (if ((decide (a0 < 0)) == (decide (a1 < 0))) = true then (curve_divide.j0 k a2 bt148.1 bt148.2 true) else (if bt148.1 = 0 then (curve_divide.j0 k a2 bt148.1 bt148.2 (bt148.2 == 0)) else (curve_divide.j0 k a2 bt148.1 bt148.2 false))))) = some (r1, r2) := H
 have A5 := Aside0.mk A50
 clear A50
 replace H := Option.bind_eq_some_iff.mp H
 obtain ⟨⟨t146, t147⟩, A60, H⟩ := H
 replace H : ((bits_Div64.f k t146 t147 (IntKind.u64.wrap (a2))).bind fun bt148 => (if ((decide (a0 < 0)) == (decide (a1 < 0))) = true then (curve_divide.j0 k a2 bt148.1 bt148.2 true) else (if bt148.1 = 0 then (curve_divide.j0 k a2 bt148.1 bt148.2 (bt148.2 == 0)) else (curve_divide.j0 k a2 bt148.1 bt148.2 false)))) = some (r1, r2) := H
 have A6 := Aside0.mk A60
 clear A60
 replace H := Option.bind_eq_some_iff.mp H
 obtain ⟨⟨t148, t149⟩, A70, H⟩ := H
 replace H : (if ((decide (a0 < 0)) == (decide (a1 < 0))) = true then (curve_divide.j0 k a2 t148 t149 true) else (if t148 = 0 then (curve_divide.j0 k a2 t148 t149 (t149 == 0)) else (curve_divide.j0 k a2 t148 t149 false))) = some (r1, r2) := H
 have A7 := Aside0.mk A70
 clear A70
 have HC8 := Aside0.mk H
 clear H
 go_enter Try.func33, Try.ntmps33
 go_upto_region 3 with (first | ((with_reducible refine gate_callee (f := 46) rfl ?_); refine goesL_ (some 14) rfl rfl Try.func46 (by kernel_rfl) rfl #[.int .i64 a0] rfl (by (try simp only [List.map_toArray, List.map_cons, List.map_nil]); first | done | rfl | (simp only [List.length_drop, List.length_take]; rfl)) ?_; (with_reducible refine (curve_size.calls a0 t144 _ A4.out).mono ?_); rintro e w' ⟨rfl, ⟨nd, rfl⟩⟩; refine ⟨_, rfl, ?_⟩) | ((with_reducible refine gate_callee (f := 46) rfl ?_); refine goesL_ (some 16) rfl rfl Try.func46 (by kernel_rfl) rfl #[.int .i64 a1] rfl (by (try simp only [List.map_toArray, List.map_cons, List.map_nil]); first | done | rfl | (simp only [List.length_drop, List.length_take]; rfl)) ?_; (with_reducible refine (curve_size.calls a1 t145 _ A5.out).mono ?_); rintro e w' ⟨rfl, ⟨nd, rfl⟩⟩; refine ⟨_, rfl, ?_⟩) | ((with_reducible refine gate_callee (f := 45) rfl ?_); refine goesL_ (some 17) rfl rfl Try.func45 (by kernel_rfl) rfl #[.int .u64 t144, .int .u64 t145] rfl (by (try simp only [List.map_toArray, List.map_cons, List.map_nil]); first | done | rfl | (simp only [List.length_drop, List.length_take]; rfl)) ?_; (with_reducible refine (bits_Mul64.calls t144 t145 t146 t147 _ A6.out).mono ?_); rintro e w' ⟨rfl, ⟨nd, rfl⟩⟩; refine ⟨_, rfl, ?_⟩) | ((with_reducible refine gate_callee (f := 47) rfl ?_); refine goesL_ (some 25) rfl rfl Try.func47 (by kernel_rfl) rfl #[.int .u64 t146, .int .u64 t147, .int .u64 (IntKind.u64.wrap (a2))] rfl (by (try simp only [List.map_toArray, List.map_cons, List.map_nil]); first | done | rfl | (simp only [List.length_drop, List.length_take]; rfl)) ?_; (with_reducible refine (bits_Div64.calls k t146 t147 (IntKind.u64.wrap (a2)) t148 t149 _ A7.out).mono ?_); rintro e w' ⟨rfl, ⟨nd, rfl⟩⟩; refine ⟨_, rfl, ?_⟩))
 (try simp only [Act.put, List.setIfInBounds_toArray, List.set_cons_zero, List.set_cons_succ])
 go_cut [40] (fun v40 wc => ∃ (kq : Nat) (x40_7 : Bool), v40 = .bool x40_7 ∧ Aside0 (curve_divide.j0 kq a2 t148 t149 x40_7 = some (r1, r2)) ∧ Aside0 (kq ≤ k) ∧ Drawn0 w wc)
 case first =>
  have H := HC8.out
  clear HC8
  by_cases c9 : ((decide (a0 < 0)) == (decide (a1 < 0))) = true
  ·
   rw [if_pos c9] at H
   have c9b0 : ((decide (a0 < 0)) == (decide (a1 < 0))) = true := c9
   (try (have c9b1 : decide ((decide (a0 < 0)) = (decide (a1 < 0))) = true := by simpa using c9))
   (try (have c9b2 : ((decide (a0 < 0)) == (decide (a1 < 0))) = true := by simpa using c9))
   clear c9
   (first | rw [c9b0] | (simp only [i64_w, i32_w]; rw [c9b0]) | skip)
   have H' := Aside0.mk H
   clear H
   go_wp2
   go_meet
   case rel => exact ⟨_, (true), (by first | rfl | (simp; done) | (simp [*]; done)), H', ⟨by first | omega | exact Nat.le_refl _⟩, by repeat (first | exact Drawn0.refl _ | apply Drawn0.step)⟩
  ·
   rw [if_neg c9] at H
   have c9b0 : ((decide (a0 < 0)) == (decide (a1 < 0))) = false := by simpa using c9
   (try (have c9b1 : decide ((decide (a0 < 0)) = (decide (a1 < 0))) = false := by simpa using c9))
   (try (have c9b2 : ((decide (a0 < 0)) == (decide (a1 < 0))) = false := by simpa using c9))
   (try (have c9b3 : ¬ ((decide (a0 < 0)) = (decide (a1 < 0))) := by simpa using c9))
   clear c9
   (first | rw [c9b0] | (simp only [i64_w, i32_w]; rw [c9b0]) | skip)
   by_cases c10 : t148 = 0
   ·
    rw [if_pos c10] at H
    have c10b0 : (t148 == 0) = true := beq_iff_eq.mpr c10
    have c10b1 : (t148 != 0) = false := bne_eq_false_iff_eq.mpr c10
    clear c10
    have H' := Aside0.mk H
    clear H
    go_wp2
    go_meet
    case rel => exact ⟨_, ((t149 == 0)), (by first | rfl | (simp; done) | (simp [*]; done)), H', ⟨by first | omega | exact Nat.le_refl _⟩, by repeat (first | exact Drawn0.refl _ | apply Drawn0.step)⟩
   ·
    rw [if_neg c10] at H
    have c10b0 : (t148 == 0) = false := beq_eq_false_iff_ne.mpr c10
    have c10b1 : (t148 != 0) = true := bne_iff_ne.mpr c10
    have H' := Aside0.mk H
    clear H
    go_wp2
    go_meet
    case rel => exact ⟨_, (false), (by first | rfl | (simp; done) | (simp [*]; done)), H', ⟨by first | omega | exact Nat.le_refl _⟩, by repeat (first | exact Drawn0.refl _ | apply Drawn0.step)⟩
 case rest =>
  clear HC8
  try clear c1
  try clear p2
  try clear c3
  try clear c4
  try clear c9
  try clear c9b0
  try clear c9b1
  try clear c9b2
  try clear c10
  try clear c10b0
  try clear c10b1
  obtain ⟨kq, x40_7, rfl, HA, HJ7, ⟨mc7, rfl⟩⟩ := hcut
  cases kq with
  | zero => exact absurd HA.out (by simp [curve_divide.j0])
  | succ kj7 =>
   have H := HA.out
   clear HA
   simp only [curve_divide.j0] at H
   by_cases c11 : x40_7 = true
   ·
    subst c11
    have H1 : (some (wrap64 (t148), wrap64 (t149))) = some (r1, r2) := by rw [if_pos rfl] at H; exact H
    clear H
    have H := H1
    clear H1
    simp only [Option.some.injEq, Prod.mk.injEq] at H
    obtain ⟨rfl, rfl⟩ := H
    go_wp2
    go_ret2
    exact ⟨by first | rfl | (simp; done) | (simp [*]; done), by repeat (first | exact Drawn0.refl _ | apply Drawn0.step)⟩
   ·
    replace c11 := Bool.eq_false_iff.mpr c11
    subst c11
    have H1 : (if t149 = 0 then (some (wrap64 (-(wrap64 (t148))), 0)) else (some (wrap64 ((wrap64 (-(wrap64 (t148)))) - 1), wrap64 (a2 - (wrap64 (t149)))))) = some (r1, r2) := by rw [if_neg (show ¬ (false = true) by decide)] at H; exact H
    clear H
    have H := H1
    clear H1
    by_cases c12 : t149 = 0
    ·
     rw [if_pos c12] at H
     have c12b0 : (t149 == 0) = true := beq_iff_eq.mpr c12
     have c12b1 : (t149 != 0) = false := bne_eq_false_iff_eq.mpr c12
     clear c12
     simp only [Option.some.injEq, Prod.mk.injEq] at H
     obtain ⟨rfl, rfl⟩ := H
     go_wp2
     go_ret2
     exact ⟨by first | rfl | (simp; done) | (simp [*]; done), by repeat (first | exact Drawn0.refl _ | apply Drawn0.step)⟩
    ·
     rw [if_neg c12] at H
     have c12b0 : (t149 == 0) = false := beq_eq_false_iff_ne.mpr c12
     have c12b1 : (t149 != 0) = true := bne_iff_ne.mpr c12
     simp only [Option.some.injEq, Prod.mk.injEq] at H
     obtain ⟨rfl, rfl⟩ := H
     go_wp2
     go_ret2
     exact ⟨by first | rfl | (simp; done) | (simp [*]; done), by repeat (first | exact Drawn0.refl _ | apply Drawn0.step)⟩
end Go.Proofs.Ytacheoimnckghaa.PT
