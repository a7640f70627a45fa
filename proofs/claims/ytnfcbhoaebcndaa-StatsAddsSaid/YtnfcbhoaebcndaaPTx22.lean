-- Laid by hp.py (a program of this session's) through the kit's printer. (squeezed)
import Derived.Test.YtnfcbhoaebcndaaPTx0
import Derived.Test.YtnfcbhoaebcndaaPTx20
namespace Go.Proofs.Ytnfcbhoaebcndaa.PT
open Go.RowKit Go.Proofs.YtnfcbhoaebcndaaW.PrintWords Go.Proofs.YtnfcbhoaebcndaaW.PrintLast Go.Proofs.YtnfcbhoaebcndaaW.PrintMore
attribute [local go_sem] max2_int min2_int max_two min_two max_three min_three max_four min_four   -- for this text's walks alone
set_option linter.unusedVariables false
set_option linter.unusedSimpArgs false
/-! ### plenumref44_Span: function 17 -/
def plenumref44_Span.j0 : Nat → Int → Int → Bool → Option (Int)
 | 0, _, _, _ => none
 | k + 1, x0, x1, x17 => if x17 = true then (some 1) else (if (wrap64 (x1 - x0)) > 8640000 then (some 7) else (some 0))
def plenumref44_Span.f (k : Nat) (a0 : Int) (a1 : Int) : Option (Int) := (plenumref44_instant.f a0).bind fun t186 => (if t186 = true then ((plenumref44_instant.f a1).bind fun t187 => (if t187 = true then (plenumref44_Span.j0 k a0 a1 (decide (a0 ≥ a1))) else (plenumref44_Span.j0 k a0 a1 true))) else (plenumref44_Span.j0 k a0 a1 true))
theorem plenumref44_Span.mono_l : ∀ k, (∀ y0 y1 y2, LeO (plenumref44_Span.j0 k y0 y1 y2) (plenumref44_Span.j0 (k + 1) y0 y1 y2))
 | 0 => fun _ _ _ r h => by simp [plenumref44_Span.j0] at h
 | k + 1 => by
  have ih0 := plenumref44_Span.mono_l k
  ·
   intro y0 y1 y2
   unfold plenumref44_Span.j0
   repeat' first
   | (with_reducible exact ih0 _ _ _)
   | (with_reducible exact LeO.refl _)
   | (with_reducible exact LeO.none _)
   | (with_reducible refine LeO.ite ?_ ?_)
   | (with_reducible refine LeO.bind ?_ (fun _ => ?_))
   | exact ih0 _ _ _
   | exact LeO.none _
   | refine LeO.ite ?_ ?_
   | refine LeO.bind ?_ (fun _ => ?_)
theorem plenumref44_Span.mono : ∀ a0 a1 k, LeO (plenumref44_Span.f k a0 a1) (plenumref44_Span.f (k + 1) a0 a1) := by
 intro a0 a1 k
 have ih0 := plenumref44_Span.mono_l k
 unfold plenumref44_Span.f
 repeat' first
  | (with_reducible exact ih0 _ _ _)
  | (with_reducible exact LeO.refl _)
  | (with_reducible exact LeO.none _)
  | (with_reducible refine LeO.ite ?_ ?_)
  | (with_reducible refine LeO.bind ?_ (fun _ => ?_))
  | exact ih0 _ _ _
  | exact LeO.none _
  | refine LeO.ite ?_ ?_
  | refine LeO.bind ?_ (fun _ => ?_)
set_option maxHeartbeats 8000000 in
set_option maxRecDepth 100000 in
theorem plenumref44_Span.calls (k : Nat) (a0 : Int) (a1 : Int) (r : Int) (w : World) (h : plenumref44_Span.f k a0 a1 = some r) :
 Calls Try.prog 17 #[.int .i64 a0, .int .i64 a1] w fun e w' => e = .returned (.int .i64 r) ∧ Drawn0 w w' := by
 have H : ((plenumref44_instant.f a0).bind fun t186 => (if t186 = true then ((plenumref44_instant.f a1).bind fun t187 => (if t187 = true then (plenumref44_Span.j0 k a0 a1 (decide (a0 ≥ a1))) else (plenumref44_Span.j0 k a0 a1 true))) else (plenumref44_Span.j0 k a0 a1 true))) = some r := h
 clear h
 have HC3 := Aside0.mk H
 clear H
 go_enter Try.func17, Try.ntmps17
 go_upto_region 1 with (fail)
 go_cut [17] (fun v17 wc => ∃ (kq : Nat) (x17_2 : Bool), v17 = .bool x17_2 ∧ Aside0 (plenumref44_Span.j0 kq a0 a1 x17_2 = some r) ∧ Aside0 (kq ≤ k) ∧ Drawn0 w wc)
 case first =>
  have H := HC3.out
  clear HC3
  replace H := Option.bind_eq_some_iff.mp H
  obtain ⟨t186, A40, H⟩ := H
  replace H : (if t186 = true then ((plenumref44_instant.f a1).bind fun t187 => (if t187 = true then (plenumref44_Span.j0 k a0 a1 (decide (a0 ≥ a1))) else (plenumref44_Span.j0 k a0 a1 true))) else (plenumref44_Span.j0 k a0 a1 true)) = some r := H
  have A4 := Aside0.mk A40
  clear A40
  by_cases c5 : t186 = true
  ·
   subst c5
   have H1 : ((plenumref44_instant.f a1).bind fun t187 => (if t187 = true then (plenumref44_Span.j0 k a0 a1 (decide (a0 ≥ a1))) else (plenumref44_Span.j0 k a0 a1 true))) = some r := by rw [if_pos rfl] at H; exact H
   clear H
   have H := H1
   clear H1
   replace H := Option.bind_eq_some_iff.mp H
   obtain ⟨t187, A60, H⟩ := H
   replace H : (if t187 = true then (plenumref44_Span.j0 k a0 a1 (decide (a0 ≥ a1))) else (plenumref44_Span.j0 k a0 a1 true)) = some r := H
   have A6 := Aside0.mk A60
   clear A60
   by_cases c7 : t187 = true
   ·
    subst c7
    have H1 : (plenumref44_Span.j0 k a0 a1 (decide (a0 ≥ a1))) = some r := by rw [if_pos rfl] at H; exact H
    clear H
    have H := H1
    clear H1
    have H' := Aside0.mk H
    clear H
    go_wp2_with (first | ((with_reducible refine gate_callee (f := 44) rfl ?_); refine goesL_ (some 6) rfl rfl Try.func44 (by kernel_rfl) rfl #[.int .i64 a0] rfl (by (try simp only [List.map_toArray, List.map_cons, List.map_nil]); first | done | rfl | (simp only [List.length_drop, List.length_take]; rfl)) ?_; (with_reducible refine (plenumref44_instant.calls a0 true _ A4.out).mono ?_); rintro e w' ⟨rfl, ⟨nd, rfl⟩⟩; refine ⟨_, rfl, ?_⟩) | (go_at_call 44; (with_reducible refine (plenumref44_instant.calls a1 true _ A6.out).mono ?_); rintro e w' ⟨rfl, ⟨nd, rfl⟩⟩))
    go_meet
    case rel => exact ⟨_, (decide (a0 ≥ a1)), (by first | rfl | (simp; done) | (simp [*]; done)), H', ⟨by first | omega | exact Nat.le_refl _⟩, by repeat (first | exact Drawn0.refl _ | apply Drawn0.step)⟩
   ·
    replace c7 := Bool.eq_false_iff.mpr c7
    subst c7
    have H1 : (plenumref44_Span.j0 k a0 a1 true) = some r := by rw [if_neg (show ¬ (false = true) by decide)] at H; exact H
    clear H
    have H := H1
    clear H1
    have H' := Aside0.mk H
    clear H
    go_wp2_with (first | ((with_reducible refine gate_callee (f := 44) rfl ?_); refine goesL_ (some 6) rfl rfl Try.func44 (by kernel_rfl) rfl #[.int .i64 a0] rfl (by (try simp only [List.map_toArray, List.map_cons, List.map_nil]); first | done | rfl | (simp only [List.length_drop, List.length_take]; rfl)) ?_; (with_reducible refine (plenumref44_instant.calls a0 true _ A4.out).mono ?_); rintro e w' ⟨rfl, ⟨nd, rfl⟩⟩; refine ⟨_, rfl, ?_⟩) | (go_at_call 44; (with_reducible refine (plenumref44_instant.calls a1 false _ A6.out).mono ?_); rintro e w' ⟨rfl, ⟨nd, rfl⟩⟩))
    go_meet
    case rel => exact ⟨_, (true), (by first | rfl | (simp; done) | (simp [*]; done)), H', ⟨by first | omega | exact Nat.le_refl _⟩, by repeat (first | exact Drawn0.refl _ | apply Drawn0.step)⟩
  ·
   replace c5 := Bool.eq_false_iff.mpr c5
   subst c5
   have H1 : (plenumref44_Span.j0 k a0 a1 true) = some r := by rw [if_neg (show ¬ (false = true) by decide)] at H; exact H
   clear H
   have H := H1
   clear H1
   have H' := Aside0.mk H
   clear H
   go_wp2_with (first | ((with_reducible refine gate_callee (f := 44) rfl ?_); refine goesL_ (some 6) rfl rfl Try.func44 (by kernel_rfl) rfl #[.int .i64 a0] rfl (by (try simp only [List.map_toArray, List.map_cons, List.map_nil]); first | done | rfl | (simp only [List.length_drop, List.length_take]; rfl)) ?_; (with_reducible refine (plenumref44_instant.calls a0 false _ A4.out).mono ?_); rintro e w' ⟨rfl, ⟨nd, rfl⟩⟩; refine ⟨_, rfl, ?_⟩))
   go_meet
   case rel => exact ⟨_, (true), (by first | rfl | (simp; done) | (simp [*]; done)), H', ⟨by first | omega | exact Nat.le_refl _⟩, by repeat (first | exact Drawn0.refl _ | apply Drawn0.step)⟩
 case rest =>
  clear HC3
  try clear c1
  try clear p2
  try clear c4
  try clear c5
  try clear c7
  obtain ⟨kq, x17_2, rfl, HA, HJ2, ⟨mc2, rfl⟩⟩ := hcut
  cases kq with
  | zero => exact absurd HA.out (by simp [plenumref44_Span.j0])
  | succ kj2 =>
   have H := HA.out
   clear HA
   simp only [plenumref44_Span.j0] at H
   by_cases c8 : x17_2 = true
   ·
    subst c8
    have H1 : (some 1) = some r := by rw [if_pos rfl] at H; exact H
    clear H
    have H := H1
    clear H1
    obtain rfl := Option.some.inj H
    go_wp2
    go_ret
    exact ⟨by first | rfl | (simp; done) | (simp [*]; done), by repeat (first | exact Drawn0.refl _ | apply Drawn0.step)⟩
   ·
    replace c8 := Bool.eq_false_iff.mpr c8
    subst c8
    have H1 : (if (wrap64 (a1 - a0)) > 8640000 then (some 7) else (some 0)) = some r := by rw [if_neg (show ¬ (false = true) by decide)] at H; exact H
    clear H
    have H := H1
    clear H1
    by_cases c9 : (wrap64 (a1 - a0)) > 8640000
    ·
     rw [if_pos c9] at H
     have c9b0 : decide (8640000 < (wrap64 (a1 - a0))) = true := decide_eq_true c9
     clear c9
     obtain rfl := Option.some.inj H
     go_wp2
     go_ret
     exact ⟨by first | rfl | (simp; done) | (simp [*]; done), by repeat (first | exact Drawn0.refl _ | apply Drawn0.step)⟩
    ·
     rw [if_neg c9] at H
     have c9b0 : decide (8640000 < (wrap64 (a1 - a0))) = false := decide_eq_false c9
     clear c9
     obtain rfl := Option.some.inj H
     go_wp2
     go_ret
     exact ⟨by first | rfl | (simp; done) | (simp [*]; done), by repeat (first | exact Drawn0.refl _ | apply Drawn0.step)⟩
end Go.Proofs.Ytnfcbhoaebcndaa.PT
