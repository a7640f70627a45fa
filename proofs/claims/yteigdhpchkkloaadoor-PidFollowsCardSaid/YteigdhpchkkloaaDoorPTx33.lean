-- Laid by hp.py (a program of this session's) through the kit's printer. (squeezed)
import Derived.Test.YteigdhpchkkloaaDoorPTx0
import Derived.Test.YteigdhpchkkloaaDoorPTx31
namespace Go.Proofs.YteigdhpchkkloaaDoor.PT
open Go.RowKit Go.Proofs.YteigdhpchkkloaaDoorW.PrintWords Go.Proofs.YteigdhpchkkloaaDoorW.PrintLast Go.Proofs.YteigdhpchkkloaaDoorW.PrintMore
attribute [local go_sem] max2_int min2_int max_two min_two max_three min_three max_four min_four   -- for this text's walks alone
set_option linter.unusedVariables false
set_option linter.unusedSimpArgs false
/-! ### plenumref20_Settle: function 13 -/
def plenumref20_Settle.j0 : Nat → Int → Int → Option (Int × Int)
 | 0, _, _ => none
 | k + 1, x12, x13 => if x12 = 0 then (some (0, 0)) else (if x13 = 0 then (some (0, 9)) else (some (wrap64 (Int.tdiv (wrap64 ((wrap64 (x12 + x13)) - 1)) x13), 0)))
def plenumref20_Settle.f (k : Nat) (a0 : Int) (a1 : Int) (a2 : Int) (a3 : Int) (a4 : Int) : Option (Int × Int) := (plenumref20_follows.f a0 a1 a2 a3 a4).bind fun t287 => (if t287 = true then (if (wrap64 (a1 - a0)) < 0 then (plenumref20_Settle.j0 k (wrap64 (-(wrap64 (a1 - a0)))) (wrap64 (a3 * a4))) else (plenumref20_Settle.j0 k (wrap64 (a1 - a0)) (wrap64 (a2 * a4)))) else (some (0, 1)))
theorem plenumref20_Settle.mono_l : ∀ k, (∀ y0 y1, LeO (plenumref20_Settle.j0 k y0 y1) (plenumref20_Settle.j0 (k + 1) y0 y1))
 | 0 => fun _ _ r h => by simp [plenumref20_Settle.j0] at h
 | k + 1 => by
  have ih0 := plenumref20_Settle.mono_l k
  ·
   intro y0 y1
   unfold plenumref20_Settle.j0
   repeat' first
   | (with_reducible exact ih0 _ _)
   | (with_reducible exact LeO.refl _)
   | (with_reducible exact LeO.none _)
   | (with_reducible refine LeO.ite ?_ ?_)
   | (with_reducible refine LeO.bind ?_ (fun _ => ?_))
   | exact ih0 _ _
   | exact LeO.none _
   | refine LeO.ite ?_ ?_
   | refine LeO.bind ?_ (fun _ => ?_)
theorem plenumref20_Settle.mono : ∀ a0 a1 a2 a3 a4 k, LeO (plenumref20_Settle.f k a0 a1 a2 a3 a4) (plenumref20_Settle.f (k + 1) a0 a1 a2 a3 a4) := by
 intro a0 a1 a2 a3 a4 k
 have ih0 := plenumref20_Settle.mono_l k
 unfold plenumref20_Settle.f
 repeat' first
  | (with_reducible exact ih0 _ _)
  | (with_reducible exact LeO.refl _)
  | (with_reducible exact LeO.none _)
  | (with_reducible refine LeO.ite ?_ ?_)
  | (with_reducible refine LeO.bind ?_ (fun _ => ?_))
  | exact ih0 _ _
  | exact LeO.none _
  | refine LeO.ite ?_ ?_
  | refine LeO.bind ?_ (fun _ => ?_)
set_option maxHeartbeats 8000000 in
set_option maxRecDepth 100000 in
theorem plenumref20_Settle.calls (k : Nat) (a0 : Int) (a1 : Int) (a2 : Int) (a3 : Int) (a4 : Int) (r1 : Int) (r2 : Int) (w : World) (h : plenumref20_Settle.f k a0 a1 a2 a3 a4 = some (r1, r2)) :
 Calls Tryd.prog 13 #[.int .i64 a0, .int .i64 a1, .int .i64 a2, .int .i64 a3, .int .i64 a4] w fun e w' => e = .returned (.tuple #[.int .i64 r1, .int .i64 r2]) ∧ Drawn0 w w' := by
 have H : ((plenumref20_follows.f a0 a1 a2 a3 a4).bind fun t287 => (if t287 = true then (if (wrap64 (a1 - a0)) < 0 then (plenumref20_Settle.j0 k (wrap64 (-(wrap64 (a1 - a0)))) (wrap64 (a3 * a4))) else (plenumref20_Settle.j0 k (wrap64 (a1 - a0)) (wrap64 (a2 * a4)))) else (some (0, 1)))) = some (r1, r2) := h
 clear h
 replace H := Option.bind_eq_some_iff.mp H
 obtain ⟨t287, A60, H⟩ := H
 replace H : (if t287 = true then (if (wrap64 (a1 - a0)) < 0 then (plenumref20_Settle.j0 k (wrap64 (-(wrap64 (a1 - a0)))) (wrap64 (a3 * a4))) else (plenumref20_Settle.j0 k (wrap64 (a1 - a0)) (wrap64 (a2 * a4)))) else (some (0, 1))) = some (r1, r2) := H
 have A6 := Aside0.mk A60
 clear A60
 by_cases c7 : t287 = true
 ·
  subst c7
  have H1 : (if (wrap64 (a1 - a0)) < 0 then (plenumref20_Settle.j0 k (wrap64 (-(wrap64 (a1 - a0)))) (wrap64 (a3 * a4))) else (plenumref20_Settle.j0 k (wrap64 (a1 - a0)) (wrap64 (a2 * a4)))) = some (r1, r2) := by rw [if_pos rfl] at H; exact H
  clear H
  have H := H1
  clear H1
  have HC8 := Aside0.mk H
  clear H
  go_enter Tryd.func13, Tryd.ntmps13
  go_upto_if 28 with (first | ((with_reducible refine gate_callee (f := 24) rfl ?_); refine goesL_ (some 19) rfl rfl Tryd.func24 (by kernel_rfl) rfl #[.int .i64 a0, .int .i64 a1, .int .i64 a2, .int .i64 a3, .int .i64 a4] rfl (by (try simp only [List.map_toArray, List.map_cons, List.map_nil]); first | done | rfl | (simp only [List.length_drop, List.length_take]; rfl)) ?_; (with_reducible refine (plenumref20_follows.calls a0 a1 a2 a3 a4 true _ A6.out).mono ?_); rintro e w' ⟨rfl, ⟨nd, rfl⟩⟩; refine ⟨_, rfl, ?_⟩))
  (try simp only [Act.put, List.setIfInBounds_toArray, List.set_cons_zero, List.set_cons_succ])
  go_cut [12, 13] (fun v12 v13 wc => ∃ (kq : Nat) (x12_7 : Int) (x13_7 : Int), v12 = .int .i64 x12_7 ∧ v13 = .int .i64 x13_7 ∧ Aside0 (plenumref20_Settle.j0 kq x12_7 x13_7 = some (r1, r2)) ∧ Aside0 (kq ≤ k) ∧ Drawn0 w wc)
  case first =>
   have H := HC8.out
   clear HC8
   by_cases c9 : (wrap64 (a1 - a0)) < 0
   ·
    rw [if_pos c9] at H
    have c9b0 : decide ((wrap64 (a1 - a0)) < 0) = true := decide_eq_true c9
    clear c9
    (first | rw [c9b0] | (simp only [i64_w, i32_w]; rw [c9b0]) | skip)
    have H' := Aside0.mk H
    clear H
    go_wp2
    go_meet
    case rel => exact ⟨_, (wrap64 (-(wrap64 (a1 - a0)))), (wrap64 (a3 * a4)), (by first | rfl | (simp; done) | (simp [*]; done)), (by first | rfl | (simp; done) | (simp [*]; done)), H', ⟨by first | omega | exact Nat.le_refl _⟩, by repeat (first | exact Drawn0.refl _ | apply Drawn0.step)⟩
   ·
    rw [if_neg c9] at H
    have c9b0 : decide ((wrap64 (a1 - a0)) < 0) = false := decide_eq_false c9
    clear c9
    (first | rw [c9b0] | (simp only [i64_w, i32_w]; rw [c9b0]) | skip)
    have H' := Aside0.mk H
    clear H
    go_wp2
    go_meet
    case rel => exact ⟨_, (wrap64 (a1 - a0)), (wrap64 (a2 * a4)), (by first | rfl | (simp; done) | (simp [*]; done)), (by first | rfl | (simp; done) | (simp [*]; done)), H', ⟨by first | omega | exact Nat.le_refl _⟩, by repeat (first | exact Drawn0.refl _ | apply Drawn0.step)⟩
  case rest =>
   clear HC8
   try clear c1
   try clear c2
   try clear p2
   try clear p6
   try clear c7
   try clear c9
   try clear c9b0
   obtain ⟨kq, x12_7, x13_7, rfl, rfl, HA, HJ7, ⟨mc7, rfl⟩⟩ := hcut
   cases kq with
   | zero => exact absurd HA.out (by simp [plenumref20_Settle.j0])
   | succ kj7 =>
    have H := HA.out
    clear HA
    simp only [plenumref20_Settle.j0] at H
    by_cases c10 : x12_7 = 0
    ·
     rw [if_pos c10] at H
     have c10b0 : (x12_7 == 0) = true := beq_iff_eq.mpr c10
     have c10b1 : (x12_7 != 0) = false := bne_eq_false_iff_eq.mpr c10
     clear c10
     simp only [Option.some.injEq, Prod.mk.injEq] at H
     obtain ⟨rfl, rfl⟩ := H
     go_wp2
     go_ret2
     exact ⟨by first | rfl | (simp; done) | (simp [*]; done), by repeat (first | exact Drawn0.refl _ | apply Drawn0.step)⟩
    ·
     rw [if_neg c10] at H
     have c10b0 : (x12_7 == 0) = false := beq_eq_false_iff_ne.mpr c10
     have c10b1 : (x12_7 != 0) = true := bne_iff_ne.mpr c10
     by_cases c11 : x13_7 = 0
     ·
      rw [if_pos c11] at H
      have c11b0 : (x13_7 == 0) = true := beq_iff_eq.mpr c11
      have c11b1 : (x13_7 != 0) = false := bne_eq_false_iff_eq.mpr c11
      clear c11
      simp only [Option.some.injEq, Prod.mk.injEq] at H
      obtain ⟨rfl, rfl⟩ := H
      go_wp2
      go_ret2
      exact ⟨by first | rfl | (simp; done) | (simp [*]; done), by repeat (first | exact Drawn0.refl _ | apply Drawn0.step)⟩
     ·
      rw [if_neg c11] at H
      have c11b0 : (x13_7 == 0) = false := beq_eq_false_iff_ne.mpr c11
      have c11b1 : (x13_7 != 0) = true := bne_iff_ne.mpr c11
      simp only [Option.some.injEq, Prod.mk.injEq] at H
      obtain ⟨rfl, rfl⟩ := H
      go_wp2
      go_ret2
      exact ⟨by first | rfl | (simp; done) | (simp [*]; done), by repeat (first | exact Drawn0.refl _ | apply Drawn0.step)⟩
 ·
  replace c7 := Bool.eq_false_iff.mpr c7
  subst c7
  have H1 : (some (0, 1)) = some (r1, r2) := by rw [if_neg (show ¬ (false = true) by decide)] at H; exact H
  clear H
  have H := H1
  clear H1
  simp only [Option.some.injEq, Prod.mk.injEq] at H
  obtain ⟨rfl, rfl⟩ := H
  go_enter Tryd.func13, Tryd.ntmps13
  go_wp2_with (first | ((with_reducible refine gate_callee (f := 24) rfl ?_); refine goesL_ (some 19) rfl rfl Tryd.func24 (by kernel_rfl) rfl #[.int .i64 a0, .int .i64 a1, .int .i64 a2, .int .i64 a3, .int .i64 a4] rfl (by (try simp only [List.map_toArray, List.map_cons, List.map_nil]); first | done | rfl | (simp only [List.length_drop, List.length_take]; rfl)) ?_; (with_reducible refine (plenumref20_follows.calls a0 a1 a2 a3 a4 false _ A6.out).mono ?_); rintro e w' ⟨rfl, ⟨nd, rfl⟩⟩; refine ⟨_, rfl, ?_⟩))
  go_ret2
  exact ⟨by first | rfl | (simp; done) | (simp [*]; done), by repeat (first | exact Drawn0.refl _ | apply Drawn0.step)⟩
end Go.Proofs.YteigdhpchkkloaaDoor.PT
