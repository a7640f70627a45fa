-- Laid by hp.py (a program of this session's) through the kit's printer. (squeezed)
import Derived.Test.YtacheoimnckghaaPTx0
import Derived.Test.YtacheoimnckghaaPTx31
import Derived.Test.YtacheoimnckghaaPTx46
import Derived.Test.YtacheoimnckghaaPTx47
namespace Go.Proofs.Ytacheoimnckghaa.PT
open Go.RowKit Go.Proofs.YtacheoimnckghaaW.PrintWords Go.Proofs.YtacheoimnckghaaW.PrintLast Go.Proofs.YtacheoimnckghaaW.PrintMore
attribute [local go_sem] max2_int min2_int max_two min_two max_three min_three max_four min_four   -- for this text's walks alone
set_option linter.unusedVariables false
set_option linter.unusedSimpArgs false
/-! ### plenumref03_Inverse: function 26 -/
mutual
def plenumref03_Inverse.j0 : Nat → List (S50) → Int → Bool → Option (Int × Int)
 | 0, _, _, _ => none
 | k + 1, x0, x1, x24 => if x24 = true then (some (0, 8)) else (if 0 ≤ (wrap64 ((x0.length : Int) - 1)) then (if (wrap64 ((x0.length : Int) - 1)) < (x0.length : Int) then (if x1 > ((rd_T50 x0 (wrap64 ((x0.length : Int) - 1))).f1) then (some (0, 9)) else (if 0 < (x0.length : Int) then (plenumref03_Inverse.l0 k x0 x1 ((rd_T50 x0 0).f0) ((rd_T50 x0 (wrap64 ((x0.length : Int) - 1))).f0)) else (none))) else (none)) else (none))
def plenumref03_Inverse.l0 : Nat → List (S50) → Int → Int → Int → Option (Int × Int)
 | 0, _, _, _, _ => none
 | k + 1, x0, x1, x9, x10 => if x9 < x10 then ((plenumref03_Eval.f k x0 (wrap64 (x9 + (wrap64 (Int.tdiv (wrap64 (x10 - x9)) 2))))).bind fun t455 => (if t455 ≥ x1 then (plenumref03_Inverse.l0 k x0 x1 x9 (wrap64 (x9 + (wrap64 (Int.tdiv (wrap64 (x10 - x9)) 2))))) else (plenumref03_Inverse.l0 k x0 x1 (wrap64 ((wrap64 (x9 + (wrap64 (Int.tdiv (wrap64 (x10 - x9)) 2)))) + 1)) x10))) else (some (x9, 0))
end
def plenumref03_Inverse.f (k : Nat) (l0 : List (S50)) (a1 : Int) : Option (Int × Int) := (plenumref03_Check.f k l0).bind fun t450 => (if t450 = 0 then ((plenumref03_Direction.f k l0).bind fun t451 => (if t451 = 0 then (plenumref03_Inverse.j0 k l0 a1 false) else (plenumref03_Inverse.j0 k l0 a1 (t451 != 1)))) else (some (0, t450)))
theorem plenumref03_Inverse.mono_l : ∀ k, (∀ y0 y1 y2, LeO (plenumref03_Inverse.j0 k y0 y1 y2) (plenumref03_Inverse.j0 (k + 1) y0 y1 y2)) ∧ (∀ y0 y1 y2 y3, LeO (plenumref03_Inverse.l0 k y0 y1 y2 y3) (plenumref03_Inverse.l0 (k + 1) y0 y1 y2 y3))
 | 0 => ⟨fun _ _ _ r h => by simp [plenumref03_Inverse.j0] at h, fun _ _ _ _ r h => by simp [plenumref03_Inverse.l0] at h⟩
 | k + 1 => by
  obtain ⟨ih0, ih1⟩ := plenumref03_Inverse.mono_l k
  refine ⟨?_, ?_⟩
  ·
   intro y0 y1 y2
   unfold plenumref03_Inverse.j0
   repeat' first
   | (with_reducible exact ih0 _ _ _)
   | (with_reducible exact ih1 _ _ _ _)
   | (with_reducible exact plenumref03_Check.mono _ _)
   | (with_reducible exact plenumref03_Direction.mono _ _)
   | (with_reducible exact plenumref03_Eval.mono _ _ _)
   | (with_reducible exact LeO.refl _)
   | (with_reducible exact LeO.none _)
   | (with_reducible refine LeO.ite ?_ ?_)
   | (with_reducible refine LeO.bind ?_ (fun _ => ?_))
   | exact ih0 _ _ _
   | exact ih1 _ _ _ _
   | exact plenumref03_Check.mono _ _
   | exact plenumref03_Direction.mono _ _
   | exact plenumref03_Eval.mono _ _ _
   | exact LeO.none _
   | refine LeO.ite ?_ ?_
   | refine LeO.bind ?_ (fun _ => ?_)
  ·
   intro y0 y1 y2 y3
   unfold plenumref03_Inverse.l0
   repeat' first
   | (with_reducible exact ih0 _ _ _)
   | (with_reducible exact ih1 _ _ _ _)
   | (with_reducible exact plenumref03_Check.mono _ _)
   | (with_reducible exact plenumref03_Direction.mono _ _)
   | (with_reducible exact plenumref03_Eval.mono _ _ _)
   | (with_reducible exact LeO.refl _)
   | (with_reducible exact LeO.none _)
   | (with_reducible refine LeO.ite ?_ ?_)
   | (with_reducible refine LeO.bind ?_ (fun _ => ?_))
   | exact ih0 _ _ _
   | exact ih1 _ _ _ _
   | exact plenumref03_Check.mono _ _
   | exact plenumref03_Direction.mono _ _
   | exact plenumref03_Eval.mono _ _ _
   | exact LeO.none _
   | refine LeO.ite ?_ ?_
   | refine LeO.bind ?_ (fun _ => ?_)
theorem plenumref03_Inverse.mono : ∀ a0 a1 k, LeO (plenumref03_Inverse.f k a0 a1) (plenumref03_Inverse.f (k + 1) a0 a1) := by
 intro a0 a1 k
 obtain ⟨ih0, ih1⟩ := plenumref03_Inverse.mono_l k
 unfold plenumref03_Inverse.f
 repeat' first
  | (with_reducible exact ih0 _ _ _)
  | (with_reducible exact ih1 _ _ _ _)
  | (with_reducible exact plenumref03_Check.mono _ _)
  | (with_reducible exact plenumref03_Direction.mono _ _)
  | (with_reducible exact plenumref03_Eval.mono _ _ _)
  | (with_reducible exact LeO.refl _)
  | (with_reducible exact LeO.none _)
  | (with_reducible refine LeO.ite ?_ ?_)
  | (with_reducible refine LeO.bind ?_ (fun _ => ?_))
  | exact ih0 _ _ _
  | exact ih1 _ _ _ _
  | exact plenumref03_Check.mono _ _
  | exact plenumref03_Direction.mono _ _
  | exact plenumref03_Eval.mono _ _ _
  | exact LeO.none _
  | refine LeO.ite ?_ ?_
  | refine LeO.bind ?_ (fun _ => ?_)
set_option maxHeartbeats 8000000 in
set_option maxRecDepth 100000 in
theorem plenumref03_Inverse.calls (k : Nat) (A0 : Option Addr) (c0 : Nat) (l0 : List (S50)) (a1 : Int) (r1 : Int) (r2 : Int) (w : World) (hr0 : Kd.C k50 w A0 l0.length l0) (hc0 : l0.length ≤ c0) (h : plenumref03_Inverse.f k l0 a1 = some (r1, r2)) :
 Calls Try.prog 26 #[.slice A0 l0.length c0, .int .i64 a1] w fun e w' => e = .returned (.tuple #[.int .i64 r1, .int .i64 r2]) ∧ Below w.heap.size w w' := by
 have HR0 := Aside0.mk hr0
 have HC0 := Aside0.mk hc0
 clear hr0 hc0
 have HB := Aside0.mk (Below.refl w.heap.size w)
 have H : ((plenumref03_Check.f k l0).bind fun t450 => (if t450 = 0 then ((plenumref03_Direction.f k l0).bind fun t451 => (if t451 = 0 then (plenumref03_Inverse.j0 k l0 a1 false) else (plenumref03_Inverse.j0 k l0 a1 (t451 != 1)))) else (some (0, t450)))) = some (r1, r2) := h
 clear h
 replace H := Option.bind_eq_some_iff.mp H
 obtain ⟨t450, A30, H⟩ := H
 replace H : (if t450 = 0 then ((plenumref03_Direction.f k l0).bind fun t451 => (if t451 = 0 then (plenumref03_Inverse.j0 k l0 a1 false) else (plenumref03_Inverse.j0 k l0 a1 (t451 != 1)))) else (some (0, t450))) = some (r1, r2) := H
 have A3 := Aside0.mk A30
 clear A30
 by_cases c4 : t450 = 0
 ·
  rw [if_pos c4] at H
  have c4b0 : (t450 == 0) = true := beq_iff_eq.mpr c4
  have c4b1 : (t450 != 0) = false := bne_eq_false_iff_eq.mpr c4
  clear c4
  replace H := Option.bind_eq_some_iff.mp H
  obtain ⟨t451, A50, H⟩ := H
  replace H : (if t451 = 0 then (plenumref03_Inverse.j0 k l0 a1 false) else (plenumref03_Inverse.j0 k l0 a1 (t451 != 1))) = some (r1, r2) := H
  have A5 := Aside0.mk A50
  clear A50
  have HC6 := Aside0.mk H
  clear H
  go_enter Try.func26, Try.ntmps26
  go_upto_region 5 with (first | (go_at_call 17; (with_reducible refine (plenumref03_Check.calls k _ _ l0 t450 _ ?side1 ?side2 A3.out).mono ?_); (case side1 => repeat (first | exact HR0.out | (with_reducible refine Kd.C_alloc ?_ _) | (with_reducible refine Kd.C_drewN ?_ _) | (with_reducible refine Kd.C_drew ?_))); (case side2 => exact HC0.out); rintro e w' ⟨rfl, ⟨nd, rfl⟩⟩; (try first | exact ⟨rfl, _, World.drewN_drewN _ _ _⟩ | exact ⟨rfl, _, Eq.trans (World.drewN_drewN _ _ _) (congrArg (World.drewN _) (Nat.add_assoc _ _ _))⟩)) | (go_at_call 24; (with_reducible refine (plenumref03_Direction.calls k _ _ l0 t451 _ ?side1 ?side2 A5.out).mono ?_); (case side1 => repeat (first | exact HR0.out | (with_reducible refine Kd.C_alloc ?_ _) | (with_reducible refine Kd.C_drewN ?_ _) | (with_reducible refine Kd.C_drew ?_))); (case side2 => exact HC0.out); rintro e w' ⟨rfl, ⟨nd, rfl⟩⟩; (try first | exact ⟨rfl, _, World.drewN_drewN _ _ _⟩ | exact ⟨rfl, _, Eq.trans (World.drewN_drewN _ _ _) (congrArg (World.drewN _) (Nat.add_assoc _ _ _))⟩)))
  repeat (go_quiet (first | (go_at_call 17; (with_reducible refine (plenumref03_Check.calls k _ _ l0 t450 _ ?side1 ?side2 A3.out).mono ?_); (case side1 => repeat (first | exact HR0.out | (with_reducible refine Kd.C_alloc ?_ _) | (with_reducible refine Kd.C_drewN ?_ _) | (with_reducible refine Kd.C_drew ?_))); (case side2 => exact HC0.out); rintro e w' ⟨rfl, ⟨nd, rfl⟩⟩; (try first | exact ⟨rfl, _, World.drewN_drewN _ _ _⟩ | exact ⟨rfl, _, Eq.trans (World.drewN_drewN _ _ _) (congrArg (World.drewN _) (Nat.add_assoc _ _ _))⟩)) | (go_at_call 24; (with_reducible refine (plenumref03_Direction.calls k _ _ l0 t451 _ ?side1 ?side2 A5.out).mono ?_); (case side1 => repeat (first | exact HR0.out | (with_reducible refine Kd.C_alloc ?_ _) | (with_reducible refine Kd.C_drewN ?_ _) | (with_reducible refine Kd.C_drew ?_))); (case side2 => exact HC0.out); rintro e w' ⟨rfl, ⟨nd, rfl⟩⟩; (try first | exact ⟨rfl, _, World.drewN_drewN _ _ _⟩ | exact ⟨rfl, _, Eq.trans (World.drewN_drewN _ _ _) (congrArg (World.drewN _) (Nat.add_assoc _ _ _))⟩))); go_upto_region 5 with (first | (go_at_call 17; (with_reducible refine (plenumref03_Check.calls k _ _ l0 t450 _ ?side1 ?side2 A3.out).mono ?_); (case side1 => repeat (first | exact HR0.out | (with_reducible refine Kd.C_alloc ?_ _) | (with_reducible refine Kd.C_drewN ?_ _) | (with_reducible refine Kd.C_drew ?_))); (case side2 => exact HC0.out); rintro e w' ⟨rfl, ⟨nd, rfl⟩⟩; (try first | exact ⟨rfl, _, World.drewN_drewN _ _ _⟩ | exact ⟨rfl, _, Eq.trans (World.drewN_drewN _ _ _) (congrArg (World.drewN _) (Nat.add_assoc _ _ _))⟩)) | (go_at_call 24; (with_reducible refine (plenumref03_Direction.calls k _ _ l0 t451 _ ?side1 ?side2 A5.out).mono ?_); (case side1 => repeat (first | exact HR0.out | (with_reducible refine Kd.C_alloc ?_ _) | (with_reducible refine Kd.C_drewN ?_ _) | (with_reducible refine Kd.C_drew ?_))); (case side2 => exact HC0.out); rintro e w' ⟨rfl, ⟨nd, rfl⟩⟩; (try first | exact ⟨rfl, _, World.drewN_drewN _ _ _⟩ | exact ⟨rfl, _, Eq.trans (World.drewN_drewN _ _ _) (congrArg (World.drewN _) (Nat.add_assoc _ _ _))⟩))))
  (try simp only [Act.put, List.setIfInBounds_toArray, List.set_cons_zero, List.set_cons_succ])
  go_cut [24] (fun v24 wc => ∃ (kq : Nat) (x24_5 : Bool), v24 = .bool x24_5 ∧ Aside0 (plenumref03_Inverse.j0 kq l0 a1 x24_5 = some (r1, r2)) ∧ Aside0 (kq ≤ k) ∧ Aside0 (Below w.heap.size w wc))
  case first =>
   have H := HC6.out
   clear HC6
   by_cases c7 : t451 = 0
   ·
    rw [if_pos c7] at H
    have c7b0 : (t451 == 0) = true := beq_iff_eq.mpr c7
    have c7b1 : (t451 != 0) = false := bne_eq_false_iff_eq.mpr c7
    clear c7
    (first | rw [c7b0] | (simp only [i64_w, i32_w]; rw [c7b0]) | skip)
    have H' := Aside0.mk H
    clear H
    go_wp2
    repeat (go_quiet (fail); try go_wp2)
    go_meet
    case rel => exact ⟨_, (false), (by first | rfl | (simp; done) | (simp [*]; done)), H', ⟨by first | omega | exact Nat.le_refl _⟩, ⟨by repeat (first | (with_reducible first | exact HB.out | apply below_alloc | apply pw_below_drewN | apply below_drew1) | exact HB.out)⟩⟩
   ·
    rw [if_neg c7] at H
    have c7b0 : (t451 == 0) = false := beq_eq_false_iff_ne.mpr c7
    have c7b1 : (t451 != 0) = true := bne_iff_ne.mpr c7
    (first | rw [c7b0] | (simp only [i64_w, i32_w]; rw [c7b0]) | skip)
    have H' := Aside0.mk H
    clear H
    go_wp2
    repeat (go_quiet (fail); try go_wp2)
    go_meet
    case rel => exact ⟨_, ((t451 != 1)), (by first | rfl | (simp; done) | (simp [*]; done)), H', ⟨by first | omega | exact Nat.le_refl _⟩, ⟨by repeat (first | (with_reducible first | exact HB.out | apply below_alloc | apply pw_below_drewN | apply below_drew1) | exact HB.out)⟩⟩
  case rest =>
   clear HC6
   try clear c2
   try clear p2
   try clear c4
   try clear c4b0
   try clear c4b1
   try clear c7
   try clear c7b0
   try clear c7b1
   obtain ⟨kq, x24_5, rfl, HA, HJ5, HB⟩ := hcut
   cases kq with
   | zero => exact absurd HA.out (by simp [plenumref03_Inverse.j0])
   | succ kj5 =>
    have H := HA.out
    clear HA
    simp only [plenumref03_Inverse.j0] at H
    by_cases c8 : x24_5 = true
    ·
     subst c8
     have H1 : (some (0, 8)) = some (r1, r2) := by rw [if_pos rfl] at H; exact H
     clear H
     have H := H1
     clear H1
     simp only [Option.some.injEq, Prod.mk.injEq] at H
     obtain ⟨rfl, rfl⟩ := H
     go_wp2
     repeat (go_quiet (fail); try go_wp2)
     go_ret2
     exact ⟨by first | rfl | (simp [errW_none, errW_some] <;> rfl) | (simp [*, errW_none, errW_some] <;> rfl), by repeat (first | (with_reducible first | exact HB.out | apply below_alloc | apply pw_below_drewN | apply below_drew1) | exact HB.out)⟩
    ·
     replace c8 := Bool.eq_false_iff.mpr c8
     subst c8
     have H1 : (if 0 ≤ (wrap64 ((l0.length : Int) - 1)) then (if (wrap64 ((l0.length : Int) - 1)) < (l0.length : Int) then (if a1 > ((rd_T50 l0 (wrap64 ((l0.length : Int) - 1))).f1) then (some (0, 9)) else (if 0 < (l0.length : Int) then (plenumref03_Inverse.l0 kj5 l0 a1 ((rd_T50 l0 0).f0) ((rd_T50 l0 (wrap64 ((l0.length : Int) - 1))).f0)) else (none))) else (none)) else (none)) = some (r1, r2) := by rw [if_neg (show ¬ (false = true) by decide)] at H; exact H
     clear H
     have H := H1
     clear H1
     obtain ⟨ji9, hji9⟩ : ∃ j_ : Int, (wrap64 ((l0.length : Int) - 1)) = j_ := ⟨_, rfl⟩
     replace H : (if 0 ≤ (ji9) then (if (ji9) < (l0.length : Int) then (if a1 > ((rd_T50 l0 (ji9)).f1) then (some (0, 9)) else (if 0 < (l0.length : Int) then (plenumref03_Inverse.l0 kj5 l0 a1 ((rd_T50 l0 0).f0) ((rd_T50 l0 (ji9)).f0)) else (none))) else (none)) else (none)) = some (r1, r2) := by first | (rw [hji9] at H; exact H) | (simp only [hji9] at H ⊢; exact H)
     have hji9w : (IntKind.i64.wrap ((l0.length : Int) - 1)) = ji9 := (i64_w _).trans hji9
     by_cases c10 : 0 ≤ (ji9)
     ·
      rw [if_pos c10] at H
      have c10b0 : decide (0 ≤ (ji9)) = true := decide_eq_true c10
      clear c10
      by_cases c11 : (ji9) < (l0.length : Int)
      ·
       rw [if_pos c11] at H
       have c11b0 : decide ((ji9) < (l0.length : Int)) = true := decide_eq_true c11
       clear c11
       by_cases c12 : a1 > ((rd_T50 l0 (ji9)).f1)
       ·
        rw [if_pos c12] at H
        have c12b0 : decide (((rd_T50 l0 (ji9)).f1) < a1) = true := decide_eq_true c12
        clear c12
        simp only [Option.some.injEq, Prod.mk.injEq] at H
        obtain ⟨rfl, rfl⟩ := H
        have p452 : 0 ≤ ((ji9) : Int) := of_decide_eq_true (by first | (with_reducible assumption) | assumption)
        have q452 : (ji9) < (l0.length : Int) := of_decide_eq_true (by first | (with_reducible assumption) | assumption)
        obtain ⟨ad452, e452, hx452_0, hx452_1⟩ := at_T50 HR0.out (ji9) p452 q452
        cases e452
        replace hx452_0 := (HB.out.cell (World.block_lt_of_cell? w _ hx452_0)).trans hx452_0
        replace hx452_1 := (HB.out.cell (World.block_lt_of_cell? w _ hx452_1)).trans hx452_1
        replace p452 := eq_true p452
        replace q452 := eq_true q452
        go_wp2
        repeat (go_quiet (fail); try go_wp2)
        go_ret2
        exact ⟨by first | rfl | (simp [errW_none, errW_some] <;> rfl) | (simp only [← hji9]; first | rfl | (simp [errW_none, errW_some] <;> rfl)) | (simp [*, errW_none, errW_some] <;> rfl), by repeat (first | (with_reducible first | exact HB.out | apply below_alloc | apply pw_below_drewN | apply below_drew1) | exact HB.out)⟩
       ·
        rw [if_neg c12] at H
        have c12b0 : decide (((rd_T50 l0 (ji9)).f1) < a1) = false := decide_eq_false c12
        clear c12
        by_cases c13 : 0 < (l0.length : Int)
        ·
         rw [if_pos c13] at H
         have c13b0 : decide (0 < (l0.length : Int)) = true := decide_eq_true c13
         have c13b1 : decide (0 < l0.length) = true := decide_eq_true (by omega)
         clear c13
         have H' := Aside0.mk H
         clear H
         have p452 : 0 ≤ ((ji9) : Int) := of_decide_eq_true (by first | (with_reducible assumption) | assumption)
         have q452 : (ji9) < (l0.length : Int) := of_decide_eq_true (by first | (with_reducible assumption) | assumption)
         obtain ⟨ad452, e452, hx452_0, hx452_1⟩ := at_T50 HR0.out (ji9) p452 q452
         cases e452
         replace hx452_0 := (HB.out.cell (World.block_lt_of_cell? w _ hx452_0)).trans hx452_0
         replace hx452_1 := (HB.out.cell (World.block_lt_of_cell? w _ hx452_1)).trans hx452_1
         replace p452 := eq_true p452
         replace q452 := eq_true q452
         have p453 : 0 ≤ (0 : Int) := (by omega)
         have q453 : 0 < (l0.length : Int) := of_decide_eq_true (by first | (with_reducible assumption) | assumption)
         obtain ⟨ad453, e453, hx453_0, hx453_1⟩ := at_T50 HR0.out 0 p453 q453
         obtain rfl : ad452 = ad453 := (by injection e453)
         have qi453 : (0 < l0.length) = True := eq_true (by omega)
         (try rw [show ((0 : Int)).toNat = 0 from rfl] at hx453_0)
         (try rw [show 0 * 2 = 0 from rfl] at hx453_0)
         (try rw [Addr.add_zero'] at hx453_0)
         (try rw [show ((0 : Int)).toNat = 0 from rfl] at hx453_1)
         (try rw [show 0 * 2 = 0 from rfl] at hx453_1)
         (try rw [Addr.add_zero'] at hx453_1)
         replace hx453_0 := (HB.out.cell (World.block_lt_of_cell? w _ hx453_0)).trans hx453_0
         replace hx453_1 := (HB.out.cell (World.block_lt_of_cell? w _ hx453_1)).trans hx453_1
         replace p453 := eq_true p453
         replace q453 := eq_true q453
         have p454 : 0 ≤ ((ji9) : Int) := of_decide_eq_true (by first | (with_reducible assumption) | assumption)
         have q454 : (ji9) < (l0.length : Int) := of_decide_eq_true (by first | (with_reducible assumption) | assumption)
         obtain ⟨ad454, e454, hx454_0, hx454_1⟩ := at_T50 HR0.out (ji9) p454 q454
         obtain rfl : ad452 = ad454 := (by injection e454)
         replace hx454_0 := (HB.out.cell (World.block_lt_of_cell? w _ hx454_0)).trans hx454_0
         replace hx454_1 := (HB.out.cell (World.block_lt_of_cell? w _ hx454_1)).trans hx454_1
         replace p454 := eq_true p454
         replace q454 := eq_true q454
         go_wp2
         repeat (go_quiet (fail); try go_wp2)
         go_loopg [9, 10] kj5 (fun kq v9 v10 w' => ∃ (x9_2 : Int) (x10_2 : Int), v9 = .int .i64 x9_2 ∧ v10 = .int .i64 x10_2 ∧ Aside0 (plenumref03_Inverse.l0 kq l0 a1 x9_2 x10_2 = some (r1, r2)) ∧ Aside0 (kq ≤ kj5) ∧ Aside0 (Below w.heap.size w w'))
         case atStart => exact ⟨((rd_T50 l0 0).f0), ((rd_T50 l0 (ji9)).f0), (by first | rfl | (simp; done) | (simp [*]; done)), (by first | rfl | (simp; done) | (simp only [← hji9] <;> (first | rfl | simp)) | (simp [*]; done)), H', ⟨Nat.le_refl _⟩, ⟨by repeat (first | (with_reducible first | exact HB.out | apply below_alloc | apply pw_below_drewN | apply below_drew1) | exact HB.out)⟩⟩
         case round =>
          clear H'
          try clear c1
          try clear c2
          try clear p2
          try clear c4
          try clear c4b0
          try clear c4b1
          try clear p4
          try clear q4
          try clear hx4
          try clear qi4
          try clear p6
          try clear c7
          try clear c7b0
          try clear c7b1
          try clear c8
          try clear c10
          try clear c10b0
          try clear c11
          try clear c11b0
          try clear c12
          try clear c12b0
          try clear c13
          try clear c13b0
          try clear c13b1
          try clear hx452_0
          try clear hx452_1
          try clear hx453_0
          try clear hx453_1
          try clear hx454_0
          try clear hx454_1
          try clear p2
          try clear p452
          try clear p453
          try clear p454
          try clear q452
          try clear q453
          try clear q454
          obtain ⟨x9_2, x10_2, rfl, rfl, HA, HK2, HB⟩ := hrel
          cases gk with
          | zero => exact absurd HA.out (by simp [plenumref03_Inverse.l0])
          | succ k2 =>
           have H := HA.out
           clear HA
           simp only [plenumref03_Inverse.l0] at H
           by_cases c14 : x9_2 < x10_2
           ·
            rw [if_pos c14] at H
            have c14b0 : decide (x9_2 < x10_2) = true := decide_eq_true c14
            clear c14
            replace H := Option.bind_eq_some_iff.mp H
            obtain ⟨t455, A150, H⟩ := H
            replace H : (if t455 ≥ a1 then (plenumref03_Inverse.l0 k2 l0 a1 x9_2 (wrap64 (x9_2 + (wrap64 (Int.tdiv (wrap64 (x10_2 - x9_2)) 2))))) else (plenumref03_Inverse.l0 k2 l0 a1 (wrap64 ((wrap64 (x9_2 + (wrap64 (Int.tdiv (wrap64 (x10_2 - x9_2)) 2)))) + 1)) x10_2)) = some (r1, r2) := H
            have A15 := Aside0.mk A150
            clear A150
            by_cases c16 : t455 ≥ a1
            ·
             rw [if_pos c16] at H
             have c16b0 : decide (a1 ≤ t455) = true := decide_eq_true c16
             clear c16
             have H' := Aside0.mk H
             clear H
             go_wp2_with (first | (go_at_call 23; (first | (with_reducible refine (plenumref03_Eval.calls k2 _ _ l0 (wrap64 (x9_2 + (wrap64 (Int.tdiv (wrap64 (x10_2 - x9_2)) 2)))) t455 _ ?side1 ?side2 A15.out).mono ?_) | (simp only [i64_w, i32_w]; with_reducible refine (plenumref03_Eval.calls k2 _ _ l0 (wrap64 (x9_2 + (wrap64 (Int.tdiv (wrap64 (x10_2 - x9_2)) 2)))) t455 _ ?side1 ?side2 A15.out).mono ?_)); (case side1 => repeat (first | exact (Kd.C_below HR0.out HB.out) | (with_reducible refine Kd.C_alloc ?_ _) | (with_reducible refine Kd.C_drewN ?_ _) | (with_reducible refine Kd.C_drew ?_))); (case side2 => exact HC0.out); rintro e w17 ⟨rfl, hb⟩; have n0_ := Aside0.mk (below_step (by repeat (first | (with_reducible first | exact HB.out | apply below_alloc | apply pw_below_drewN | apply below_drew1) | exact HB.out)) hb); clear HB; have HB := n0_; clear n0_; (try clear hb); (try clear hb2); (try clear hk); (try clear hi)))
             repeat (go_quiet (first | (go_at_call 23; (first | (with_reducible refine (plenumref03_Eval.calls k2 _ _ l0 (wrap64 (x9_2 + (wrap64 (Int.tdiv (wrap64 (x10_2 - x9_2)) 2)))) t455 _ ?side1 ?side2 A15.out).mono ?_) | (simp only [i64_w, i32_w]; with_reducible refine (plenumref03_Eval.calls k2 _ _ l0 (wrap64 (x9_2 + (wrap64 (Int.tdiv (wrap64 (x10_2 - x9_2)) 2)))) t455 _ ?side1 ?side2 A15.out).mono ?_)); (case side1 => repeat (first | exact (Kd.C_below HR0.out HB.out) | (with_reducible refine Kd.C_alloc ?_ _) | (with_reducible refine Kd.C_drewN ?_ _) | (with_reducible refine Kd.C_drew ?_))); (case side2 => exact HC0.out); rintro e w17 ⟨rfl, hb⟩; have n0_ := Aside0.mk (below_step (by repeat (first | (with_reducible first | exact HB.out | apply below_alloc | apply pw_below_drewN | apply below_drew1) | exact HB.out)) hb); clear HB; have HB := n0_; clear n0_; (try clear hb); (try clear hb2); (try clear hk); (try clear hi))); try go_wp2_with (first | (go_at_call 23; (first | (with_reducible refine (plenumref03_Eval.calls k2 _ _ l0 (wrap64 (x9_2 + (wrap64 (Int.tdiv (wrap64 (x10_2 - x9_2)) 2)))) t455 _ ?side1 ?side2 A15.out).mono ?_) | (simp only [i64_w, i32_w]; with_reducible refine (plenumref03_Eval.calls k2 _ _ l0 (wrap64 (x9_2 + (wrap64 (Int.tdiv (wrap64 (x10_2 - x9_2)) 2)))) t455 _ ?side1 ?side2 A15.out).mono ?_)); (case side1 => repeat (first | exact (Kd.C_below HR0.out HB.out) | (with_reducible refine Kd.C_alloc ?_ _) | (with_reducible refine Kd.C_drewN ?_ _) | (with_reducible refine Kd.C_drew ?_))); (case side2 => exact HC0.out); rintro e w17 ⟨rfl, hb⟩; have n0_ := Aside0.mk (below_step (by repeat (first | (with_reducible first | exact HB.out | apply below_alloc | apply pw_below_drewN | apply below_drew1) | exact HB.out)) hb); clear HB; have HB := n0_; clear n0_; (try clear hb); (try clear hb2); (try clear hk); (try clear hi))))
             go_roundg k2
             case measure => have := HJ5.out; have := HK2.out; omega
             case rel => exact ⟨(x9_2), (wrap64 (x9_2 + (wrap64 (Int.tdiv (wrap64 (x10_2 - x9_2)) 2)))), (by first | rfl | (simp; done) | (simp [*]; done)), (by first | rfl | (simp; done) | (simp [*]; done)), H', ⟨by have := HJ5.out; have := HK2.out; omega⟩, ⟨by repeat (first | (with_reducible first | exact HB.out | apply below_alloc | apply pw_below_drewN | apply below_drew1) | exact HB.out)⟩⟩
            ·
             rw [if_neg c16] at H
             have c16b0 : decide (a1 ≤ t455) = false := decide_eq_false c16
             clear c16
             have H' := Aside0.mk H
             clear H
             go_wp2_with (first | (go_at_call 23; (first | (with_reducible refine (plenumref03_Eval.calls k2 _ _ l0 (wrap64 (x9_2 + (wrap64 (Int.tdiv (wrap64 (x10_2 - x9_2)) 2)))) t455 _ ?side1 ?side2 A15.out).mono ?_) | (simp only [i64_w, i32_w]; with_reducible refine (plenumref03_Eval.calls k2 _ _ l0 (wrap64 (x9_2 + (wrap64 (Int.tdiv (wrap64 (x10_2 - x9_2)) 2)))) t455 _ ?side1 ?side2 A15.out).mono ?_)); (case side1 => repeat (first | exact (Kd.C_below HR0.out HB.out) | (with_reducible refine Kd.C_alloc ?_ _) | (with_reducible refine Kd.C_drewN ?_ _) | (with_reducible refine Kd.C_drew ?_))); (case side2 => exact HC0.out); rintro e w18 ⟨rfl, hb⟩; have n0_ := Aside0.mk (below_step (by repeat (first | (with_reducible first | exact HB.out | apply below_alloc | apply pw_below_drewN | apply below_drew1) | exact HB.out)) hb); clear HB; have HB := n0_; clear n0_; (try clear hb); (try clear hb2); (try clear hk); (try clear hi)))
             repeat (go_quiet (first | (go_at_call 23; (first | (with_reducible refine (plenumref03_Eval.calls k2 _ _ l0 (wrap64 (x9_2 + (wrap64 (Int.tdiv (wrap64 (x10_2 - x9_2)) 2)))) t455 _ ?side1 ?side2 A15.out).mono ?_) | (simp only [i64_w, i32_w]; with_reducible refine (plenumref03_Eval.calls k2 _ _ l0 (wrap64 (x9_2 + (wrap64 (Int.tdiv (wrap64 (x10_2 - x9_2)) 2)))) t455 _ ?side1 ?side2 A15.out).mono ?_)); (case side1 => repeat (first | exact (Kd.C_below HR0.out HB.out) | (with_reducible refine Kd.C_alloc ?_ _) | (with_reducible refine Kd.C_drewN ?_ _) | (with_reducible refine Kd.C_drew ?_))); (case side2 => exact HC0.out); rintro e w18 ⟨rfl, hb⟩; have n0_ := Aside0.mk (below_step (by repeat (first | (with_reducible first | exact HB.out | apply below_alloc | apply pw_below_drewN | apply below_drew1) | exact HB.out)) hb); clear HB; have HB := n0_; clear n0_; (try clear hb); (try clear hb2); (try clear hk); (try clear hi))); try go_wp2_with (first | (go_at_call 23; (first | (with_reducible refine (plenumref03_Eval.calls k2 _ _ l0 (wrap64 (x9_2 + (wrap64 (Int.tdiv (wrap64 (x10_2 - x9_2)) 2)))) t455 _ ?side1 ?side2 A15.out).mono ?_) | (simp only [i64_w, i32_w]; with_reducible refine (plenumref03_Eval.calls k2 _ _ l0 (wrap64 (x9_2 + (wrap64 (Int.tdiv (wrap64 (x10_2 - x9_2)) 2)))) t455 _ ?side1 ?side2 A15.out).mono ?_)); (case side1 => repeat (first | exact (Kd.C_below HR0.out HB.out) | (with_reducible refine Kd.C_alloc ?_ _) | (with_reducible refine Kd.C_drewN ?_ _) | (with_reducible refine Kd.C_drew ?_))); (case side2 => exact HC0.out); rintro e w18 ⟨rfl, hb⟩; have n0_ := Aside0.mk (below_step (by repeat (first | (with_reducible first | exact HB.out | apply below_alloc | apply pw_below_drewN | apply below_drew1) | exact HB.out)) hb); clear HB; have HB := n0_; clear n0_; (try clear hb); (try clear hb2); (try clear hk); (try clear hi))))
             go_roundg k2
             case measure => have := HJ5.out; have := HK2.out; omega
             case rel => exact ⟨(wrap64 ((wrap64 (x9_2 + (wrap64 (Int.tdiv (wrap64 (x10_2 - x9_2)) 2)))) + 1)), (x10_2), (by first | rfl | (simp; done) | (simp [*]; done)), (by first | rfl | (simp; done) | (simp [*]; done)), H', ⟨by have := HJ5.out; have := HK2.out; omega⟩, ⟨by repeat (first | (with_reducible first | exact HB.out | apply below_alloc | apply pw_below_drewN | apply below_drew1) | exact HB.out)⟩⟩
           ·
            rw [if_neg c14] at H
            have c14b0 : decide (x9_2 < x10_2) = false := decide_eq_false c14
            clear c14
            simp only [Option.some.injEq, Prod.mk.injEq] at H
            obtain ⟨rfl, rfl⟩ := H
            go_wp2
            repeat (go_quiet (fail); try go_wp2)
            go_ret2
            exact ⟨by first | rfl | (simp [errW_none, errW_some] <;> rfl) | (simp only [← hji9]; first | rfl | (simp [errW_none, errW_some] <;> rfl)) | (simp [*, errW_none, errW_some] <;> rfl), by repeat (first | (with_reducible first | exact HB.out | apply below_alloc | apply pw_below_drewN | apply below_drew1) | exact HB.out)⟩
        ·
         rw [if_neg c13] at H
         exact absurd H (by simp)
      ·
       rw [if_neg c11] at H
       exact absurd H (by simp)
     ·
      rw [if_neg c10] at H
      exact absurd H (by simp)
 ·
  rw [if_neg c4] at H
  have c4b0 : (t450 == 0) = false := beq_eq_false_iff_ne.mpr c4
  have c4b1 : (t450 != 0) = true := bne_iff_ne.mpr c4
  simp only [Option.some.injEq, Prod.mk.injEq] at H
  obtain ⟨rfl, rfl⟩ := H
  go_enter Try.func26, Try.ntmps26
  go_wp2_with (first | (go_at_call 17; (with_reducible refine (plenumref03_Check.calls k _ _ l0 t450 _ ?side1 ?side2 A3.out).mono ?_); (case side1 => repeat (first | exact HR0.out | (with_reducible refine Kd.C_alloc ?_ _) | (with_reducible refine Kd.C_drewN ?_ _) | (with_reducible refine Kd.C_drew ?_))); (case side2 => exact HC0.out); rintro e w' ⟨rfl, ⟨nd, rfl⟩⟩; (try first | exact ⟨rfl, _, World.drewN_drewN _ _ _⟩ | exact ⟨rfl, _, Eq.trans (World.drewN_drewN _ _ _) (congrArg (World.drewN _) (Nat.add_assoc _ _ _))⟩)))
  repeat (go_quiet (first | (go_at_call 17; (with_reducible refine (plenumref03_Check.calls k _ _ l0 t450 _ ?side1 ?side2 A3.out).mono ?_); (case side1 => repeat (first | exact HR0.out | (with_reducible refine Kd.C_alloc ?_ _) | (with_reducible refine Kd.C_drewN ?_ _) | (with_reducible refine Kd.C_drew ?_))); (case side2 => exact HC0.out); rintro e w' ⟨rfl, ⟨nd, rfl⟩⟩; (try first | exact ⟨rfl, _, World.drewN_drewN _ _ _⟩ | exact ⟨rfl, _, Eq.trans (World.drewN_drewN _ _ _) (congrArg (World.drewN _) (Nat.add_assoc _ _ _))⟩))); try go_wp2_with (first | (go_at_call 17; (with_reducible refine (plenumref03_Check.calls k _ _ l0 t450 _ ?side1 ?side2 A3.out).mono ?_); (case side1 => repeat (first | exact HR0.out | (with_reducible refine Kd.C_alloc ?_ _) | (with_reducible refine Kd.C_drewN ?_ _) | (with_reducible refine Kd.C_drew ?_))); (case side2 => exact HC0.out); rintro e w' ⟨rfl, ⟨nd, rfl⟩⟩; (try first | exact ⟨rfl, _, World.drewN_drewN _ _ _⟩ | exact ⟨rfl, _, Eq.trans (World.drewN_drewN _ _ _) (congrArg (World.drewN _) (Nat.add_assoc _ _ _))⟩))))
  go_ret2
  exact ⟨by first | rfl | (simp [errW_none, errW_some] <;> rfl) | (simp [*, errW_none, errW_some] <;> rfl), by repeat (first | (with_reducible first | exact HB.out | apply below_alloc | apply pw_below_drewN | apply below_drew1) | exact HB.out)⟩
end Go.Proofs.Ytacheoimnckghaa.PT
