-- Laid by hp.py (a program of this session's) through the kit's printer. (squeezed)
import Derived.Test.YtacheoimnckghaaPTx0
import Derived.Test.YtacheoimnckghaaPTx6
import Derived.Test.YtacheoimnckghaaPTx20
import Derived.Test.YtacheoimnckghaaPTx22
namespace Go.Proofs.Ytacheoimnckghaa.PT
open Go.RowKit Go.Proofs.YtacheoimnckghaaW.PrintWords Go.Proofs.YtacheoimnckghaaW.PrintLast Go.Proofs.YtacheoimnckghaaW.PrintMore
attribute [local go_sem] max2_int min2_int max_two min_two max_three min_three max_four min_four   -- for this text's walks alone
set_option linter.unusedVariables false
set_option linter.unusedSimpArgs false
/-! ### curve_Inverse: function 25 -/
mutual
def curve_Inverse.j0 : Nat → List (S50) → Int → Bool → Option (Int × Int)
 | 0, _, _, _ => none
 | k + 1, x0, x1, x23 => if x23 = true then (some (0, 8)) else (if 0 < (x0.length : Int) then (if 0 ≤ (wrap64 ((x0.length : Int) - 1)) then (if (wrap64 ((x0.length : Int) - 1)) < (x0.length : Int) then (if x1 > ((rd_T50 x0 (wrap64 ((x0.length : Int) - 1))).f1) then (some (0, 9)) else (curve_Inverse.l0 k x0 x1 ((rd_T50 x0 0).f0) ((rd_T50 x0 (wrap64 ((x0.length : Int) - 1))).f0))) else (none)) else (none)) else (none))
def curve_Inverse.l0 : Nat → List (S50) → Int → Int → Int → Option (Int × Int)
 | 0, _, _, _, _ => none
 | k + 1, x0, x1, x8, x9 => if x8 < x9 then ((curve_value.f k x0 (wrap64 (x8 + (wrap64 (Int.tdiv (wrap64 (x9 - x8)) 2))))).bind fun t193 => (if t193 ≥ x1 then (curve_Inverse.l0 k x0 x1 x8 (wrap64 (x8 + (wrap64 (Int.tdiv (wrap64 (x9 - x8)) 2))))) else (curve_Inverse.l0 k x0 x1 (wrap64 ((wrap64 (x8 + (wrap64 (Int.tdiv (wrap64 (x9 - x8)) 2)))) + 1)) x9))) else (some (x8, 0))
end
def curve_Inverse.f (k : Nat) (l0 : List (S50)) (a1 : Int) : Option (Int × Int) := (curve_Check.f k l0).bind fun t188 => (if t188 = 0 then ((curve_direction.f k l0).bind fun t189 => (if t189 = 0 then (curve_Inverse.j0 k l0 a1 false) else (curve_Inverse.j0 k l0 a1 (t189 != 1)))) else (some (0, t188)))
theorem curve_Inverse.mono_l : ∀ k, (∀ y0 y1 y2, LeO (curve_Inverse.j0 k y0 y1 y2) (curve_Inverse.j0 (k + 1) y0 y1 y2)) ∧ (∀ y0 y1 y2 y3, LeO (curve_Inverse.l0 k y0 y1 y2 y3) (curve_Inverse.l0 (k + 1) y0 y1 y2 y3))
 | 0 => ⟨fun _ _ _ r h => by simp [curve_Inverse.j0] at h, fun _ _ _ _ r h => by simp [curve_Inverse.l0] at h⟩
 | k + 1 => by
  obtain ⟨ih0, ih1⟩ := curve_Inverse.mono_l k
  refine ⟨?_, ?_⟩
  ·
   intro y0 y1 y2
   unfold curve_Inverse.j0
   repeat' first
   | (with_reducible exact ih0 _ _ _)
   | (with_reducible exact ih1 _ _ _ _)
   | (with_reducible exact curve_Check.mono _ _)
   | (with_reducible exact curve_direction.mono _ _)
   | (with_reducible exact curve_value.mono _ _ _)
   | (with_reducible exact LeO.refl _)
   | (with_reducible exact LeO.none _)
   | (with_reducible refine LeO.ite ?_ ?_)
   | (with_reducible refine LeO.bind ?_ (fun _ => ?_))
   | exact ih0 _ _ _
   | exact ih1 _ _ _ _
   | exact curve_Check.mono _ _
   | exact curve_direction.mono _ _
   | exact curve_value.mono _ _ _
   | exact LeO.none _
   | refine LeO.ite ?_ ?_
   | refine LeO.bind ?_ (fun _ => ?_)
  ·
   intro y0 y1 y2 y3
   unfold curve_Inverse.l0
   repeat' first
   | (with_reducible exact ih0 _ _ _)
   | (with_reducible exact ih1 _ _ _ _)
   | (with_reducible exact curve_Check.mono _ _)
   | (with_reducible exact curve_direction.mono _ _)
   | (with_reducible exact curve_value.mono _ _ _)
   | (with_reducible exact LeO.refl _)
   | (with_reducible exact LeO.none _)
   | (with_reducible refine LeO.ite ?_ ?_)
   | (with_reducible refine LeO.bind ?_ (fun _ => ?_))
   | exact ih0 _ _ _
   | exact ih1 _ _ _ _
   | exact curve_Check.mono _ _
   | exact curve_direction.mono _ _
   | exact curve_value.mono _ _ _
   | exact LeO.none _
   | refine LeO.ite ?_ ?_
   | refine LeO.bind ?_ (fun _ => ?_)
theorem curve_Inverse.mono : ∀ a0 a1 k, LeO (curve_Inverse.f k a0 a1) (curve_Inverse.f (k + 1) a0 a1) := by
 intro a0 a1 k
 obtain ⟨ih0, ih1⟩ := curve_Inverse.mono_l k
 unfold curve_Inverse.f
 repeat' first
  | (with_reducible exact ih0 _ _ _)
  | (with_reducible exact ih1 _ _ _ _)
  | (with_reducible exact curve_Check.mono _ _)
  | (with_reducible exact curve_direction.mono _ _)
  | (with_reducible exact curve_value.mono _ _ _)
  | (with_reducible exact LeO.refl _)
  | (with_reducible exact LeO.none _)
  | (with_reducible refine LeO.ite ?_ ?_)
  | (with_reducible refine LeO.bind ?_ (fun _ => ?_))
  | exact ih0 _ _ _
  | exact ih1 _ _ _ _
  | exact curve_Check.mono _ _
  | exact curve_direction.mono _ _
  | exact curve_value.mono _ _ _
  | exact LeO.none _
  | refine LeO.ite ?_ ?_
  | refine LeO.bind ?_ (fun _ => ?_)
set_option maxHeartbeats 8000000 in
set_option maxRecDepth 100000 in
theorem curve_Inverse.calls (k : Nat) (A0 : Option Addr) (c0 : Nat) (l0 : List (S50)) (a1 : Int) (r1 : Int) (r2 : Int) (w : World) (hr0 : Kd.C k50 w A0 l0.length l0) (hc0 : l0.length ≤ c0) (h : curve_Inverse.f k l0 a1 = some (r1, r2)) :
 Calls Try.prog 25 #[.slice A0 l0.length c0, .int .i64 a1] w fun e w' => e = .returned (.tuple #[.int .i64 r1, .int .i64 r2]) ∧ Below w.heap.size w w' := by
 have HR0 := Aside0.mk hr0
 have HC0 := Aside0.mk hc0
 clear hr0 hc0
 have HB := Aside0.mk (Below.refl w.heap.size w)
 have H : ((curve_Check.f k l0).bind fun t188 => (if t188 = 0 then ((curve_direction.f k l0).bind fun t189 => (if t189 = 0 then (curve_Inverse.j0 k l0 a1 false) else (curve_Inverse.j0 k l0 a1 (t189 != 1)))) else (some (0, t188)))) = some (r1, r2) := h
 clear h
 replace H := Option.bind_eq_some_iff.mp H
 obtain ⟨t188, A30, H⟩ := H
 replace H : (if t188 = 0 then ((curve_direction.f k l0).bind fun t189 => (if t189 = 0 then (curve_Inverse.j0 k l0 a1 false) else (curve_Inverse.j0 k l0 a1 (t189 != 1)))) else (some (0, t188))) = some (r1, r2) := H
 have A3 := Aside0.mk A30
 clear A30
 by_cases c4 : t188 = 0
 ·
  rw [if_pos c4] at H
  have c4b0 : (t188 == 0) = true := beq_iff_eq.mpr c4
  have c4b1 : (t188 != 0) = false := bne_eq_false_iff_eq.mpr c4
  clear c4
  replace H := Option.bind_eq_some_iff.mp H
  obtain ⟨t189, A50, H⟩ := H
  replace H : (if t189 = 0 then (curve_Inverse.j0 k l0 a1 false) else (curve_Inverse.j0 k l0 a1 (t189 != 1))) = some (r1, r2) := H
  have A5 := Aside0.mk A50
  clear A50
  have HC6 := Aside0.mk H
  clear H
  go_enter Try.func25, Try.ntmps25
  go_upto_region 5 with (first | (go_at_call 22; (with_reducible refine (curve_Check.calls k _ _ l0 t188 _ ?side1 ?side2 A3.out).mono ?_); (case side1 => repeat (first | exact HR0.out | (with_reducible refine Kd.C_alloc ?_ _) | (with_reducible refine Kd.C_drewN ?_ _) | (with_reducible refine Kd.C_drew ?_))); (case side2 => exact HC0.out); rintro e w7 ⟨rfl, hb⟩; have n0_ := Aside0.mk (below_step (by repeat (first | (with_reducible first | exact HB.out | apply below_alloc | apply pw_below_drewN | apply below_drew1) | exact HB.out)) hb); clear HB; have HB := n0_; clear n0_; (try clear hb); (try clear hb2); (try clear hk); (try clear hi)) | (go_at_call 38; (with_reducible refine (curve_direction.calls k _ _ l0 t189 _ ?side1 ?side2 A5.out).mono ?_); (case side1 => repeat (first | exact (Kd.C_below HR0.out HB.out) | (with_reducible refine Kd.C_alloc ?_ _) | (with_reducible refine Kd.C_drewN ?_ _) | (with_reducible refine Kd.C_drew ?_))); (case side2 => exact HC0.out); rintro e w' ⟨rfl, ⟨nd, rfl⟩⟩; (try first | exact ⟨rfl, _, World.drewN_drewN _ _ _⟩ | exact ⟨rfl, _, Eq.trans (World.drewN_drewN _ _ _) (congrArg (World.drewN _) (Nat.add_assoc _ _ _))⟩)))
  repeat (go_quiet (first | (go_at_call 22; (with_reducible refine (curve_Check.calls k _ _ l0 t188 _ ?side1 ?side2 A3.out).mono ?_); (case side1 => repeat (first | exact HR0.out | (with_reducible refine Kd.C_alloc ?_ _) | (with_reducible refine Kd.C_drewN ?_ _) | (with_reducible refine Kd.C_drew ?_))); (case side2 => exact HC0.out); rintro e w7 ⟨rfl, hb⟩; have n0_ := Aside0.mk (below_step (by repeat (first | (with_reducible first | exact HB.out | apply below_alloc | apply pw_below_drewN | apply below_drew1) | exact HB.out)) hb); clear HB; have HB := n0_; clear n0_; (try clear hb); (try clear hb2); (try clear hk); (try clear hi)) | (go_at_call 38; (with_reducible refine (curve_direction.calls k _ _ l0 t189 _ ?side1 ?side2 A5.out).mono ?_); (case side1 => repeat (first | exact (Kd.C_below HR0.out HB.out) | (with_reducible refine Kd.C_alloc ?_ _) | (with_reducible refine Kd.C_drewN ?_ _) | (with_reducible refine Kd.C_drew ?_))); (case side2 => exact HC0.out); rintro e w' ⟨rfl, ⟨nd, rfl⟩⟩; (try first | exact ⟨rfl, _, World.drewN_drewN _ _ _⟩ | exact ⟨rfl, _, Eq.trans (World.drewN_drewN _ _ _) (congrArg (World.drewN _) (Nat.add_assoc _ _ _))⟩))); go_upto_region 5 with (first | (go_at_call 22; (with_reducible refine (curve_Check.calls k _ _ l0 t188 _ ?side1 ?side2 A3.out).mono ?_); (case side1 => repeat (first | exact HR0.out | (with_reducible refine Kd.C_alloc ?_ _) | (with_reducible refine Kd.C_drewN ?_ _) | (with_reducible refine Kd.C_drew ?_))); (case side2 => exact HC0.out); rintro e w7 ⟨rfl, hb⟩; have n0_ := Aside0.mk (below_step (by repeat (first | (with_reducible first | exact HB.out | apply below_alloc | apply pw_below_drewN | apply below_drew1) | exact HB.out)) hb); clear HB; have HB := n0_; clear n0_; (try clear hb); (try clear hb2); (try clear hk); (try clear hi)) | (go_at_call 38; (with_reducible refine (curve_direction.calls k _ _ l0 t189 _ ?side1 ?side2 A5.out).mono ?_); (case side1 => repeat (first | exact (Kd.C_below HR0.out HB.out) | (with_reducible refine Kd.C_alloc ?_ _) | (with_reducible refine Kd.C_drewN ?_ _) | (with_reducible refine Kd.C_drew ?_))); (case side2 => exact HC0.out); rintro e w' ⟨rfl, ⟨nd, rfl⟩⟩; (try first | exact ⟨rfl, _, World.drewN_drewN _ _ _⟩ | exact ⟨rfl, _, Eq.trans (World.drewN_drewN _ _ _) (congrArg (World.drewN _) (Nat.add_assoc _ _ _))⟩))))
  (try simp only [Act.put, List.setIfInBounds_toArray, List.set_cons_zero, List.set_cons_succ])
  go_cut [23] (fun v23 wc => ∃ (kq : Nat) (x23_5 : Bool), v23 = .bool x23_5 ∧ Aside0 (curve_Inverse.j0 kq l0 a1 x23_5 = some (r1, r2)) ∧ Aside0 (kq ≤ k) ∧ Aside0 (Below w.heap.size w wc))
  case first =>
   have H := HC6.out
   clear HC6
   by_cases c8 : t189 = 0
   ·
    rw [if_pos c8] at H
    have c8b0 : (t189 == 0) = true := beq_iff_eq.mpr c8
    have c8b1 : (t189 != 0) = false := bne_eq_false_iff_eq.mpr c8
    clear c8
    (first | rw [c8b0] | (simp only [i64_w, i32_w]; rw [c8b0]) | skip)
    have H' := Aside0.mk H
    clear H
    go_wp2
    repeat (go_quiet (fail); try go_wp2)
    go_meet
    case rel => exact ⟨_, (false), (by first | rfl | (simp; done) | (simp [*]; done)), H', ⟨by first | omega | exact Nat.le_refl _⟩, ⟨by repeat (first | (with_reducible first | exact HB.out | apply below_alloc | apply pw_below_drewN | apply below_drew1) | exact HB.out)⟩⟩
   ·
    rw [if_neg c8] at H
    have c8b0 : (t189 == 0) = false := beq_eq_false_iff_ne.mpr c8
    have c8b1 : (t189 != 0) = true := bne_iff_ne.mpr c8
    (first | rw [c8b0] | (simp only [i64_w, i32_w]; rw [c8b0]) | skip)
    have H' := Aside0.mk H
    clear H
    go_wp2
    repeat (go_quiet (fail); try go_wp2)
    go_meet
    case rel => exact ⟨_, ((t189 != 1)), (by first | rfl | (simp; done) | (simp [*]; done)), H', ⟨by first | omega | exact Nat.le_refl _⟩, ⟨by repeat (first | (with_reducible first | exact HB.out | apply below_alloc | apply pw_below_drewN | apply below_drew1) | exact HB.out)⟩⟩
  case rest =>
   clear HC6
   try clear c2
   try clear p2
   try clear c4
   try clear c4b0
   try clear c4b1
   try clear c8
   try clear c8b0
   try clear c8b1
   obtain ⟨kq, x23_5, rfl, HA, HJ5, HB⟩ := hcut
   cases kq with
   | zero => exact absurd HA.out (by simp [curve_Inverse.j0])
   | succ kj5 =>
    have H := HA.out
    clear HA
    simp only [curve_Inverse.j0] at H
    by_cases c9 : x23_5 = true
    ·
     subst c9
     have H1 : (some (0, 8)) = some (r1, r2) := by rw [if_pos rfl] at H; exact H
     clear H
     have H := H1
     clear H1
     simp only [Option.some.injEq, Prod.mk.injEq] at H
     obtain ⟨rfl, rfl⟩ := H
     go_wp2
     repeat (go_quiet (fail); try go_wp2)
     go_ret2
     exact ⟨by first | rfl | (simp [errW_none, errW_some] <;> rfl) | (simp [*, errW_none, errW_some] <;> rfl), by repeat (first | (with_reducible first | exact HB.out | apply below_alloc | apply pw_below_drewN | apply below_drew1) | exact HB.out)⟩
    ·
     replace c9 := Bool.eq_false_iff.mpr c9
     subst c9
     have H1 : (if 0 < (l0.length : Int) then (if 0 ≤ (wrap64 ((l0.length : Int) - 1)) then (if (wrap64 ((l0.length : Int) - 1)) < (l0.length : Int) then (if a1 > ((rd_T50 l0 (wrap64 ((l0.length : Int) - 1))).f1) then (some (0, 9)) else (curve_Inverse.l0 kj5 l0 a1 ((rd_T50 l0 0).f0) ((rd_T50 l0 (wrap64 ((l0.length : Int) - 1))).f0))) else (none)) else (none)) else (none)) = some (r1, r2) := by rw [if_neg (show ¬ (false = true) by decide)] at H; exact H
     clear H
     have H := H1
     clear H1
     by_cases c10 : 0 < (l0.length : Int)
     ·
      rw [if_pos c10] at H
      have c10b0 : decide (0 < (l0.length : Int)) = true := decide_eq_true c10
      have c10b1 : decide (0 < l0.length) = true := decide_eq_true (by omega)
      clear c10
      obtain ⟨ji11, hji11⟩ : ∃ j_ : Int, (wrap64 ((l0.length : Int) - 1)) = j_ := ⟨_, rfl⟩
      replace H : (if 0 ≤ (ji11) then (if (ji11) < (l0.length : Int) then (if a1 > ((rd_T50 l0 (ji11)).f1) then (some (0, 9)) else (curve_Inverse.l0 kj5 l0 a1 ((rd_T50 l0 0).f0) ((rd_T50 l0 (ji11)).f0))) else (none)) else (none)) = some (r1, r2) := by first | (rw [hji11] at H; exact H) | (simp only [hji11] at H ⊢; exact H)
      have hji11w : (IntKind.i64.wrap ((l0.length : Int) - 1)) = ji11 := (i64_w _).trans hji11
      by_cases c12 : 0 ≤ (ji11)
      ·
       rw [if_pos c12] at H
       have c12b0 : decide (0 ≤ (ji11)) = true := decide_eq_true c12
       clear c12
       by_cases c13 : (ji11) < (l0.length : Int)
       ·
        rw [if_pos c13] at H
        have c13b0 : decide ((ji11) < (l0.length : Int)) = true := decide_eq_true c13
        clear c13
        by_cases c14 : a1 > ((rd_T50 l0 (ji11)).f1)
        ·
         rw [if_pos c14] at H
         have c14b0 : decide (((rd_T50 l0 (ji11)).f1) < a1) = true := decide_eq_true c14
         clear c14
         simp only [Option.some.injEq, Prod.mk.injEq] at H
         obtain ⟨rfl, rfl⟩ := H
         have p190 : 0 ≤ (0 : Int) := (by omega)
         have q190 : 0 < (l0.length : Int) := of_decide_eq_true (by first | (with_reducible assumption) | assumption)
         obtain ⟨ad190, e190, hx190_0, hx190_1⟩ := at_T50 HR0.out 0 p190 q190
         cases e190
         have qi190 : (0 < l0.length) = True := eq_true (by omega)
         (try rw [show ((0 : Int)).toNat = 0 from rfl] at hx190_0)
         (try rw [show 0 * 2 = 0 from rfl] at hx190_0)
         (try rw [Addr.add_zero'] at hx190_0)
         (try rw [show ((0 : Int)).toNat = 0 from rfl] at hx190_1)
         (try rw [show 0 * 2 = 0 from rfl] at hx190_1)
         (try rw [Addr.add_zero'] at hx190_1)
         replace hx190_0 := (HB.out.cell (World.block_lt_of_cell? w _ hx190_0)).trans hx190_0
         replace hx190_1 := (HB.out.cell (World.block_lt_of_cell? w _ hx190_1)).trans hx190_1
         replace p190 := eq_true p190
         replace q190 := eq_true q190
         have p191 : 0 ≤ ((ji11) : Int) := of_decide_eq_true (by first | (with_reducible assumption) | assumption)
         have q191 : (ji11) < (l0.length : Int) := of_decide_eq_true (by first | (with_reducible assumption) | assumption)
         obtain ⟨ad191, e191, hx191_0, hx191_1⟩ := at_T50 HR0.out (ji11) p191 q191
         obtain rfl : ad190 = ad191 := (by injection e191)
         replace hx191_0 := (HB.out.cell (World.block_lt_of_cell? w _ hx191_0)).trans hx191_0
         replace hx191_1 := (HB.out.cell (World.block_lt_of_cell? w _ hx191_1)).trans hx191_1
         replace p191 := eq_true p191
         replace q191 := eq_true q191
         have p192 : 0 ≤ ((ji11) : Int) := of_decide_eq_true (by first | (with_reducible assumption) | assumption)
         have q192 : (ji11) < (l0.length : Int) := of_decide_eq_true (by first | (with_reducible assumption) | assumption)
         obtain ⟨ad192, e192, hx192_0, hx192_1⟩ := at_T50 HR0.out (ji11) p192 q192
         obtain rfl : ad190 = ad192 := (by injection e192)
         replace hx192_0 := (HB.out.cell (World.block_lt_of_cell? w _ hx192_0)).trans hx192_0
         replace hx192_1 := (HB.out.cell (World.block_lt_of_cell? w _ hx192_1)).trans hx192_1
         replace p192 := eq_true p192
         replace q192 := eq_true q192
         go_wp2
         repeat (go_quiet (fail); try go_wp2)
         go_ret2
         exact ⟨by first | rfl | (simp [errW_none, errW_some] <;> rfl) | (simp only [← hji11]; first | rfl | (simp [errW_none, errW_some] <;> rfl)) | (simp [*, errW_none, errW_some] <;> rfl), by repeat (first | (with_reducible first | exact HB.out | apply below_alloc | apply pw_below_drewN | apply below_drew1) | exact HB.out)⟩
        ·
         rw [if_neg c14] at H
         have c14b0 : decide (((rd_T50 l0 (ji11)).f1) < a1) = false := decide_eq_false c14
         clear c14
         have H' := Aside0.mk H
         clear H
         have p190 : 0 ≤ (0 : Int) := (by omega)
         have q190 : 0 < (l0.length : Int) := of_decide_eq_true (by first | (with_reducible assumption) | assumption)
         obtain ⟨ad190, e190, hx190_0, hx190_1⟩ := at_T50 HR0.out 0 p190 q190
         cases e190
         have qi190 : (0 < l0.length) = True := eq_true (by omega)
         (try rw [show ((0 : Int)).toNat = 0 from rfl] at hx190_0)
         (try rw [show 0 * 2 = 0 from rfl] at hx190_0)
         (try rw [Addr.add_zero'] at hx190_0)
         (try rw [show ((0 : Int)).toNat = 0 from rfl] at hx190_1)
         (try rw [show 0 * 2 = 0 from rfl] at hx190_1)
         (try rw [Addr.add_zero'] at hx190_1)
         replace hx190_0 := (HB.out.cell (World.block_lt_of_cell? w _ hx190_0)).trans hx190_0
         replace hx190_1 := (HB.out.cell (World.block_lt_of_cell? w _ hx190_1)).trans hx190_1
         replace p190 := eq_true p190
         replace q190 := eq_true q190
         have p191 : 0 ≤ ((ji11) : Int) := of_decide_eq_true (by first | (with_reducible assumption) | assumption)
         have q191 : (ji11) < (l0.length : Int) := of_decide_eq_true (by first | (with_reducible assumption) | assumption)
         obtain ⟨ad191, e191, hx191_0, hx191_1⟩ := at_T50 HR0.out (ji11) p191 q191
         obtain rfl : ad190 = ad191 := (by injection e191)
         replace hx191_0 := (HB.out.cell (World.block_lt_of_cell? w _ hx191_0)).trans hx191_0
         replace hx191_1 := (HB.out.cell (World.block_lt_of_cell? w _ hx191_1)).trans hx191_1
         replace p191 := eq_true p191
         replace q191 := eq_true q191
         have p192 : 0 ≤ ((ji11) : Int) := of_decide_eq_true (by first | (with_reducible assumption) | assumption)
         have q192 : (ji11) < (l0.length : Int) := of_decide_eq_true (by first | (with_reducible assumption) | assumption)
         obtain ⟨ad192, e192, hx192_0, hx192_1⟩ := at_T50 HR0.out (ji11) p192 q192
         obtain rfl : ad190 = ad192 := (by injection e192)
         replace hx192_0 := (HB.out.cell (World.block_lt_of_cell? w _ hx192_0)).trans hx192_0
         replace hx192_1 := (HB.out.cell (World.block_lt_of_cell? w _ hx192_1)).trans hx192_1
         replace p192 := eq_true p192
         replace q192 := eq_true q192
         go_wp2
         repeat (go_quiet (fail); try go_wp2)
         go_loopg [8, 9] kj5 (fun kq v8 v9 w' => ∃ (x8_2 : Int) (x9_2 : Int), v8 = .int .i64 x8_2 ∧ v9 = .int .i64 x9_2 ∧ Aside0 (curve_Inverse.l0 kq l0 a1 x8_2 x9_2 = some (r1, r2)) ∧ Aside0 (kq ≤ kj5) ∧ Aside0 (Below w.heap.size w w'))
         case atStart => exact ⟨((rd_T50 l0 0).f0), ((rd_T50 l0 (ji11)).f0), (by first | rfl | (simp; done) | (simp [*]; done)), (by first | rfl | (simp; done) | (simp only [← hji11] <;> (first | rfl | simp)) | (simp [*]; done)), H', ⟨Nat.le_refl _⟩, ⟨by repeat (first | (with_reducible first | exact HB.out | apply below_alloc | apply pw_below_drewN | apply below_drew1) | exact HB.out)⟩⟩
         case round =>
          clear H'
          try clear c1
          try clear p1
          try clear q1
          try clear hx1
          try clear qi1
          try clear c2
          try clear p2
          try clear c4
          try clear c4b0
          try clear c4b1
          try clear p6
          try clear c8
          try clear c8b0
          try clear c8b1
          try clear c9
          try clear c10
          try clear c10b0
          try clear c10b1
          try clear c12
          try clear c12b0
          try clear c13
          try clear c13b0
          try clear c14
          try clear c14b0
          try clear hx190_0
          try clear hx190_1
          try clear hx191_0
          try clear hx191_1
          try clear hx192_0
          try clear hx192_1
          try clear p190
          try clear p191
          try clear p192
          try clear p2
          try clear q190
          try clear q191
          try clear q192
          obtain ⟨x8_2, x9_2, rfl, rfl, HA, HK2, HB⟩ := hrel
          cases gk with
          | zero => exact absurd HA.out (by simp [curve_Inverse.l0])
          | succ k2 =>
           have H := HA.out
           clear HA
           simp only [curve_Inverse.l0] at H
           by_cases c15 : x8_2 < x9_2
           ·
            rw [if_pos c15] at H
            have c15b0 : decide (x8_2 < x9_2) = true := decide_eq_true c15
            clear c15
            replace H := Option.bind_eq_some_iff.mp H
            obtain ⟨t193, A160, H⟩ := H
            replace H : (if t193 ≥ a1 then (curve_Inverse.l0 k2 l0 a1 x8_2 (wrap64 (x8_2 + (wrap64 (Int.tdiv (wrap64 (x9_2 - x8_2)) 2))))) else (curve_Inverse.l0 k2 l0 a1 (wrap64 ((wrap64 (x8_2 + (wrap64 (Int.tdiv (wrap64 (x9_2 - x8_2)) 2)))) + 1)) x9_2)) = some (r1, r2) := H
            have A16 := Aside0.mk A160
            clear A160
            by_cases c17 : t193 ≥ a1
            ·
             rw [if_pos c17] at H
             have c17b0 : decide (a1 ≤ t193) = true := decide_eq_true c17
             clear c17
             have H' := Aside0.mk H
             clear H
             go_wp2_with (first | (go_at_call 37; (first | (with_reducible refine (curve_value.calls k2 _ _ l0 (wrap64 (x8_2 + (wrap64 (Int.tdiv (wrap64 (x9_2 - x8_2)) 2)))) t193 _ ?side1 ?side2 A16.out).mono ?_) | (simp only [i64_w, i32_w]; with_reducible refine (curve_value.calls k2 _ _ l0 (wrap64 (x8_2 + (wrap64 (Int.tdiv (wrap64 (x9_2 - x8_2)) 2)))) t193 _ ?side1 ?side2 A16.out).mono ?_)); (case side1 => repeat (first | exact (Kd.C_below HR0.out HB.out) | (with_reducible refine Kd.C_alloc ?_ _) | (with_reducible refine Kd.C_drewN ?_ _) | (with_reducible refine Kd.C_drew ?_))); (case side2 => exact HC0.out); rintro e w18 ⟨rfl, hb⟩; have n0_ := Aside0.mk (below_step (by repeat (first | (with_reducible first | exact HB.out | apply below_alloc | apply pw_below_drewN | apply below_drew1) | exact HB.out)) hb); clear HB; have HB := n0_; clear n0_; (try clear hb); (try clear hb2); (try clear hk); (try clear hi)))
             repeat (go_quiet (first | (go_at_call 37; (first | (with_reducible refine (curve_value.calls k2 _ _ l0 (wrap64 (x8_2 + (wrap64 (Int.tdiv (wrap64 (x9_2 - x8_2)) 2)))) t193 _ ?side1 ?side2 A16.out).mono ?_) | (simp only [i64_w, i32_w]; with_reducible refine (curve_value.calls k2 _ _ l0 (wrap64 (x8_2 + (wrap64 (Int.tdiv (wrap64 (x9_2 - x8_2)) 2)))) t193 _ ?side1 ?side2 A16.out).mono ?_)); (case side1 => repeat (first | exact (Kd.C_below HR0.out HB.out) | (with_reducible refine Kd.C_alloc ?_ _) | (with_reducible refine Kd.C_drewN ?_ _) | (with_reducible refine Kd.C_drew ?_))); (case side2 => exact HC0.out); rintro e w18 ⟨rfl, hb⟩; have n0_ := Aside0.mk (below_step (by repeat (first | (with_reducible first | exact HB.out | apply below_alloc | apply pw_below_drewN | apply below_drew1) | exact HB.out)) hb); clear HB; have HB := n0_; clear n0_; (try clear hb); (try clear hb2); (try clear hk); (try clear hi))); try go_wp2_with (first | (go_at_call 37; (first | (with_reducible refine (curve_value.calls k2 _ _ l0 (wrap64 (x8_2 + (wrap64 (Int.tdiv (wrap64 (x9_2 - x8_2)) 2)))) t193 _ ?side1 ?side2 A16.out).mono ?_) | (simp only [i64_w, i32_w]; with_reducible refine (curve_value.calls k2 _ _ l0 (wrap64 (x8_2 + (wrap64 (Int.tdiv (wrap64 (x9_2 - x8_2)) 2)))) t193 _ ?side1 ?side2 A16.out).mono ?_)); (case side1 => repeat (first | exact (Kd.C_below HR0.out HB.out) | (with_reducible refine Kd.C_alloc ?_ _) | (with_reducible refine Kd.C_drewN ?_ _) | (with_reducible refine Kd.C_drew ?_))); (case side2 => exact HC0.out); rintro e w18 ⟨rfl, hb⟩; have n0_ := Aside0.mk (below_step (by repeat (first | (with_reducible first | exact HB.out | apply below_alloc | apply pw_below_drewN | apply below_drew1) | exact HB.out)) hb); clear HB; have HB := n0_; clear n0_; (try clear hb); (try clear hb2); (try clear hk); (try clear hi))))
             go_roundg k2
             case measure => have := HJ5.out; have := HK2.out; omega
             case rel => exact ⟨(x8_2), (wrap64 (x8_2 + (wrap64 (Int.tdiv (wrap64 (x9_2 - x8_2)) 2)))), (by first | rfl | (simp; done) | (simp [*]; done)), (by first | rfl | (simp; done) | (simp [*]; done)), H', ⟨by have := HJ5.out; have := HK2.out; omega⟩, ⟨by repeat (first | (with_reducible first | exact HB.out | apply below_alloc | apply pw_below_drewN | apply below_drew1) | exact HB.out)⟩⟩
            ·
             rw [if_neg c17] at H
             have c17b0 : decide (a1 ≤ t193) = false := decide_eq_false c17
             clear c17
             have H' := Aside0.mk H
             clear H
             go_wp2_with (first | (go_at_call 37; (first | (with_reducible refine (curve_value.calls k2 _ _ l0 (wrap64 (x8_2 + (wrap64 (Int.tdiv (wrap64 (x9_2 - x8_2)) 2)))) t193 _ ?side1 ?side2 A16.out).mono ?_) | (simp only [i64_w, i32_w]; with_reducible refine (curve_value.calls k2 _ _ l0 (wrap64 (x8_2 + (wrap64 (Int.tdiv (wrap64 (x9_2 - x8_2)) 2)))) t193 _ ?side1 ?side2 A16.out).mono ?_)); (case side1 => repeat (first | exact (Kd.C_below HR0.out HB.out) | (with_reducible refine Kd.C_alloc ?_ _) | (with_reducible refine Kd.C_drewN ?_ _) | (with_reducible refine Kd.C_drew ?_))); (case side2 => exact HC0.out); rintro e w19 ⟨rfl, hb⟩; have n0_ := Aside0.mk (below_step (by repeat (first | (with_reducible first | exact HB.out | apply below_alloc | apply pw_below_drewN | apply below_drew1) | exact HB.out)) hb); clear HB; have HB := n0_; clear n0_; (try clear hb); (try clear hb2); (try clear hk); (try clear hi)))
             repeat (go_quiet (first | (go_at_call 37; (first | (with_reducible refine (curve_value.calls k2 _ _ l0 (wrap64 (x8_2 + (wrap64 (Int.tdiv (wrap64 (x9_2 - x8_2)) 2)))) t193 _ ?side1 ?side2 A16.out).mono ?_) | (simp only [i64_w, i32_w]; with_reducible refine (curve_value.calls k2 _ _ l0 (wrap64 (x8_2 + (wrap64 (Int.tdiv (wrap64 (x9_2 - x8_2)) 2)))) t193 _ ?side1 ?side2 A16.out).mono ?_)); (case side1 => repeat (first | exact (Kd.C_below HR0.out HB.out) | (with_reducible refine Kd.C_alloc ?_ _) | (with_reducible refine Kd.C_drewN ?_ _) | (with_reducible refine Kd.C_drew ?_))); (case side2 => exact HC0.out); rintro e w19 ⟨rfl, hb⟩; have n0_ := Aside0.mk (below_step (by repeat (first | (with_reducible first | exact HB.out | apply below_alloc | apply pw_below_drewN | apply below_drew1) | exact HB.out)) hb); clear HB; have HB := n0_; clear n0_; (try clear hb); (try clear hb2); (try clear hk); (try clear hi))); try go_wp2_with (first | (go_at_call 37; (first | (with_reducible refine (curve_value.calls k2 _ _ l0 (wrap64 (x8_2 + (wrap64 (Int.tdiv (wrap64 (x9_2 - x8_2)) 2)))) t193 _ ?side1 ?side2 A16.out).mono ?_) | (simp only [i64_w, i32_w]; with_reducible refine (curve_value.calls k2 _ _ l0 (wrap64 (x8_2 + (wrap64 (Int.tdiv (wrap64 (x9_2 - x8_2)) 2)))) t193 _ ?side1 ?side2 A16.out).mono ?_)); (case side1 => repeat (first | exact (Kd.C_below HR0.out HB.out) | (with_reducible refine Kd.C_alloc ?_ _) | (with_reducible refine Kd.C_drewN ?_ _) | (with_reducible refine Kd.C_drew ?_))); (case side2 => exact HC0.out); rintro e w19 ⟨rfl, hb⟩; have n0_ := Aside0.mk (below_step (by repeat (first | (with_reducible first | exact HB.out | apply below_alloc | apply pw_below_drewN | apply below_drew1) | exact HB.out)) hb); clear HB; have HB := n0_; clear n0_; (try clear hb); (try clear hb2); (try clear hk); (try clear hi))))
             go_roundg k2
             case measure => have := HJ5.out; have := HK2.out; omega
             case rel => exact ⟨(wrap64 ((wrap64 (x8_2 + (wrap64 (Int.tdiv (wrap64 (x9_2 - x8_2)) 2)))) + 1)), (x9_2), (by first | rfl | (simp; done) | (simp [*]; done)), (by first | rfl | (simp; done) | (simp [*]; done)), H', ⟨by have := HJ5.out; have := HK2.out; omega⟩, ⟨by repeat (first | (with_reducible first | exact HB.out | apply below_alloc | apply pw_below_drewN | apply below_drew1) | exact HB.out)⟩⟩
           ·
            rw [if_neg c15] at H
            have c15b0 : decide (x8_2 < x9_2) = false := decide_eq_false c15
            clear c15
            simp only [Option.some.injEq, Prod.mk.injEq] at H
            obtain ⟨rfl, rfl⟩ := H
            go_wp2
            repeat (go_quiet (fail); try go_wp2)
            go_ret2
            exact ⟨by first | rfl | (simp [errW_none, errW_some] <;> rfl) | (simp only [← hji11]; first | rfl | (simp [errW_none, errW_some] <;> rfl)) | (simp [*, errW_none, errW_some] <;> rfl), by repeat (first | (with_reducible first | exact HB.out | apply below_alloc | apply pw_below_drewN | apply below_drew1) | exact HB.out)⟩
       ·
        rw [if_neg c13] at H
        exact absurd H (by simp)
      ·
       rw [if_neg c12] at H
       exact absurd H (by simp)
     ·
      rw [if_neg c10] at H
      exact absurd H (by simp)
 ·
  rw [if_neg c4] at H
  have c4b0 : (t188 == 0) = false := beq_eq_false_iff_ne.mpr c4
  have c4b1 : (t188 != 0) = true := bne_iff_ne.mpr c4
  simp only [Option.some.injEq, Prod.mk.injEq] at H
  obtain ⟨rfl, rfl⟩ := H
  go_enter Try.func25, Try.ntmps25
  go_wp2_with (first | (go_at_call 22; (with_reducible refine (curve_Check.calls k _ _ l0 t188 _ ?side1 ?side2 A3.out).mono ?_); (case side1 => repeat (first | exact HR0.out | (with_reducible refine Kd.C_alloc ?_ _) | (with_reducible refine Kd.C_drewN ?_ _) | (with_reducible refine Kd.C_drew ?_))); (case side2 => exact HC0.out); rintro e w20 ⟨rfl, hb⟩; have n0_ := Aside0.mk (below_step (by repeat (first | (with_reducible first | exact HB.out | apply below_alloc | apply pw_below_drewN | apply below_drew1) | exact HB.out)) hb); clear HB; have HB := n0_; clear n0_; (try clear hb); (try clear hb2); (try clear hk); (try clear hi)))
  repeat (go_quiet (first | (go_at_call 22; (with_reducible refine (curve_Check.calls k _ _ l0 t188 _ ?side1 ?side2 A3.out).mono ?_); (case side1 => repeat (first | exact HR0.out | (with_reducible refine Kd.C_alloc ?_ _) | (with_reducible refine Kd.C_drewN ?_ _) | (with_reducible refine Kd.C_drew ?_))); (case side2 => exact HC0.out); rintro e w20 ⟨rfl, hb⟩; have n0_ := Aside0.mk (below_step (by repeat (first | (with_reducible first | exact HB.out | apply below_alloc | apply pw_below_drewN | apply below_drew1) | exact HB.out)) hb); clear HB; have HB := n0_; clear n0_; (try clear hb); (try clear hb2); (try clear hk); (try clear hi))); try go_wp2_with (first | (go_at_call 22; (with_reducible refine (curve_Check.calls k _ _ l0 t188 _ ?side1 ?side2 A3.out).mono ?_); (case side1 => repeat (first | exact HR0.out | (with_reducible refine Kd.C_alloc ?_ _) | (with_reducible refine Kd.C_drewN ?_ _) | (with_reducible refine Kd.C_drew ?_))); (case side2 => exact HC0.out); rintro e w20 ⟨rfl, hb⟩; have n0_ := Aside0.mk (below_step (by repeat (first | (with_reducible first | exact HB.out | apply below_alloc | apply pw_below_drewN | apply below_drew1) | exact HB.out)) hb); clear HB; have HB := n0_; clear n0_; (try clear hb); (try clear hb2); (try clear hk); (try clear hi))))
  go_ret2
  exact ⟨by first | rfl | (simp [errW_none, errW_some] <;> rfl) | (simp [*, errW_none, errW_some] <;> rfl), by repeat (first | (with_reducible first | exact HB.out | apply below_alloc | apply pw_below_drewN | apply below_drew1) | exact HB.out)⟩
end Go.Proofs.Ytacheoimnckghaa.PT
