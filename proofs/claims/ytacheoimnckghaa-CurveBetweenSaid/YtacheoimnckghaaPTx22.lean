-- Laid by hp.py (a program of this session's) through the kit's printer. (squeezed)
import Derived.Test.YtacheoimnckghaaPTx0
namespace Go.Proofs.Ytacheoimnckghaa.PT
open Go.RowKit Go.Proofs.YtacheoimnckghaaW.PrintWords Go.Proofs.YtacheoimnckghaaW.PrintLast Go.Proofs.YtacheoimnckghaaW.PrintMore
attribute [local go_sem] max2_int min2_int max_two min_two max_three min_three max_four min_four   -- for this text's walks alone
set_option linter.unusedVariables false
set_option linter.unusedSimpArgs false
/-! ### curve_direction: function 38 -/
mutual
def curve_direction.l0 : Nat → List (S50) → Bool → Bool → Int → Option (Int)
 | 0, _, _, _, _ => none
 | k + 1, x0, x3, x4, x5 => if x5 < (x0.length : Int) then (if x3 = true then (if x4 = true then (curve_direction.l0 k x0 true true (wrap64 (x5 + 1))) else (if 0 ≤ x5 then (if 0 ≤ (wrap64 (x5 - 1)) then (if (wrap64 (x5 - 1)) < (x0.length : Int) then (curve_direction.l0 k x0 true (decide (((rd_T50 x0 x5).f1) < ((rd_T50 x0 (wrap64 (x5 - 1))).f1))) (wrap64 (x5 + 1))) else (none)) else (none)) else (none))) else (if 0 ≤ x5 then (if 0 ≤ (wrap64 (x5 - 1)) then (if (wrap64 (x5 - 1)) < (x0.length : Int) then (if x4 = true then (curve_direction.l0 k x0 (decide (((rd_T50 x0 x5).f1) > ((rd_T50 x0 (wrap64 (x5 - 1))).f1))) true (wrap64 (x5 + 1))) else (curve_direction.l0 k x0 (decide (((rd_T50 x0 x5).f1) > ((rd_T50 x0 (wrap64 (x5 - 1))).f1))) (decide (((rd_T50 x0 x5).f1) < ((rd_T50 x0 (wrap64 (x5 - 1))).f1))) (wrap64 (x5 + 1)))) else (none)) else (none)) else (none))) else (if x3 = true then (curve_direction.j1 k x3 x4 x4) else (curve_direction.j1 k x3 x4 false))
def curve_direction.j1 : Nat → Bool → Bool → Bool → Option (Int)
 | 0, _, _, _ => none
 | k + 1, x3, x4, x42 => if x42 = true then (some 2) else (if x3 = true then (some 1) else (if x4 = true then (some (-1)) else (some 0)))
end
def curve_direction.f (k : Nat) (l0 : List (S50)) : Option (Int) := curve_direction.l0 k l0 false false 1
theorem curve_direction.mono_l : ∀ k, (∀ y0 y1 y2 y3, LeO (curve_direction.l0 k y0 y1 y2 y3) (curve_direction.l0 (k + 1) y0 y1 y2 y3)) ∧ (∀ y0 y1 y2, LeO (curve_direction.j1 k y0 y1 y2) (curve_direction.j1 (k + 1) y0 y1 y2))
 | 0 => ⟨fun _ _ _ _ r h => by simp [curve_direction.l0] at h, fun _ _ _ r h => by simp [curve_direction.j1] at h⟩
 | k + 1 => by
  obtain ⟨ih0, ih1⟩ := curve_direction.mono_l k
  refine ⟨?_, ?_⟩
  ·
   intro y0 y1 y2 y3
   unfold curve_direction.l0
   repeat' first
   | (with_reducible exact ih0 _ _ _ _)
   | (with_reducible exact ih1 _ _ _)
   | (with_reducible exact LeO.refl _)
   | (with_reducible exact LeO.none _)
   | (with_reducible refine LeO.ite ?_ ?_)
   | (with_reducible refine LeO.bind ?_ (fun _ => ?_))
   | exact ih0 _ _ _ _
   | exact ih1 _ _ _
   | exact LeO.none _
   | refine LeO.ite ?_ ?_
   | refine LeO.bind ?_ (fun _ => ?_)
  ·
   intro y0 y1 y2
   unfold curve_direction.j1
   repeat' first
   | (with_reducible exact ih0 _ _ _ _)
   | (with_reducible exact ih1 _ _ _)
   | (with_reducible exact LeO.refl _)
   | (with_reducible exact LeO.none _)
   | (with_reducible refine LeO.ite ?_ ?_)
   | (with_reducible refine LeO.bind ?_ (fun _ => ?_))
   | exact ih0 _ _ _ _
   | exact ih1 _ _ _
   | exact LeO.none _
   | refine LeO.ite ?_ ?_
   | refine LeO.bind ?_ (fun _ => ?_)
theorem curve_direction.mono : ∀ a0 k, LeO (curve_direction.f k a0) (curve_direction.f (k + 1) a0) := by
 intro a0 k
 obtain ⟨ih0, ih1⟩ := curve_direction.mono_l k
 unfold curve_direction.f
 repeat' first
  | (with_reducible exact ih0 _ _ _ _)
  | (with_reducible exact ih1 _ _ _)
  | (with_reducible exact LeO.refl _)
  | (with_reducible exact LeO.none _)
  | (with_reducible refine LeO.ite ?_ ?_)
  | (with_reducible refine LeO.bind ?_ (fun _ => ?_))
  | exact ih0 _ _ _ _
  | exact ih1 _ _ _
  | exact LeO.none _
  | refine LeO.ite ?_ ?_
  | refine LeO.bind ?_ (fun _ => ?_)
set_option maxHeartbeats 8000000 in
set_option maxRecDepth 100000 in
theorem curve_direction.calls (k : Nat) (A0 : Option Addr) (c0 : Nat) (l0 : List (S50)) (r : Int) (w : World) (hr0 : Kd.C k50 w A0 l0.length l0) (hc0 : l0.length ≤ c0) (h : curve_direction.f k l0 = some r) :
 Calls Try.prog 38 #[.slice A0 l0.length c0] w fun e w' => e = .returned (.int .i64 r) ∧ Drawn0 w w' := by
 have HR0 := Aside0.mk hr0
 have HC0 := Aside0.mk hc0
 clear hr0 hc0
 have H : (curve_direction.l0 k l0 false false 1) = some r := h
 clear h
 have H' := Aside0.mk H
 clear H
 go_enter Try.func38, Try.ntmps38
 go_wp2
 repeat (go_quiet (fail); try go_wp2)
 go_loopg [3, 4, 5] k (fun kq v3 v4 v5 w' => ∃ (x3_1 : Bool) (x4_1 : Bool) (x5_1 : Int), v3 = .bool x3_1 ∧ v4 = .bool x4_1 ∧ v5 = .int .i64 x5_1 ∧ Aside0 (curve_direction.l0 kq l0 x3_1 x4_1 x5_1 = some r) ∧ Aside0 (kq ≤ k) ∧ Drawn0 w w')
 case atStart => exact ⟨(false), (false), (1), (by first | rfl | (simp; done) | (simp [*]; done)), (by first | rfl | (simp; done) | (simp [*]; done)), (by first | rfl | (simp; done) | (simp [*]; done)), H', ⟨Nat.le_refl _⟩, by repeat (first | exact Drawn0.refl _ | apply Drawn0.step)⟩
 case round =>
  clear H'
  obtain ⟨x3_1, x4_1, x5_1, rfl, rfl, rfl, HA, HK1, ⟨m1, rfl⟩⟩ := hrel
  cases gk with
  | zero => exact absurd HA.out (by simp [curve_direction.l0])
  | succ k1 =>
   have H := HA.out
   clear HA
   simp only [curve_direction.l0] at H
   by_cases c2 : x5_1 < (l0.length : Int)
   ·
    rw [if_pos c2] at H
    have c2b0 : decide (x5_1 < (l0.length : Int)) = true := decide_eq_true c2
    clear c2
    by_cases c3 : x3_1 = true
    ·
     subst c3
     have H1 : (if x4_1 = true then (curve_direction.l0 k1 l0 true true (wrap64 (x5_1 + 1))) else (if 0 ≤ x5_1 then (if 0 ≤ (wrap64 (x5_1 - 1)) then (if (wrap64 (x5_1 - 1)) < (l0.length : Int) then (curve_direction.l0 k1 l0 true (decide (((rd_T50 l0 x5_1).f1) < ((rd_T50 l0 (wrap64 (x5_1 - 1))).f1))) (wrap64 (x5_1 + 1))) else (none)) else (none)) else (none))) = some r := by rw [if_pos rfl] at H; exact H
     clear H
     have H := H1
     clear H1
     by_cases c4 : x4_1 = true
     ·
      subst c4
      have H1 : (curve_direction.l0 k1 l0 true true (wrap64 (x5_1 + 1))) = some r := by rw [if_pos rfl] at H; exact H
      clear H
      have H := H1
      clear H1
      have H' := Aside0.mk H
      clear H
      go_wp2
      repeat (go_quiet (fail); try go_wp2)
      go_roundg k1
      case measure => have := HK1.out; omega
      case rel => exact ⟨(true), (true), (wrap64 (x5_1 + 1)), (by first | rfl | (simp; done) | (simp [*]; done)), (by first | rfl | (simp; done) | (simp [*]; done)), (by first | rfl | (simp; done) | (simp [*]; done)), H', ⟨by have := HK1.out; omega⟩, by repeat (first | exact Drawn0.refl _ | apply Drawn0.step)⟩
     ·
      replace c4 := Bool.eq_false_iff.mpr c4
      subst c4
      have H1 : (if 0 ≤ x5_1 then (if 0 ≤ (wrap64 (x5_1 - 1)) then (if (wrap64 (x5_1 - 1)) < (l0.length : Int) then (curve_direction.l0 k1 l0 true (decide (((rd_T50 l0 x5_1).f1) < ((rd_T50 l0 (wrap64 (x5_1 - 1))).f1))) (wrap64 (x5_1 + 1))) else (none)) else (none)) else (none)) = some r := by rw [if_neg (show ¬ (false = true) by decide)] at H; exact H
      clear H
      have H := H1
      clear H1
      by_cases c5 : 0 ≤ x5_1
      ·
       rw [if_pos c5] at H
       have c5b0 : decide (0 ≤ x5_1) = true := decide_eq_true c5
       clear c5
       obtain ⟨ji6, hji6⟩ : ∃ j_ : Int, (wrap64 (x5_1 - 1)) = j_ := ⟨_, rfl⟩
       replace H : (if 0 ≤ (ji6) then (if (ji6) < (l0.length : Int) then (curve_direction.l0 k1 l0 true (decide (((rd_T50 l0 x5_1).f1) < ((rd_T50 l0 (ji6)).f1))) (wrap64 (x5_1 + 1))) else (none)) else (none)) = some r := by first | (rw [hji6] at H; exact H) | (simp only [hji6] at H ⊢; exact H)
       have hji6w : (IntKind.i64.wrap (x5_1 - 1)) = ji6 := (i64_w _).trans hji6
       by_cases c7 : 0 ≤ (ji6)
       ·
        rw [if_pos c7] at H
        have c7b0 : decide (0 ≤ (ji6)) = true := decide_eq_true c7
        clear c7
        by_cases c8 : (ji6) < (l0.length : Int)
        ·
         rw [if_pos c8] at H
         have c8b0 : decide ((ji6) < (l0.length : Int)) = true := decide_eq_true c8
         clear c8
         have H' := Aside0.mk H
         clear H
         have p180 : 0 ≤ (x5_1 : Int) := of_decide_eq_true (by first | (with_reducible assumption) | assumption)
         have q180 : x5_1 < (l0.length : Int) := of_decide_eq_true (by first | (with_reducible assumption) | assumption)
         obtain ⟨ad180, e180, hx180_0, hx180_1⟩ := at_T50 HR0.out x5_1 p180 q180
         cases e180
         replace p180 := eq_true p180
         replace q180 := eq_true q180
         have p181 : 0 ≤ ((ji6) : Int) := of_decide_eq_true (by first | (with_reducible assumption) | assumption)
         have q181 : (ji6) < (l0.length : Int) := of_decide_eq_true (by first | (with_reducible assumption) | assumption)
         obtain ⟨ad181, e181, hx181_0, hx181_1⟩ := at_T50 HR0.out (ji6) p181 q181
         obtain rfl : ad180 = ad181 := (by injection e181)
         replace p181 := eq_true p181
         replace q181 := eq_true q181
         go_wp2
         repeat (go_quiet (fail); try go_wp2)
         go_roundg k1
         case measure => have := HK1.out; omega
         case rel => exact ⟨(true), (decide (((rd_T50 l0 x5_1).f1) < ((rd_T50 l0 (ji6)).f1))), (wrap64 (x5_1 + 1)), (by first | rfl | (simp; done) | (simp [*]; done)), (by first | rfl | (simp; done) | (simp only [← hji6] <;> (first | rfl | simp)) | (simp [*]; done)), (by first | rfl | (simp; done) | (simp [*]; done)), H', ⟨by have := HK1.out; omega⟩, by repeat (first | exact Drawn0.refl _ | apply Drawn0.step)⟩
        ·
         rw [if_neg c8] at H
         exact absurd H (by simp)
       ·
        rw [if_neg c7] at H
        exact absurd H (by simp)
      ·
       rw [if_neg c5] at H
       exact absurd H (by simp)
    ·
     replace c3 := Bool.eq_false_iff.mpr c3
     subst c3
     have H1 : (if 0 ≤ x5_1 then (if 0 ≤ (wrap64 (x5_1 - 1)) then (if (wrap64 (x5_1 - 1)) < (l0.length : Int) then (if x4_1 = true then (curve_direction.l0 k1 l0 (decide (((rd_T50 l0 x5_1).f1) > ((rd_T50 l0 (wrap64 (x5_1 - 1))).f1))) true (wrap64 (x5_1 + 1))) else (curve_direction.l0 k1 l0 (decide (((rd_T50 l0 x5_1).f1) > ((rd_T50 l0 (wrap64 (x5_1 - 1))).f1))) (decide (((rd_T50 l0 x5_1).f1) < ((rd_T50 l0 (wrap64 (x5_1 - 1))).f1))) (wrap64 (x5_1 + 1)))) else (none)) else (none)) else (none)) = some r := by rw [if_neg (show ¬ (false = true) by decide)] at H; exact H
     clear H
     have H := H1
     clear H1
     by_cases c9 : 0 ≤ x5_1
     ·
      rw [if_pos c9] at H
      have c9b0 : decide (0 ≤ x5_1) = true := decide_eq_true c9
      clear c9
      obtain ⟨ji10, hji10⟩ : ∃ j_ : Int, (wrap64 (x5_1 - 1)) = j_ := ⟨_, rfl⟩
      replace H : (if 0 ≤ (ji10) then (if (ji10) < (l0.length : Int) then (if x4_1 = true then (curve_direction.l0 k1 l0 (decide (((rd_T50 l0 x5_1).f1) > ((rd_T50 l0 (ji10)).f1))) true (wrap64 (x5_1 + 1))) else (curve_direction.l0 k1 l0 (decide (((rd_T50 l0 x5_1).f1) > ((rd_T50 l0 (ji10)).f1))) (decide (((rd_T50 l0 x5_1).f1) < ((rd_T50 l0 (ji10)).f1))) (wrap64 (x5_1 + 1)))) else (none)) else (none)) = some r := by first | (rw [hji10] at H; exact H) | (simp only [hji10] at H ⊢; exact H)
      have hji10w : (IntKind.i64.wrap (x5_1 - 1)) = ji10 := (i64_w _).trans hji10
      by_cases c11 : 0 ≤ (ji10)
      ·
       rw [if_pos c11] at H
       have c11b0 : decide (0 ≤ (ji10)) = true := decide_eq_true c11
       clear c11
       by_cases c12 : (ji10) < (l0.length : Int)
       ·
        rw [if_pos c12] at H
        have c12b0 : decide ((ji10) < (l0.length : Int)) = true := decide_eq_true c12
        clear c12
        by_cases c13 : x4_1 = true
        ·
         subst c13
         have H1 : (curve_direction.l0 k1 l0 (decide (((rd_T50 l0 x5_1).f1) > ((rd_T50 l0 (ji10)).f1))) true (wrap64 (x5_1 + 1))) = some r := by rw [if_pos rfl] at H; exact H
         clear H
         have H := H1
         clear H1
         have H' := Aside0.mk H
         clear H
         have p182 : 0 ≤ (x5_1 : Int) := of_decide_eq_true (by first | (with_reducible assumption) | assumption)
         have q182 : x5_1 < (l0.length : Int) := of_decide_eq_true (by first | (with_reducible assumption) | assumption)
         obtain ⟨ad182, e182, hx182_0, hx182_1⟩ := at_T50 HR0.out x5_1 p182 q182
         cases e182
         replace p182 := eq_true p182
         replace q182 := eq_true q182
         have p183 : 0 ≤ ((ji10) : Int) := of_decide_eq_true (by first | (with_reducible assumption) | assumption)
         have q183 : (ji10) < (l0.length : Int) := of_decide_eq_true (by first | (with_reducible assumption) | assumption)
         obtain ⟨ad183, e183, hx183_0, hx183_1⟩ := at_T50 HR0.out (ji10) p183 q183
         obtain rfl : ad182 = ad183 := (by injection e183)
         replace p183 := eq_true p183
         replace q183 := eq_true q183
         go_wp2
         repeat (go_quiet (fail); try go_wp2)
         go_roundg k1
         case measure => have := HK1.out; omega
         case rel => exact ⟨(decide (((rd_T50 l0 x5_1).f1) > ((rd_T50 l0 (ji10)).f1))), (true), (wrap64 (x5_1 + 1)), (by first | rfl | (simp; done) | (simp only [← hji10] <;> (first | rfl | simp)) | (simp [*]; done)), (by first | rfl | (simp; done) | (simp [*]; done)), (by first | rfl | (simp; done) | (simp [*]; done)), H', ⟨by have := HK1.out; omega⟩, by repeat (first | exact Drawn0.refl _ | apply Drawn0.step)⟩
        ·
         replace c13 := Bool.eq_false_iff.mpr c13
         subst c13
         have H1 : (curve_direction.l0 k1 l0 (decide (((rd_T50 l0 x5_1).f1) > ((rd_T50 l0 (ji10)).f1))) (decide (((rd_T50 l0 x5_1).f1) < ((rd_T50 l0 (ji10)).f1))) (wrap64 (x5_1 + 1))) = some r := by rw [if_neg (show ¬ (false = true) by decide)] at H; exact H
         clear H
         have H := H1
         clear H1
         have H' := Aside0.mk H
         clear H
         have p182 : 0 ≤ (x5_1 : Int) := of_decide_eq_true (by first | (with_reducible assumption) | assumption)
         have q182 : x5_1 < (l0.length : Int) := of_decide_eq_true (by first | (with_reducible assumption) | assumption)
         obtain ⟨ad182, e182, hx182_0, hx182_1⟩ := at_T50 HR0.out x5_1 p182 q182
         cases e182
         replace p182 := eq_true p182
         replace q182 := eq_true q182
         have p183 : 0 ≤ ((ji10) : Int) := of_decide_eq_true (by first | (with_reducible assumption) | assumption)
         have q183 : (ji10) < (l0.length : Int) := of_decide_eq_true (by first | (with_reducible assumption) | assumption)
         obtain ⟨ad183, e183, hx183_0, hx183_1⟩ := at_T50 HR0.out (ji10) p183 q183
         obtain rfl : ad182 = ad183 := (by injection e183)
         replace p183 := eq_true p183
         replace q183 := eq_true q183
         have p184 : 0 ≤ (x5_1 : Int) := of_decide_eq_true (by first | (with_reducible assumption) | assumption)
         have q184 : x5_1 < (l0.length : Int) := of_decide_eq_true (by first | (with_reducible assumption) | assumption)
         obtain ⟨ad184, e184, hx184_0, hx184_1⟩ := at_T50 HR0.out x5_1 p184 q184
         obtain rfl : ad182 = ad184 := (by injection e184)
         replace p184 := eq_true p184
         replace q184 := eq_true q184
         have p185 : 0 ≤ ((ji10) : Int) := of_decide_eq_true (by first | (with_reducible assumption) | assumption)
         have q185 : (ji10) < (l0.length : Int) := of_decide_eq_true (by first | (with_reducible assumption) | assumption)
         obtain ⟨ad185, e185, hx185_0, hx185_1⟩ := at_T50 HR0.out (ji10) p185 q185
         obtain rfl : ad182 = ad185 := (by injection e185)
         replace p185 := eq_true p185
         replace q185 := eq_true q185
         go_wp2
         repeat (go_quiet (fail); try go_wp2)
         go_roundg k1
         case measure => have := HK1.out; omega
         case rel => exact ⟨(decide (((rd_T50 l0 x5_1).f1) > ((rd_T50 l0 (ji10)).f1))), (decide (((rd_T50 l0 x5_1).f1) < ((rd_T50 l0 (ji10)).f1))), (wrap64 (x5_1 + 1)), (by first | rfl | (simp; done) | (simp only [← hji10] <;> (first | rfl | simp)) | (simp [*]; done)), (by first | rfl | (simp; done) | (simp only [← hji10] <;> (first | rfl | simp)) | (simp [*]; done)), (by first | rfl | (simp; done) | (simp [*]; done)), H', ⟨by have := HK1.out; omega⟩, by repeat (first | exact Drawn0.refl _ | apply Drawn0.step)⟩
       ·
        rw [if_neg c12] at H
        exact absurd H (by simp)
      ·
       rw [if_neg c11] at H
       exact absurd H (by simp)
     ·
      rw [if_neg c9] at H
      exact absurd H (by simp)
   ·
    rw [if_neg c2] at H
    have c2b0 : decide (x5_1 < (l0.length : Int)) = false := decide_eq_false c2
    clear c2
    have HC14 := Aside0.mk H
    clear H
    go_upto_region 7 with (fail)
    repeat (go_quiet (fail); go_upto_region 7 with (fail))
    go_cut [42] (fun v42 wc => ∃ (kq : Nat) (x42_13 : Bool), v42 = .bool x42_13 ∧ Aside0 (curve_direction.j1 kq x3_1 x4_1 x42_13 = some r) ∧ Aside0 (kq ≤ k1) ∧ Drawn0 w wc)
    case first =>
     have H := HC14.out
     clear HC14
     by_cases c15 : x3_1 = true
     ·
      subst c15
      have H1 : (curve_direction.j1 k1 true x4_1 x4_1) = some r := by rw [if_pos rfl] at H; exact H
      clear H
      have H := H1
      clear H1
      have H' := Aside0.mk H
      clear H
      go_wp2
      repeat (go_quiet (fail); try go_wp2)
      go_meet
      case rel => exact ⟨_, (x4_1), (by first | rfl | (simp; done) | (simp [*]; done)), H', ⟨by have := HK1.out; first | omega | exact Nat.le_refl _⟩, by repeat (first | exact Drawn0.refl _ | apply Drawn0.step)⟩
     ·
      replace c15 := Bool.eq_false_iff.mpr c15
      subst c15
      have H1 : (curve_direction.j1 k1 false x4_1 false) = some r := by rw [if_neg (show ¬ (false = true) by decide)] at H; exact H
      clear H
      have H := H1
      clear H1
      have H' := Aside0.mk H
      clear H
      go_wp2
      repeat (go_quiet (fail); try go_wp2)
      go_meet
      case rel => exact ⟨_, (false), (by first | rfl | (simp; done) | (simp [*]; done)), H', ⟨by have := HK1.out; first | omega | exact Nat.le_refl _⟩, by repeat (first | exact Drawn0.refl _ | apply Drawn0.step)⟩
    case rest =>
     clear HC14
     try clear c1
     try clear p1
     try clear q1
     try clear hx1
     try clear c2
     try clear c2b0
     try clear p2
     try clear c3
     try clear c4
     try clear c5
     try clear c5b0
     try clear p6
     try clear c7
     try clear c7b0
     try clear c8
     try clear c8b0
     try clear c9
     try clear c9b0
     try clear c11
     try clear c11b0
     try clear c12
     try clear c12b0
     try clear c13
     try clear c15
     try clear hx180_0
     try clear hx180_1
     try clear hx181_0
     try clear hx181_1
     try clear hx182_0
     try clear hx182_1
     try clear hx183_0
     try clear hx183_1
     try clear hx184_0
     try clear hx184_1
     try clear hx185_0
     try clear hx185_1
     try clear p180
     try clear p181
     try clear p182
     try clear p183
     try clear p184
     try clear p185
     try clear q180
     try clear q181
     try clear q182
     try clear q183
     try clear q184
     try clear q185
     obtain ⟨kq, x42_13, rfl, HA, HJ13, ⟨mc13, rfl⟩⟩ := hcut
     cases kq with
     | zero => exact absurd HA.out (by simp [curve_direction.j1])
     | succ kj13 =>
      have H := HA.out
      clear HA
      simp only [curve_direction.j1] at H
      by_cases c16 : x42_13 = true
      ·
       subst c16
       have H1 : (some 2) = some r := by rw [if_pos rfl] at H; exact H
       clear H
       have H := H1
       clear H1
       obtain rfl := Option.some.inj H
       go_wp2
       repeat (go_quiet (fail); try go_wp2)
       go_ret
       exact ⟨by first | rfl | (simp; done) | (simp [*]; done), by repeat (first | exact Drawn0.refl _ | apply Drawn0.step)⟩
      ·
       replace c16 := Bool.eq_false_iff.mpr c16
       subst c16
       have H1 : (if x3_1 = true then (some 1) else (if x4_1 = true then (some (-1)) else (some 0))) = some r := by rw [if_neg (show ¬ (false = true) by decide)] at H; exact H
       clear H
       have H := H1
       clear H1
       by_cases c17 : x3_1 = true
       ·
        subst c17
        have H1 : (some 1) = some r := by rw [if_pos rfl] at H; exact H
        clear H
        have H := H1
        clear H1
        obtain rfl := Option.some.inj H
        go_wp2
        repeat (go_quiet (fail); try go_wp2)
        go_ret
        exact ⟨by first | rfl | (simp; done) | (simp [*]; done), by repeat (first | exact Drawn0.refl _ | apply Drawn0.step)⟩
       ·
        replace c17 := Bool.eq_false_iff.mpr c17
        subst c17
        have H1 : (if x4_1 = true then (some (-1)) else (some 0)) = some r := by rw [if_neg (show ¬ (false = true) by decide)] at H; exact H
        clear H
        have H := H1
        clear H1
        by_cases c18 : x4_1 = true
        ·
         subst c18
         have H1 : (some (-1)) = some r := by rw [if_pos rfl] at H; exact H
         clear H
         have H := H1
         clear H1
         obtain rfl := Option.some.inj H
         go_wp2
         repeat (go_quiet (fail); try go_wp2)
         go_ret
         exact ⟨by first | rfl | (simp; done) | (simp [*]; done), by repeat (first | exact Drawn0.refl _ | apply Drawn0.step)⟩
        ·
         replace c18 := Bool.eq_false_iff.mpr c18
         subst c18
         have H1 : (some 0) = some r := by rw [if_neg (show ¬ (false = true) by decide)] at H; exact H
         clear H
         have H := H1
         clear H1
         obtain rfl := Option.some.inj H
         go_wp2
         repeat (go_quiet (fail); try go_wp2)
         go_ret
         exact ⟨by first | rfl | (simp; done) | (simp [*]; done), by repeat (first | exact Drawn0.refl _ | apply Drawn0.step)⟩
end Go.Proofs.Ytacheoimnckghaa.PT
