-- Laid by hp.py (a program of this session's) through the kit's printer. (squeezed)
import Derived.Test.YtacheoimnckghaaPTx0
import Derived.Test.YtacheoimnckghaaPTx45
namespace Go.Proofs.Ytacheoimnckghaa.PT
open Go.RowKit Go.Proofs.YtacheoimnckghaaW.PrintWords Go.Proofs.YtacheoimnckghaaW.PrintLast Go.Proofs.YtacheoimnckghaaW.PrintMore
attribute [local go_sem] max2_int min2_int max_two min_two max_three min_three max_four min_four   -- for this text's walks alone
set_option linter.unusedVariables false
set_option linter.unusedSimpArgs false
/-! ### plenumref03_Eval: function 23 -/
def plenumref03_Eval.l0 : Nat → List (S50) → Int → Int → Option (Int)
 | 0, _, _, _ => none
 | k + 1, x0, x1, x6 => if 0 ≤ (wrap64 (x6 + 1)) then (if (wrap64 (x6 + 1)) < (x0.length : Int) then (if ((rd_T50 x0 (wrap64 (x6 + 1))).f0) ≤ x1 then (plenumref03_Eval.l0 k x0 x1 (wrap64 (x6 + 1))) else (if 0 ≤ x6 then (if x6 < (x0.length : Int) then ((plenumref01_Line.f k x1 ((rd_T50 x0 x6).f0) ((rd_T50 x0 x6).f1) ((rd_T50 x0 (wrap64 (x6 + 1))).f0) ((rd_T50 x0 (wrap64 (x6 + 1))).f1)).bind fun t434 => (some t434)) else (none)) else (none))) else (none)) else (none)
def plenumref03_Eval.f (k : Nat) (l0 : List (S50)) (a1 : Int) : Option (Int) := if 0 < (l0.length : Int) then (if a1 ≤ ((rd_T50 l0 0).f0) then (some ((rd_T50 l0 0).f1)) else (if 0 ≤ (wrap64 ((l0.length : Int) - 1)) then (if (wrap64 ((l0.length : Int) - 1)) < (l0.length : Int) then (if a1 ≥ ((rd_T50 l0 (wrap64 ((l0.length : Int) - 1))).f0) then (some ((rd_T50 l0 (wrap64 ((l0.length : Int) - 1))).f1)) else (plenumref03_Eval.l0 k l0 a1 0)) else (none)) else (none))) else (none)
theorem plenumref03_Eval.mono_l : ∀ k, (∀ y0 y1 y2, LeO (plenumref03_Eval.l0 k y0 y1 y2) (plenumref03_Eval.l0 (k + 1) y0 y1 y2))
 | 0 => fun _ _ _ r h => by simp [plenumref03_Eval.l0] at h
 | k + 1 => by
  have ih0 := plenumref03_Eval.mono_l k
  ·
   intro y0 y1 y2
   unfold plenumref03_Eval.l0
   repeat' first
   | (with_reducible exact ih0 _ _ _)
   | (with_reducible exact plenumref01_Line.mono _ _ _ _ _ _)
   | (with_reducible exact LeO.refl _)
   | (with_reducible exact LeO.none _)
   | (with_reducible refine LeO.ite ?_ ?_)
   | (with_reducible refine LeO.bind ?_ (fun _ => ?_))
   | exact ih0 _ _ _
   | exact plenumref01_Line.mono _ _ _ _ _ _
   | exact LeO.none _
   | refine LeO.ite ?_ ?_
   | refine LeO.bind ?_ (fun _ => ?_)
theorem plenumref03_Eval.mono : ∀ a0 a1 k, LeO (plenumref03_Eval.f k a0 a1) (plenumref03_Eval.f (k + 1) a0 a1) := by
 intro a0 a1 k
 have ih0 := plenumref03_Eval.mono_l k
 unfold plenumref03_Eval.f
 repeat' first
  | (with_reducible exact ih0 _ _ _)
  | (with_reducible exact plenumref01_Line.mono _ _ _ _ _ _)
  | (with_reducible exact LeO.refl _)
  | (with_reducible exact LeO.none _)
  | (with_reducible refine LeO.ite ?_ ?_)
  | (with_reducible refine LeO.bind ?_ (fun _ => ?_))
  | exact ih0 _ _ _
  | exact plenumref01_Line.mono _ _ _ _ _ _
  | exact LeO.none _
  | refine LeO.ite ?_ ?_
  | refine LeO.bind ?_ (fun _ => ?_)
def plenumref03_Eval.T9 : Bool × List (List Nat × List Nat) := (true, [([], []), ([], []), ([], []), ([1, 2], [1, 2]), ([3], [3]), ([4], [4]), ([], []), ([], []), ([6, 7], [6, 7]), ([8], [8]), ([9], [9]), ([], []), ([], []), ([12], [12]), ([11, 13], [11, 13]), ([14], [14]), ([15], [15]), ([], []), ([], []), ([18], [18]), ([17, 19], [17, 19]), ([20], [20]), ([21], [21]), ([0, 5, 10, 16, 22], [0, 5, 10, 16, 22]), ([23, 23, 0, 1, 2, 3, 4, 5, 6, 7, 8, 9, 10, 11, 12, 13, 14, 15, 16, 17, 18, 19, 20, 21, 22, 23], [23])])
def plenumref03_Eval.B9 : List Nat := [0, 0, 0, 6, 14, 30, 0, 0, 192, 448, 960, 0, 0, 4096, 14336, 30720, 63488, 0, 0, 262144, 917504, 1966080, 4063232, 8388607, 16777215]
theorem plenumref03_Eval.tab9 : rtab .any (opsOf Try.f23 9) = plenumref03_Eval.T9 := by kernel_rfl
theorem plenumref03_Eval.bits9 : waitsOk plenumref03_Eval.T9.2 plenumref03_Eval.B9 = true := by kernel_rfl
set_option maxHeartbeats 8000000 in
set_option maxRecDepth 100000 in
theorem plenumref03_Eval.calls (k : Nat) (A0 : Option Addr) (c0 : Nat) (l0 : List (S50)) (a1 : Int) (r : Int) (w : World) (hr0 : Kd.C k50 w A0 l0.length l0) (hc0 : l0.length ≤ c0) (h : plenumref03_Eval.f k l0 a1 = some r) :
 Calls Try.prog 23 #[.slice A0 l0.length c0, .int .i64 a1] w fun e w' => e = .returned (.int .i64 r) ∧ Below w.heap.size w w' := by
 have HR0 := Aside0.mk hr0
 have HC0 := Aside0.mk hc0
 clear hr0 hc0
 have HB := Aside0.mk (Below.refl w.heap.size w)
 have H : (if 0 < (l0.length : Int) then (if a1 ≤ ((rd_T50 l0 0).f0) then (some ((rd_T50 l0 0).f1)) else (if 0 ≤ (wrap64 ((l0.length : Int) - 1)) then (if (wrap64 ((l0.length : Int) - 1)) < (l0.length : Int) then (if a1 ≥ ((rd_T50 l0 (wrap64 ((l0.length : Int) - 1))).f0) then (some ((rd_T50 l0 (wrap64 ((l0.length : Int) - 1))).f1)) else (plenumref03_Eval.l0 k l0 a1 0)) else (none)) else (none))) else (none)) = some r := h
 clear h
 by_cases c3 : 0 < (l0.length : Int)
 ·
  rw [if_pos c3] at H
  have c3b0 : decide (0 < (l0.length : Int)) = true := decide_eq_true c3
  have c3b1 : decide (0 < l0.length) = true := decide_eq_true (by omega)
  clear c3
  by_cases c4 : a1 ≤ ((rd_T50 l0 0).f0)
  ·
   rw [if_pos c4] at H
   have c4b0 : decide (a1 ≤ ((rd_T50 l0 0).f0)) = true := decide_eq_true c4
   clear c4
   obtain rfl := Option.some.inj H
   have p425 : 0 ≤ (0 : Int) := (by omega)
   have q425 : 0 < (l0.length : Int) := of_decide_eq_true (by first | (with_reducible assumption) | assumption)
   obtain ⟨ad425, e425, hx425_0, hx425_1⟩ := at_T50 HR0.out 0 p425 q425
   cases e425
   have qi425 : (0 < l0.length) = True := eq_true (by omega)
   (try rw [show ((0 : Int)).toNat = 0 from rfl] at hx425_0)
   (try rw [show 0 * 2 = 0 from rfl] at hx425_0)
   (try rw [Addr.add_zero'] at hx425_0)
   (try rw [show ((0 : Int)).toNat = 0 from rfl] at hx425_1)
   (try rw [show 0 * 2 = 0 from rfl] at hx425_1)
   (try rw [Addr.add_zero'] at hx425_1)
   replace p425 := eq_true p425
   replace q425 := eq_true q425
   have p426 : 0 ≤ (0 : Int) := (by omega)
   have q426 : 0 < (l0.length : Int) := of_decide_eq_true (by first | (with_reducible assumption) | assumption)
   obtain ⟨ad426, e426, hx426_0, hx426_1⟩ := at_T50 HR0.out 0 p426 q426
   obtain rfl : ad425 = ad426 := (by injection e426)
   have qi426 : (0 < l0.length) = True := eq_true (by omega)
   (try rw [show ((0 : Int)).toNat = 0 from rfl] at hx426_0)
   (try rw [show 0 * 2 = 0 from rfl] at hx426_0)
   (try rw [Addr.add_zero'] at hx426_0)
   (try rw [show ((0 : Int)).toNat = 0 from rfl] at hx426_1)
   (try rw [show 0 * 2 = 0 from rfl] at hx426_1)
   (try rw [Addr.add_zero'] at hx426_1)
   replace p426 := eq_true p426
   replace q426 := eq_true q426
   go_enter Try.func23, Try.ntmps23
   go_wp2
   go_ret
   exact ⟨by first | rfl | (simp [errW_none, errW_some] <;> rfl) | (simp [*, errW_none, errW_some] <;> rfl), by repeat (first | (with_reducible first | exact HB.out | apply below_alloc | apply pw_below_drewN | apply below_drew1) | exact HB.out)⟩
  ·
   rw [if_neg c4] at H
   have c4b0 : decide (a1 ≤ ((rd_T50 l0 0).f0)) = false := decide_eq_false c4
   clear c4
   obtain ⟨ji5, hji5⟩ : ∃ j_ : Int, (wrap64 ((l0.length : Int) - 1)) = j_ := ⟨_, rfl⟩
   replace H : (if 0 ≤ (ji5) then (if (ji5) < (l0.length : Int) then (if a1 ≥ ((rd_T50 l0 (ji5)).f0) then (some ((rd_T50 l0 (ji5)).f1)) else (plenumref03_Eval.l0 k l0 a1 0)) else (none)) else (none)) = some r := by first | (rw [hji5] at H; exact H) | (simp only [hji5] at H ⊢; exact H)
   have hji5w : (IntKind.i64.wrap ((l0.length : Int) - 1)) = ji5 := (i64_w _).trans hji5
   by_cases c6 : 0 ≤ (ji5)
   ·
    rw [if_pos c6] at H
    have c6b0 : decide (0 ≤ (ji5)) = true := decide_eq_true c6
    clear c6
    by_cases c7 : (ji5) < (l0.length : Int)
    ·
     rw [if_pos c7] at H
     have c7b0 : decide ((ji5) < (l0.length : Int)) = true := decide_eq_true c7
     clear c7
     by_cases c8 : a1 ≥ ((rd_T50 l0 (ji5)).f0)
     ·
      rw [if_pos c8] at H
      have c8b0 : decide (((rd_T50 l0 (ji5)).f0) ≤ a1) = true := decide_eq_true c8
      clear c8
      obtain rfl := Option.some.inj H
      have p425 : 0 ≤ (0 : Int) := (by omega)
      have q425 : 0 < (l0.length : Int) := of_decide_eq_true (by first | (with_reducible assumption) | assumption)
      obtain ⟨ad425, e425, hx425_0, hx425_1⟩ := at_T50 HR0.out 0 p425 q425
      cases e425
      have qi425 : (0 < l0.length) = True := eq_true (by omega)
      (try rw [show ((0 : Int)).toNat = 0 from rfl] at hx425_0)
      (try rw [show 0 * 2 = 0 from rfl] at hx425_0)
      (try rw [Addr.add_zero'] at hx425_0)
      (try rw [show ((0 : Int)).toNat = 0 from rfl] at hx425_1)
      (try rw [show 0 * 2 = 0 from rfl] at hx425_1)
      (try rw [Addr.add_zero'] at hx425_1)
      replace p425 := eq_true p425
      replace q425 := eq_true q425
      have p427 : 0 ≤ ((ji5) : Int) := of_decide_eq_true (by first | (with_reducible assumption) | assumption)
      have q427 : (ji5) < (l0.length : Int) := of_decide_eq_true (by first | (with_reducible assumption) | assumption)
      obtain ⟨ad427, e427, hx427_0, hx427_1⟩ := at_T50 HR0.out (ji5) p427 q427
      obtain rfl : ad425 = ad427 := (by injection e427)
      replace p427 := eq_true p427
      replace q427 := eq_true q427
      have p428 : 0 ≤ ((ji5) : Int) := of_decide_eq_true (by first | (with_reducible assumption) | assumption)
      have q428 : (ji5) < (l0.length : Int) := of_decide_eq_true (by first | (with_reducible assumption) | assumption)
      obtain ⟨ad428, e428, hx428_0, hx428_1⟩ := at_T50 HR0.out (ji5) p428 q428
      obtain rfl : ad425 = ad428 := (by injection e428)
      replace p428 := eq_true p428
      replace q428 := eq_true q428
      go_enter Try.func23, Try.ntmps23
      go_wp2
      go_ret
      exact ⟨by first | rfl | (simp [errW_none, errW_some] <;> rfl) | (simp only [← hji5]; first | rfl | (simp [errW_none, errW_some] <;> rfl)) | (simp [*, errW_none, errW_some] <;> rfl), by repeat (first | (with_reducible first | exact HB.out | apply below_alloc | apply pw_below_drewN | apply below_drew1) | exact HB.out)⟩
     ·
      rw [if_neg c8] at H
      have c8b0 : decide (((rd_T50 l0 (ji5)).f0) ≤ a1) = false := decide_eq_false c8
      clear c8
      have H' := Aside0.mk H
      clear H
      have p425 : 0 ≤ (0 : Int) := (by omega)
      have q425 : 0 < (l0.length : Int) := of_decide_eq_true (by first | (with_reducible assumption) | assumption)
      obtain ⟨ad425, e425, hx425_0, hx425_1⟩ := at_T50 HR0.out 0 p425 q425
      cases e425
      have qi425 : (0 < l0.length) = True := eq_true (by omega)
      (try rw [show ((0 : Int)).toNat = 0 from rfl] at hx425_0)
      (try rw [show 0 * 2 = 0 from rfl] at hx425_0)
      (try rw [Addr.add_zero'] at hx425_0)
      (try rw [show ((0 : Int)).toNat = 0 from rfl] at hx425_1)
      (try rw [show 0 * 2 = 0 from rfl] at hx425_1)
      (try rw [Addr.add_zero'] at hx425_1)
      replace p425 := eq_true p425
      replace q425 := eq_true q425
      have p427 : 0 ≤ ((ji5) : Int) := of_decide_eq_true (by first | (with_reducible assumption) | assumption)
      have q427 : (ji5) < (l0.length : Int) := of_decide_eq_true (by first | (with_reducible assumption) | assumption)
      obtain ⟨ad427, e427, hx427_0, hx427_1⟩ := at_T50 HR0.out (ji5) p427 q427
      obtain rfl : ad425 = ad427 := (by injection e427)
      replace p427 := eq_true p427
      replace q427 := eq_true q427
      go_enter Try.func23, Try.ntmps23
      go_wp2
      go_loopg [6] k (fun kq v6 w' => ∃ (x6_1 : Int), v6 = .int .i64 x6_1 ∧ Aside0 (plenumref03_Eval.l0 kq l0 a1 x6_1 = some r) ∧ Aside0 (kq ≤ k) ∧ Aside0 (Below w.heap.size w w'))
      case atStart => exact ⟨(0), (by first | rfl | (simp; done) | (simp [*]; done)), H', ⟨Nat.le_refl _⟩, ⟨by repeat (first | (with_reducible first | exact HB.out | apply below_alloc | apply pw_below_drewN | apply below_drew1) | exact HB.out)⟩⟩
      case round =>
       clear H'
       try clear c2
       try clear p2
       try clear c3
       try clear c3b0
       try clear c3b1
       try clear c4
       try clear c4b0
       try clear p4
       try clear q4
       try clear hx4
       try clear qi4
       try clear c6
       try clear c6b0
       try clear p6
       try clear c7
       try clear c7b0
       try clear c8
       try clear c8b0
       try clear hx425_0
       try clear hx425_1
       try clear hx426_0
       try clear hx426_1
       try clear hx427_0
       try clear hx427_1
       try clear hx428_0
       try clear hx428_1
       try clear p425
       try clear p426
       try clear p427
       try clear p428
       try clear q425
       try clear q426
       try clear q427
       try clear q428
       obtain ⟨x6_1, rfl, HA, HK1, HB⟩ := hrel
       cases gk with
       | zero => exact absurd HA.out (by simp [plenumref03_Eval.l0])
       | succ k1 =>
        have H := HA.out
        clear HA
        simp only [plenumref03_Eval.l0] at H
        obtain ⟨ji9, hji9⟩ : ∃ j_ : Int, (wrap64 (x6_1 + 1)) = j_ := ⟨_, rfl⟩
        replace H : (if 0 ≤ (ji9) then (if (ji9) < (l0.length : Int) then (if ((rd_T50 l0 (ji9)).f0) ≤ a1 then (plenumref03_Eval.l0 k1 l0 a1 ji9) else (if 0 ≤ x6_1 then (if x6_1 < (l0.length : Int) then ((plenumref01_Line.f k1 a1 ((rd_T50 l0 x6_1).f0) ((rd_T50 l0 x6_1).f1) ((rd_T50 l0 (ji9)).f0) ((rd_T50 l0 (ji9)).f1)).bind fun t434 => (some t434)) else (none)) else (none))) else (none)) else (none)) = some r := by first | (rw [hji9] at H; exact H) | (simp only [hji9] at H ⊢; exact H)
        have hji9w : (IntKind.i64.wrap (x6_1 + 1)) = ji9 := (i64_w _).trans hji9
        by_cases c10 : 0 ≤ (ji9)
        ·
         rw [if_pos c10] at H
         have c10b0 : decide (0 ≤ (ji9)) = true := decide_eq_true c10
         clear c10
         by_cases c11 : (ji9) < (l0.length : Int)
         ·
          rw [if_pos c11] at H
          have c11b0 : decide ((ji9) < (l0.length : Int)) = true := decide_eq_true c11
          clear c11
          by_cases c12 : ((rd_T50 l0 (ji9)).f0) ≤ a1
          ·
           rw [if_pos c12] at H
           have c12b0 : decide (((rd_T50 l0 (ji9)).f0) ≤ a1) = true := decide_eq_true c12
           clear c12
           have H' := Aside0.mk H
           clear H
           have p429 : 0 ≤ ((ji9) : Int) := of_decide_eq_true (by first | (with_reducible assumption) | assumption)
           have q429 : (ji9) < (l0.length : Int) := of_decide_eq_true (by first | (with_reducible assumption) | assumption)
           obtain ⟨ad429, e429, hx429_0, hx429_1⟩ := at_T50 HR0.out (ji9) p429 q429
           obtain rfl : ad425 = ad429 := (by injection e429)
           replace hx429_0 := (HB.out.cell (World.block_lt_of_cell? w _ hx429_0)).trans hx429_0
           replace hx429_1 := (HB.out.cell (World.block_lt_of_cell? w _ hx429_1)).trans hx429_1
           replace p429 := eq_true p429
           replace q429 := eq_true q429
           go_wp2
           go_roundg k1
           case measure => have := HK1.out; omega
           case rel => exact ⟨(ji9), (by first | rfl | (simp; done) | (simp only [← hji9] <;> (first | rfl | simp)) | (simp [*]; done)), H', ⟨by have := HK1.out; omega⟩, ⟨by repeat (first | (with_reducible first | exact HB.out | apply below_alloc | apply pw_below_drewN | apply below_drew1) | exact HB.out)⟩⟩
          ·
           rw [if_neg c12] at H
           have c12b0 : decide (((rd_T50 l0 (ji9)).f0) ≤ a1) = false := decide_eq_false c12
           clear c12
           by_cases c13 : 0 ≤ x6_1
           ·
            rw [if_pos c13] at H
            have c13b0 : decide (0 ≤ x6_1) = true := decide_eq_true c13
            clear c13
            by_cases c14 : x6_1 < (l0.length : Int)
            ·
             rw [if_pos c14] at H
             have c14b0 : decide (x6_1 < (l0.length : Int)) = true := decide_eq_true c14
             clear c14
             replace H := Option.bind_eq_some_iff.mp H
             obtain ⟨t434, A150, H⟩ := H
             replace H : (some t434) = some r := H
             have A15 := Aside0.mk A150
             clear A150
             obtain rfl := Option.some.inj H
             have p429 : 0 ≤ ((ji9) : Int) := of_decide_eq_true (by first | (with_reducible assumption) | assumption)
             have q429 : (ji9) < (l0.length : Int) := of_decide_eq_true (by first | (with_reducible assumption) | assumption)
             obtain ⟨ad429, e429, hx429_0, hx429_1⟩ := at_T50 HR0.out (ji9) p429 q429
             obtain rfl : ad425 = ad429 := (by injection e429)
             replace hx429_0 := (HB.out.cell (World.block_lt_of_cell? w _ hx429_0)).trans hx429_0
             replace hx429_1 := (HB.out.cell (World.block_lt_of_cell? w _ hx429_1)).trans hx429_1
             replace p429 := eq_true p429
             replace q429 := eq_true q429
             try go_wp2
             have n0_ := Aside0.mk (below_drew1 HB.out)
             clear HB
             have HB := n0_
             clear n0_
             have p430 : 0 ≤ (x6_1 : Int) := of_decide_eq_true (by first | (with_reducible assumption) | assumption)
             have q430 : x6_1 < (l0.length : Int) := of_decide_eq_true (by first | (with_reducible assumption) | assumption)
             obtain ⟨ad430, e430, hx430_0, hx430_1⟩ := at_T50 HR0.out x6_1 p430 q430
             have hw430_1 := hx430_1
             have hw430_0 := hx430_0
             obtain rfl : ad425 = ad430 := (by injection e430)
             replace hx430_0 := (HB.out.cell (World.block_lt_of_cell? w _ hx430_0)).trans hx430_0
             replace hx430_1 := (HB.out.cell (World.block_lt_of_cell? w _ hx430_1)).trans hx430_1
             replace p430 := eq_true p430
             replace q430 := eq_true q430
             have p431 : 0 ≤ (x6_1 : Int) := of_decide_eq_true (by first | (with_reducible assumption) | assumption)
             have q431 : x6_1 < (l0.length : Int) := of_decide_eq_true (by first | (with_reducible assumption) | assumption)
             obtain ⟨ad431, e431, hx431_0, hx431_1⟩ := at_T50 HR0.out x6_1 p431 q431
             have hw431_1 := hx431_1
             have hw431_0 := hx431_0
             obtain rfl : ad425 = ad431 := (by injection e431)
             replace hx431_0 := (HB.out.cell (World.block_lt_of_cell? w _ hx431_0)).trans hx431_0
             replace hx431_1 := (HB.out.cell (World.block_lt_of_cell? w _ hx431_1)).trans hx431_1
             replace p431 := eq_true p431
             replace q431 := eq_true q431
             have p432 : 0 ≤ ((ji9) : Int) := of_decide_eq_true (by first | (with_reducible assumption) | assumption)
             have q432 : (ji9) < (l0.length : Int) := of_decide_eq_true (by first | (with_reducible assumption) | assumption)
             obtain ⟨ad432, e432, hx432_0, hx432_1⟩ := at_T50 HR0.out (ji9) p432 q432
             have hw432_1 := hx432_1
             have hw432_0 := hx432_0
             obtain rfl : ad425 = ad432 := (by injection e432)
             replace hx432_0 := (HB.out.cell (World.block_lt_of_cell? w _ hx432_0)).trans hx432_0
             replace hx432_1 := (HB.out.cell (World.block_lt_of_cell? w _ hx432_1)).trans hx432_1
             replace p432 := eq_true p432
             replace q432 := eq_true q432
             have p433 : 0 ≤ ((ji9) : Int) := of_decide_eq_true (by first | (with_reducible assumption) | assumption)
             have q433 : (ji9) < (l0.length : Int) := of_decide_eq_true (by first | (with_reducible assumption) | assumption)
             obtain ⟨ad433, e433, hx433_0, hx433_1⟩ := at_T50 HR0.out (ji9) p433 q433
             have hw433_1 := hx433_1
             have hw433_0 := hx433_0
             obtain rfl : ad425 = ad433 := (by injection e433)
             replace hx433_0 := (HB.out.cell (World.block_lt_of_cell? w _ hx433_0)).trans hx433_0
             replace hx433_1 := (HB.out.cell (World.block_lt_of_cell? w _ hx433_1)).trans hx433_1
             replace p433 := eq_true p433
             replace q433 := eq_true q433
             refine start_ (n := 25) (S := fun w' => w'.cell? (ad425.add ((x6_1).toNat * 2)) = some (.int .i64 ((rd_T50 l0 x6_1).f0)) ∧ w'.cell? ⟨(ad425.add ((x6_1).toNat * 2)).block, (ad425.add ((x6_1).toNat * 2)).off + 1, none⟩ = some (.int .i64 ((rd_T50 l0 x6_1).f1)) ∧ w'.cell? (ad425.add ((x6_1).toNat * 2)) = some (.int .i64 ((rd_T50 l0 x6_1).f0)) ∧ w'.cell? ⟨(ad425.add ((x6_1).toNat * 2)).block, (ad425.add ((x6_1).toNat * 2)).off + 1, none⟩ = some (.int .i64 ((rd_T50 l0 x6_1).f1)) ∧ w'.cell? (ad425.add (((ji9)).toNat * 2)) = some (.int .i64 ((rd_T50 l0 (ji9)).f0)) ∧ w'.cell? ⟨(ad425.add (((ji9)).toNat * 2)).block, (ad425.add (((ji9)).toNat * 2)).off + 1, none⟩ = some (.int .i64 ((rd_T50 l0 (ji9)).f1)) ∧ w'.cell? (ad425.add (((ji9)).toNat * 2)) = some (.int .i64 ((rd_T50 l0 (ji9)).f0)) ∧ w'.cell? ⟨(ad425.add (((ji9)).toNat * 2)).block, (ad425.add (((ji9)).toNat * 2)).off + 1, none⟩ = some (.int .i64 ((rd_T50 l0 (ji9)).f1))) (ds := []) #[false, false, false, false, false, false, false, false, false, false, false, false, false, false, false, false, false, false, false, false, false, false, false, false, false] (by kernel_rfl) rfl rfl ⟨((HB.out.cell (World.block_lt_of_cell? w _ hw430_0)).trans hw430_0), ((HB.out.cell (World.block_lt_of_cell? w _ hw430_1)).trans hw430_1), ((HB.out.cell (World.block_lt_of_cell? w _ hw431_0)).trans hw431_0), ((HB.out.cell (World.block_lt_of_cell? w _ hw431_1)).trans hw431_1), ((HB.out.cell (World.block_lt_of_cell? w _ hw432_0)).trans hw432_0), ((HB.out.cell (World.block_lt_of_cell? w _ hw432_1)).trans hw432_1), ((HB.out.cell (World.block_lt_of_cell? w _ hw433_0)).trans hw433_0), ((HB.out.cell (World.block_lt_of_cell? w _ hw433_1)).trans hw433_1)⟩ (fun hHeld => ?_); refine with_tabW plenumref03_Eval.tab9 plenumref03_Eval.bits9 (fun HT_ HW_ => ?_)
             generalize wr.drew = w16 at HB hx430_0 hx430_1 hx431_0 hx431_1 hx432_0 hx432_1 hx433_0 hx433_1 hHeld ⊢
             refine pure_ (i := 0) (N := some 43) (v := ?_) (a' := ?_) #[true, false, false, false, false, false, false, false, false, false, false, false, false, false, false, false, false, false, false, false, false, false, false, false, false] rfl rfl (any_of HT_.out (by kernel_rfl)) (fun _ _ _ h => h) (Or.inl ⟨by rfl, ?_⟩) ?_ ?_
             rotate_left
             ·
              intro w'
              go_simp
              with_reducible rfl
             rotate_left
             ·
              simp only [Act.put, List.setIfInBounds_toArray, List.set_cons_zero, List.set_cons_succ, i64_w, i32_w]
              rfl
             refine pure_ (i := 1) (N := some 44) (v := ?_) (a' := ?_) #[true, true, false, false, false, false, false, false, false, false, false, false, false, false, false, false, false, false, false, false, false, false, false, false, false] rfl rfl (any_of HT_.out (by kernel_rfl)) (fun _ _ _ h => h) (Or.inl ⟨by rfl, ?_⟩) ?_ ?_
             rotate_left
             ·
              intro w'
              go_simp
              with_reducible rfl
             rotate_left
             ·
              simp only [Act.put, List.setIfInBounds_toArray, List.set_cons_zero, List.set_cons_succ, i64_w, i32_w]
              rfl
             refine pure_ (i := 2) (N := some 45) (v := ?_) (a' := ?_) #[true, true, true, false, false, false, false, false, false, false, false, false, false, false, false, false, false, false, false, false, false, false, false, false, false] rfl rfl (any_of HT_.out (by kernel_rfl)) (fun _ _ _ h => h) (Or.inl ⟨by rfl, ?_⟩) ?_ ?_
             rotate_left
             ·
              intro w'
              go_simp
              with_reducible rfl
             rotate_left
             ·
              simp only [Act.put, List.setIfInBounds_toArray, List.set_cons_zero, List.set_cons_succ, i64_w, i32_w]
              rfl
             refine pure_ (i := 3) (N := some 46) (v := ?_) (a' := ?_) #[true, true, true, true, false, false, false, false, false, false, false, false, false, false, false, false, false, false, false, false, false, false, false, false, false] rfl rfl (any_of HT_.out (by kernel_rfl)) (fun _ _ _ h => h) (Or.inl ⟨by rfl, ?_⟩) ?_ ?_
             rotate_left
             ·
              intro w'
              go_simp
              with_reducible rfl
             rotate_left
             ·
              simp only [Act.put, List.setIfInBounds_toArray, List.set_cons_zero, List.set_cons_succ, i64_w, i32_w]
              rfl
             refine pure_ (i := 4) (N := some 47) (v := ?_) (a' := ?_) #[true, true, true, true, true, false, false, false, false, false, false, false, false, false, false, false, false, false, false, false, false, false, false, false, false] rfl rfl (any_of HT_.out (by kernel_rfl)) (fun _ _ _ h => h) (Or.inl ⟨by rfl, ?_⟩) ?_ ?_
             rotate_left
             ·
              intro w'
              go_simp
              with_reducible rfl
             rotate_left
             ·
              simp only [Act.put, List.setIfInBounds_toArray, List.set_cons_zero, List.set_cons_succ, i64_w, i32_w]
              rfl
             refine pure_ (i := 6) (N := some 49) (v := ?_) (a' := ?_) #[true, true, true, true, true, false, true, false, false, false, false, false, false, false, false, false, false, false, false, false, false, false, false, false, false] rfl rfl (any_of HT_.out (by kernel_rfl)) (fun _ _ _ h => h) (Or.inl ⟨by rfl, ?_⟩) ?_ ?_
             rotate_left
             ·
              intro w'
              go_simp
              with_reducible rfl
             rotate_left
             ·
              simp only [Act.put, List.setIfInBounds_toArray, List.set_cons_zero, List.set_cons_succ, i64_w, i32_w]
              rfl
             refine pure_ (i := 7) (N := some 50) (v := ?_) (a' := ?_) #[true, true, true, true, true, false, true, true, false, false, false, false, false, false, false, false, false, false, false, false, false, false, false, false, false] rfl rfl (any_of HT_.out (by kernel_rfl)) (fun _ _ _ h => h) (Or.inl ⟨by rfl, ?_⟩) ?_ ?_
             rotate_left
             ·
              intro w'
              go_simp
              with_reducible rfl
             rotate_left
             ·
              simp only [Act.put, List.setIfInBounds_toArray, List.set_cons_zero, List.set_cons_succ, i64_w, i32_w]
              rfl
             refine pure_ (i := 8) (N := some 51) (v := ?_) (a' := ?_) #[true, true, true, true, true, false, true, true, true, false, false, false, false, false, false, false, false, false, false, false, false, false, false, false, false] rfl rfl (any_of HT_.out (by kernel_rfl)) (fun _ _ _ h => h) (Or.inl ⟨by rfl, ?_⟩) ?_ ?_
             rotate_left
             ·
              intro w'
              go_simp
              with_reducible rfl
             rotate_left
             ·
              simp only [Act.put, List.setIfInBounds_toArray, List.set_cons_zero, List.set_cons_succ, i64_w, i32_w]
              rfl
             refine pure_ (i := 9) (N := some 52) (v := ?_) (a' := ?_) #[true, true, true, true, true, false, true, true, true, true, false, false, false, false, false, false, false, false, false, false, false, false, false, false, false] rfl rfl (any_of HT_.out (by kernel_rfl)) (fun _ _ _ h => h) (Or.inl ⟨by rfl, ?_⟩) ?_ ?_
             rotate_left
             ·
              intro w'
              go_simp
              with_reducible rfl
             rotate_left
             ·
              simp only [Act.put, List.setIfInBounds_toArray, List.set_cons_zero, List.set_cons_succ, i64_w, i32_w]
              rfl
             refine pure_ (i := 11) (N := some 54) (v := ?_) (a' := ?_) #[true, true, true, true, true, false, true, true, true, true, false, true, false, false, false, false, false, false, false, false, false, false, false, false, false] rfl rfl (any_of HT_.out (by kernel_rfl)) (fun _ _ _ h => h) (Or.inl ⟨by rfl, ?_⟩) ?_ ?_
             rotate_left
             ·
              intro w'
              go_simp
              with_reducible rfl
             rotate_left
             ·
              simp only [Act.put, List.setIfInBounds_toArray, List.set_cons_zero, List.set_cons_succ, i64_w, i32_w]
              rfl
             refine pure_ (i := 12) (N := some 55) (v := ?_) (a' := ?_) #[true, true, true, true, true, false, true, true, true, true, false, true, true, false, false, false, false, false, false, false, false, false, false, false, false] rfl rfl (any_of HT_.out (by kernel_rfl)) (fun _ _ _ h => h) (Or.inl ⟨by rfl, ?_⟩) ?_ ?_
             rotate_left
             ·
              intro w'
              go_simp
              with_reducible rfl
             rotate_left
             ·
              simp only [Act.put, List.setIfInBounds_toArray, List.set_cons_zero, List.set_cons_succ, i64_w, i32_w]
              rfl
             refine pure_ (i := 13) (N := some 56) (v := ?_) (a' := ?_) #[true, true, true, true, true, false, true, true, true, true, false, true, true, true, false, false, false, false, false, false, false, false, false, false, false] rfl rfl (any_of HT_.out (by kernel_rfl)) (fun _ _ _ h => h) (Or.inl ⟨by rfl, ?_⟩) ?_ ?_
             rotate_left
             ·
              intro w'
              go_simp
              with_reducible rfl
             rotate_left
             ·
              simp only [Act.put, List.setIfInBounds_toArray, List.set_cons_zero, List.set_cons_succ, i64_w, i32_w]
              rfl
             refine pure_ (i := 14) (N := some 57) (v := ?_) (a' := ?_) #[true, true, true, true, true, false, true, true, true, true, false, true, true, true, true, false, false, false, false, false, false, false, false, false, false] rfl rfl (any_of HT_.out (by kernel_rfl)) (fun _ _ _ h => h) (Or.inl ⟨by rfl, ?_⟩) ?_ ?_
             rotate_left
             ·
              intro w'
              go_simp
              with_reducible rfl
             rotate_left
             ·
              simp only [Act.put, List.setIfInBounds_toArray, List.set_cons_zero, List.set_cons_succ, i64_w, i32_w]
              rfl
             refine pure_ (i := 15) (N := some 58) (v := ?_) (a' := ?_) #[true, true, true, true, true, false, true, true, true, true, false, true, true, true, true, true, false, false, false, false, false, false, false, false, false] rfl rfl (any_of HT_.out (by kernel_rfl)) (fun _ _ _ h => h) (Or.inl ⟨by rfl, ?_⟩) ?_ ?_
             rotate_left
             ·
              intro w'
              go_simp
              with_reducible rfl
             rotate_left
             ·
              simp only [Act.put, List.setIfInBounds_toArray, List.set_cons_zero, List.set_cons_succ, i64_w, i32_w]
              rfl
             refine pure_ (i := 17) (N := some 60) (v := ?_) (a' := ?_) #[true, true, true, true, true, false, true, true, true, true, false, true, true, true, true, true, false, true, false, false, false, false, false, false, false] rfl rfl (any_of HT_.out (by kernel_rfl)) (fun _ _ _ h => h) (Or.inl ⟨by rfl, ?_⟩) ?_ ?_
             rotate_left
             ·
              intro w'
              go_simp
              with_reducible rfl
             rotate_left
             ·
              simp only [Act.put, List.setIfInBounds_toArray, List.set_cons_zero, List.set_cons_succ, i64_w, i32_w]
              rfl
             refine pure_ (i := 18) (N := some 61) (v := ?_) (a' := ?_) #[true, true, true, true, true, false, true, true, true, true, false, true, true, true, true, true, false, true, true, false, false, false, false, false, false] rfl rfl (any_of HT_.out (by kernel_rfl)) (fun _ _ _ h => h) (Or.inl ⟨by rfl, ?_⟩) ?_ ?_
             rotate_left
             ·
              intro w'
              go_simp
              with_reducible rfl
             rotate_left
             ·
              simp only [Act.put, List.setIfInBounds_toArray, List.set_cons_zero, List.set_cons_succ, i64_w, i32_w]
              rfl
             refine pure_ (i := 19) (N := some 62) (v := ?_) (a' := ?_) #[true, true, true, true, true, false, true, true, true, true, false, true, true, true, true, true, false, true, true, true, false, false, false, false, false] rfl rfl (any_of HT_.out (by kernel_rfl)) (fun _ _ _ h => h) (Or.inl ⟨by rfl, ?_⟩) ?_ ?_
             rotate_left
             ·
              intro w'
              go_simp
              with_reducible rfl
             rotate_left
             ·
              simp only [Act.put, List.setIfInBounds_toArray, List.set_cons_zero, List.set_cons_succ, i64_w, i32_w]
              rfl
             refine pure_ (i := 20) (N := some 63) (v := ?_) (a' := ?_) #[true, true, true, true, true, false, true, true, true, true, false, true, true, true, true, true, false, true, true, true, true, false, false, false, false] rfl rfl (any_of HT_.out (by kernel_rfl)) (fun _ _ _ h => h) (Or.inl ⟨by rfl, ?_⟩) ?_ ?_
             rotate_left
             ·
              intro w'
              go_simp
              with_reducible rfl
             rotate_left
             ·
              simp only [Act.put, List.setIfInBounds_toArray, List.set_cons_zero, List.set_cons_succ, i64_w, i32_w]
              rfl
             refine pure_ (i := 21) (N := some 64) (v := ?_) (a' := ?_) #[true, true, true, true, true, false, true, true, true, true, false, true, true, true, true, true, false, true, true, true, true, true, false, false, false] rfl rfl (any_of HT_.out (by kernel_rfl)) (fun _ _ _ h => h) (Or.inl ⟨by rfl, ?_⟩) ?_ ?_
             rotate_left
             ·
              intro w'
              go_simp
              with_reducible rfl
             rotate_left
             ·
              simp only [Act.put, List.setIfInBounds_toArray, List.set_cons_zero, List.set_cons_succ, i64_w, i32_w]
              rfl
             refine take_ (i := 5) (N := some 48) (v := ?_) (a' := ?_) #[true, true, true, true, true, true, true, true, true, true, false, true, true, true, true, true, false, true, true, true, true, true, false, false, false] rfl rfl (take_ofW HT_.out HW_.out (by kernel_rfl)) (fun _ _ _ h => h) (Or.inl ⟨by rfl, ?_⟩) hHeld ?_ ?_
             rotate_left
             ·
              rintro w' ⟨s0, s1, s2, s3, s4, s5, s6, s7⟩
              go_simp
              with_reducible rfl
             rotate_left
             ·
              simp only [Act.put, List.setIfInBounds_toArray, List.set_cons_zero, List.set_cons_succ, i64_w, i32_w]
              rfl
             refine take_ (i := 10) (N := some 53) (v := ?_) (a' := ?_) #[true, true, true, true, true, true, true, true, true, true, true, true, true, true, true, true, false, true, true, true, true, true, false, false, false] rfl rfl (take_ofW HT_.out HW_.out (by kernel_rfl)) (fun _ _ _ h => h) (Or.inl ⟨by rfl, ?_⟩) hHeld ?_ ?_
             rotate_left
             ·
              rintro w' ⟨s0, s1, s2, s3, s4, s5, s6, s7⟩
              go_simp
              with_reducible rfl
             rotate_left
             ·
              simp only [Act.put, List.setIfInBounds_toArray, List.set_cons_zero, List.set_cons_succ, i64_w, i32_w]
              rfl
             refine take_ (i := 16) (N := some 59) (v := ?_) (a' := ?_) #[true, true, true, true, true, true, true, true, true, true, true, true, true, true, true, true, true, true, true, true, true, true, false, false, false] rfl rfl (take_ofW HT_.out HW_.out (by kernel_rfl)) (fun _ _ _ h => h) (Or.inl ⟨by rfl, ?_⟩) hHeld ?_ ?_
             rotate_left
             ·
              rintro w' ⟨s0, s1, s2, s3, s4, s5, s6, s7⟩
              go_simp
              with_reducible rfl
             rotate_left
             ·
              simp only [Act.put, List.setIfInBounds_toArray, List.set_cons_zero, List.set_cons_succ, i64_w, i32_w]
              rfl
             refine take_ (i := 22) (N := some 65) (v := ?_) (a' := ?_) #[true, true, true, true, true, true, true, true, true, true, true, true, true, true, true, true, true, true, true, true, true, true, true, false, false] rfl rfl (take_ofW HT_.out HW_.out (by kernel_rfl)) (fun _ _ _ h => h) (Or.inl ⟨by rfl, ?_⟩) hHeld ?_ ?_
             rotate_left
             ·
              rintro w' ⟨s0, s1, s2, s3, s4, s5, s6, s7⟩
              go_simp
              with_reducible rfl
             rotate_left
             ·
              simp only [Act.put, List.setIfInBounds_toArray, List.set_cons_zero, List.set_cons_succ, i64_w, i32_w]
              rfl
             refine one_ (i := 23) (N := some 66) #[true, true, true, true, true, true, true, true, true, true, true, true, true, true, true, true, true, true, true, true, true, true, true, true, false] rfl rfl (one_of HT_.out (by kernel_rfl)) (by decide) (fun K hK => ?_)
             refine goes_ Try.func41 (by kernel_rfl) rfl #[.int .i64 a1, .int .i64 ((rd_T50 l0 x6_1).f0), .int .i64 ((rd_T50 l0 x6_1).f1), .int .i64 ((rd_T50 l0 (ji9)).f0), .int .i64 ((rd_T50 l0 (ji9)).f1)] (by rfl) rfl rfl (by (try simp only [List.map_toArray, List.map_cons, List.map_nil]); first | done | (simp only [hji9]; rfl) | rfl | (simp only [List.length_drop, List.length_take]; rfl)) ?_
             with_reducible refine (plenumref01_Line.calls k1 a1 ((rd_T50 l0 x6_1).f0) ((rd_T50 l0 x6_1).f1) ((rd_T50 l0 (ji9)).f0) ((rd_T50 l0 (ji9)).f1) t434 _ A15.out).mono ?_
             rintro e w17 ⟨rfl, hb⟩
             refine ⟨_, rfl, ?_⟩
             have n0_ := Aside0.mk (below_step (by repeat (first | (with_reducible first | exact HB.out | apply below_alloc | apply pw_below_drewN | apply below_drew1) | exact HB.out)) hb)
             clear HB
             have HB := n0_
             clear n0_
             (try clear hb)
             (try clear hb2)
             (try clear hk)
             (try clear hi)
             refine hK.out _ _ ⟨((HB.out.cell (World.block_lt_of_cell? w _ hw430_0)).trans hw430_0), ((HB.out.cell (World.block_lt_of_cell? w _ hw430_1)).trans hw430_1), ((HB.out.cell (World.block_lt_of_cell? w _ hw431_0)).trans hw431_0), ((HB.out.cell (World.block_lt_of_cell? w _ hw431_1)).trans hw431_1), ((HB.out.cell (World.block_lt_of_cell? w _ hw432_0)).trans hw432_0), ((HB.out.cell (World.block_lt_of_cell? w _ hw432_1)).trans hw432_1), ((HB.out.cell (World.block_lt_of_cell? w _ hw433_0)).trans hw433_0), ((HB.out.cell (World.block_lt_of_cell? w _ hw433_1)).trans hw433_1)⟩ (fun hHeld => ?_)
             clear hK K
             refine norm_ (a' := ?_) ?_ ?_
             rotate_left
             ·
              show Act.put _ (some 66) _ = _
              simp only [Act.put, List.setIfInBounds_toArray, List.set_cons_zero, List.set_cons_succ, i64_w, i32_w]
              rfl
             refine pure_ (i := 24) (N := some 4) (v := ?_) (a' := ?_) #[true, true, true, true, true, true, true, true, true, true, true, true, true, true, true, true, true, true, true, true, true, true, true, true, true] rfl rfl (any_of HT_.out (by kernel_rfl)) (fun _ _ _ h => h) (Or.inl ⟨by rfl, ?_⟩) ?_ ?_
             rotate_left
             ·
              intro w'
              go_simp
              with_reducible rfl
             rotate_left
             ·
              simp only [Act.put, List.setIfInBounds_toArray, List.set_cons_zero, List.set_cons_succ, i64_w, i32_w]
              rfl
             refine done_ (done_of HT_.out (by kernel_rfl)) ?_
             try go_wp2
             go_ret
             exact ⟨by first | rfl | (simp [errW_none, errW_some] <;> rfl) | (simp only [← hji5, ← hji9]; first | rfl | (simp [errW_none, errW_some] <;> rfl)) | (simp [*, errW_none, errW_some] <;> rfl), by repeat (first | (with_reducible first | exact HB.out | apply below_alloc | apply pw_below_drewN | apply below_drew1) | exact HB.out)⟩
            ·
             rw [if_neg c14] at H
             exact absurd H (by simp)
           ·
            rw [if_neg c13] at H
            exact absurd H (by simp)
         ·
          rw [if_neg c11] at H
          exact absurd H (by simp)
        ·
         rw [if_neg c10] at H
         exact absurd H (by simp)
    ·
     rw [if_neg c7] at H
     exact absurd H (by simp)
   ·
    rw [if_neg c6] at H
    exact absurd H (by simp)
 ·
  rw [if_neg c3] at H
  exact absurd H (by simp)
end Go.Proofs.Ytacheoimnckghaa.PT
