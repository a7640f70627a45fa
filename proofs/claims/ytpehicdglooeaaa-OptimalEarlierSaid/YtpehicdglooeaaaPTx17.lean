-- Laid by hp.py (a program of this session's) through the kit's printer. (squeezed)
import Derived.Test.YtpehicdglooeaaaPTx0
import Derived.Test.YtpehicdglooeaaaPTx9
namespace Go.Proofs.Ytpehicdglooeaaa.PT
open Go.RowKit Go.Proofs.YtpehicdglooeaaaW.PrintWords Go.Proofs.YtpehicdglooeaaaW.PrintLast Go.Proofs.YtpehicdglooeaaaW.PrintMore
attribute [local go_sem] max2_int min2_int max_two min_two max_three min_three max_four min_four   -- for this text's walks alone
set_option linter.unusedVariables false
set_option linter.unusedSimpArgs false
/-! ### optimal_deviation: function 30 -/
def optimal_deviation.l0 : Nat → Int → List Int → Int → List Int → Int → Int → Option (Int)
 | 0, _, _, _, _, _, _ => none
 | k + 1, x0, x1, x7, x13, x14, x15 => if x15 < x14 then (if 0 ≤ x15 then (if x15 < (x13.length : Int) then (if x15 < (x1.length : Int) then ((thermal_Step.f k x0 0 (rd x1 x15) (rd x13 x15) 0 60).bind fun bt154 => (if 0 ≤ (wrap64 (x15 + 1)) then (if (wrap64 (x15 + 1)) < (x1.length : Int) then (optimal_deviation.l0 k x0 x1 (wrap64 (x7 + (mx (wrap64 (bt154.1 - (rd x1 (wrap64 (x15 + 1))))) (wrap64 (-(wrap64 (bt154.1 - (rd x1 (wrap64 (x15 + 1)))))))))) x13 x14 (wrap64 (x15 + 1))) else (none)) else (none))) else (none)) else (none)) else (none)) else (some x7)
def optimal_deviation.f (k : Nat) (a0 : Int) (l1 : List Int) (l2 : List Int) : Option (Int) := optimal_deviation.l0 k a0 l1 0 l2 (l2.length : Int) 0
theorem optimal_deviation.mono_l : ∀ k, (∀ y0 y1 y2 y3 y4 y5, LeO (optimal_deviation.l0 k y0 y1 y2 y3 y4 y5) (optimal_deviation.l0 (k + 1) y0 y1 y2 y3 y4 y5))
 | 0 => fun _ _ _ _ _ _ r h => by simp [optimal_deviation.l0] at h
 | k + 1 => by
  have ih0 := optimal_deviation.mono_l k
  ·
   intro y0 y1 y2 y3 y4 y5
   unfold optimal_deviation.l0
   repeat' first
   | (with_reducible exact ih0 _ _ _ _ _ _)
   | (with_reducible exact thermal_Step.mono _ _ _ _ _ _ _)
   | (with_reducible exact LeO.refl _)
   | (with_reducible exact LeO.none _)
   | (with_reducible refine LeO.ite ?_ ?_)
   | (with_reducible refine LeO.bind ?_ (fun _ => ?_))
   | exact ih0 _ _ _ _ _ _
   | exact thermal_Step.mono _ _ _ _ _ _ _
   | exact LeO.none _
   | refine LeO.ite ?_ ?_
   | refine LeO.bind ?_ (fun _ => ?_)
theorem optimal_deviation.mono : ∀ a0 a1 a2 k, LeO (optimal_deviation.f k a0 a1 a2) (optimal_deviation.f (k + 1) a0 a1 a2) := by
 intro a0 a1 a2 k
 have ih0 := optimal_deviation.mono_l k
 unfold optimal_deviation.f
 repeat' first
  | (with_reducible exact ih0 _ _ _ _ _ _)
  | (with_reducible exact thermal_Step.mono _ _ _ _ _ _ _)
  | (with_reducible exact LeO.refl _)
  | (with_reducible exact LeO.none _)
  | (with_reducible refine LeO.ite ?_ ?_)
  | (with_reducible refine LeO.bind ?_ (fun _ => ?_))
  | exact ih0 _ _ _ _ _ _
  | exact thermal_Step.mono _ _ _ _ _ _ _
  | exact LeO.none _
  | refine LeO.ite ?_ ?_
  | refine LeO.bind ?_ (fun _ => ?_)
set_option maxHeartbeats 8000000 in
set_option maxRecDepth 100000 in
theorem optimal_deviation.calls (k : Nat) (a0 : Int) (A1 : Option Addr) (c1 : Nat) (l1 : List Int) (A2 : Option Addr) (c2 : Nat) (l2 : List Int) (r : Int) (w : World) (hr1 : Kd.C (Kd.int .i64) w A1 l1.length l1) (hc1 : l1.length ≤ c1) (hr2 : Kd.C (Kd.int .i64) w A2 l2.length l2) (hc2 : l2.length ≤ c2) (h : optimal_deviation.f k a0 l1 l2 = some r) :
 Calls Try.prog 30 #[.int .i64 a0, .slice A1 l1.length c1, .slice A2 l2.length c2] w fun e w' => e = .returned (.int .i64 r) ∧ Below w.heap.size w w' := by
 have hu23 := Try.underlying23
 have HR1 := Aside0.mk hr1
 have HC1 := Aside0.mk hc1
 clear hr1 hc1
 have HR2 := Aside0.mk hr2
 have HC2 := Aside0.mk hc2
 clear hr2 hc2
 have HB := Aside0.mk (Below.refl w.heap.size w)
 have H : (optimal_deviation.l0 k a0 l1 0 l2 (l2.length : Int) 0) = some r := h
 clear h
 have H' := Aside0.mk H
 clear H
 go_enter Try.func30, Try.ntmps30
 go_wp2
 go_loopg [7, 15] k (fun kq v7 v15 w' => ∃ (x7_1 : Int) (x15_1 : Int), v7 = .int .i64 x7_1 ∧ v15 = .int .i64 x15_1 ∧ Aside0 (optimal_deviation.l0 kq a0 l1 x7_1 l2 (l2.length : Int) x15_1 = some r) ∧ Aside0 (kq ≤ k) ∧ Aside0 (Below w.heap.size w w'))
 case atStart => exact ⟨(0), (0), (by first | rfl | (simp; done) | (simp [*]; done)), (by first | rfl | (simp; done) | (simp [*]; done)), H', ⟨Nat.le_refl _⟩, ⟨by repeat (first | (with_reducible first | exact HB.out | apply below_alloc | apply pw_below_drewN | apply below_drew1) | exact HB.out)⟩⟩
 case round =>
  clear H'
  try clear c1
  try clear c2
  try clear p2
  try clear c3
  obtain ⟨x7_1, x15_1, rfl, rfl, HA, HK1, HB⟩ := hrel
  cases gk with
  | zero => exact absurd HA.out (by simp [optimal_deviation.l0])
  | succ k1 =>
   have H := HA.out
   clear HA
   simp only [optimal_deviation.l0] at H
   by_cases c4 : x15_1 < (l2.length : Int)
   ·
    rw [if_pos c4] at H
    have c4b0 : decide (x15_1 < (l2.length : Int)) = true := decide_eq_true c4
    clear c4
    by_cases c5 : 0 ≤ x15_1
    ·
     rw [if_pos c5] at H
     have c5b0 : decide (0 ≤ x15_1) = true := decide_eq_true c5
     clear c5
     by_cases c6 : x15_1 < (l2.length : Int)
     ·
      rw [if_pos c6] at H
      have c6b0 : decide (x15_1 < (l2.length : Int)) = true := decide_eq_true c6
      clear c6
      by_cases c7 : x15_1 < (l1.length : Int)
      ·
       rw [if_pos c7] at H
       have c7b0 : decide (x15_1 < (l1.length : Int)) = true := decide_eq_true c7
       clear c7
       replace H := Option.bind_eq_some_iff.mp H
       obtain ⟨⟨t154, t155⟩, A80, H⟩ := H
       replace H : (if 0 ≤ (wrap64 (x15_1 + 1)) then (if (wrap64 (x15_1 + 1)) < (l1.length : Int) then (optimal_deviation.l0 k1 a0 l1 (wrap64 (x7_1 + (mx (wrap64 (t154 - (rd l1 (wrap64 (x15_1 + 1))))) (wrap64 (-(wrap64 (t154 - (rd l1 (wrap64 (x15_1 + 1)))))))))) l2 (l2.length : Int) (wrap64 (x15_1 + 1))) else (none)) else (none)) = some r := H
       have A8 := Aside0.mk A80
       clear A80
       obtain ⟨ji9, hji9⟩ : ∃ j_ : Int, (wrap64 (x15_1 + 1)) = j_ := ⟨_, rfl⟩
       replace H : (if 0 ≤ (ji9) then (if (ji9) < (l1.length : Int) then (optimal_deviation.l0 k1 a0 l1 (wrap64 (x7_1 + (mx (wrap64 (t154 - (rd l1 (ji9)))) (wrap64 (-(wrap64 (t154 - (rd l1 (ji9))))))))) l2 (l2.length : Int) ji9) else (none)) else (none)) = some r := by first | (rw [hji9] at H; exact H) | (simp only [hji9] at H ⊢; exact H)
       (try rw [hji9] at A8)
       have hji9w : (IntKind.i64.wrap (x15_1 + 1)) = ji9 := (i64_w _).trans hji9
       by_cases c10 : 0 ≤ (ji9)
       ·
        rw [if_pos c10] at H
        have c10b0 : decide (0 ≤ (ji9)) = true := decide_eq_true c10
        clear c10
        by_cases c11 : (ji9) < (l1.length : Int)
        ·
         rw [if_pos c11] at H
         have c11b0 : decide ((ji9) < (l1.length : Int)) = true := decide_eq_true c11
         clear c11
         obtain ⟨ji12, hji12⟩ : ∃ j_ : Int, (mx (wrap64 (t154 - (rd l1 (ji9)))) (wrap64 (-(wrap64 (t154 - (rd l1 (ji9))))))) = j_ := ⟨_, rfl⟩
         replace H : (optimal_deviation.l0 k1 a0 l1 (wrap64 (x7_1 + (ji12))) l2 (l2.length : Int) ji9) = some r := by first | (rw [hji12] at H; exact H) | (simp only [hji12] at H ⊢; exact H)
         (try rw [hji12] at A8)
         have hji12_ : (if (wrap64 (t154 - (rd l1 (ji9)))) < (wrap64 (-(wrap64 (t154 - (rd l1 (ji9)))))) then (wrap64 (-(wrap64 (t154 - (rd l1 (ji9)))))) else (wrap64 (t154 - (rd l1 (ji9))))) = ji12 := hji12
         have H' := Aside0.mk H
         clear H
         have p152 : 0 ≤ (x15_1 : Int) := of_decide_eq_true (by first | (with_reducible assumption) | assumption)
         have q152 : x15_1 < (l2.length : Int) := of_decide_eq_true (by first | (with_reducible assumption) | assumption)
         obtain ⟨ad152, e152, hx152_0⟩ := Kd.at_int HR2.out x15_1 p152 q152
         cases e152
         replace hx152_0 := (HB.out.cell (World.block_lt_of_cell? w _ hx152_0)).trans hx152_0
         replace p152 := eq_true p152
         replace q152 := eq_true q152
         have p153 : 0 ≤ (x15_1 : Int) := of_decide_eq_true (by first | (with_reducible assumption) | assumption)
         have q153 : x15_1 < (l1.length : Int) := of_decide_eq_true (by first | (with_reducible assumption) | assumption)
         obtain ⟨ad153, e153, hx153_0⟩ := Kd.at_int HR1.out x15_1 p153 q153
         cases e153
         replace hx153_0 := (HB.out.cell (World.block_lt_of_cell? w _ hx153_0)).trans hx153_0
         replace p153 := eq_true p153
         replace q153 := eq_true q153
         go_wp2_with (first | ((with_reducible refine gate_callee (f := 42) rfl ?_); refine goesL_ (some 28) rfl rfl Try.func42 (by kernel_rfl) rfl #[.agg #[.int .i64 a0, .int .i64 0], .int .i64 (rd l1 x15_1), .int .i64 (rd l2 x15_1), .int .i64 0, .int .i64 60] rfl (by (try simp only [List.map_toArray, List.map_cons, List.map_nil]); first | done | rfl | (simp only [List.length_drop, List.length_take]; rfl)) ?_; (with_reducible refine (thermal_Step.calls k1 a0 0 (rd l1 x15_1) (rd l2 x15_1) 0 60 t154 t155 _ A8.out).mono ?_); rintro e w13 ⟨rfl, hb⟩; refine ⟨_, rfl, ?_⟩; have n0_ := Aside0.mk (below_step (by repeat (first | (with_reducible first | exact HB.out | apply below_alloc | apply pw_below_drewN | apply below_drew1) | exact HB.out)) hb); clear HB; have HB := n0_; clear n0_; (try clear hb); (try clear hb2); (try clear hk); (try clear hi); have p156 : 0 ≤ ((ji9) : Int) := of_decide_eq_true (by first | (with_reducible assumption) | assumption); have q156 : (ji9) < (l1.length : Int) := of_decide_eq_true (by first | (with_reducible assumption) | assumption); obtain ⟨ad156, e156, hx156_0⟩ := Kd.at_int HR1.out (ji9) p156 q156; obtain rfl : ad153 = ad156 := (by injection e156); replace hx156_0 := (HB.out.cell (World.block_lt_of_cell? w _ hx156_0)).trans hx156_0; replace p156 := eq_true p156; replace q156 := eq_true q156))
         go_roundg k1
         case measure => have := HK1.out; omega
         case rel => exact ⟨(wrap64 (x7_1 + (ji12))), (ji9), (by first | rfl | (simp; done) | (simp only [← hji12] <;> (first | rfl | simp)) | (simp [*]; done)), (by first | rfl | (simp; done) | (simp only [← hji9] <;> (first | rfl | simp)) | (simp [*]; done)), H', ⟨by have := HK1.out; omega⟩, ⟨by repeat (first | (with_reducible first | exact HB.out | apply below_alloc | apply pw_below_drewN | apply below_drew1) | exact HB.out)⟩⟩
        ·
         rw [if_neg c11] at H
         exact absurd H (by simp)
       ·
        rw [if_neg c10] at H
        exact absurd H (by simp)
      ·
       rw [if_neg c7] at H
       exact absurd H (by simp)
     ·
      rw [if_neg c6] at H
      exact absurd H (by simp)
    ·
     rw [if_neg c5] at H
     exact absurd H (by simp)
   ·
    rw [if_neg c4] at H
    have c4b0 : decide (x15_1 < (l2.length : Int)) = false := decide_eq_false c4
    clear c4
    obtain rfl := Option.some.inj H
    go_wp2
    go_ret
    exact ⟨by first | rfl | (simp [errW_none, errW_some] <;> rfl) | (simp [*, errW_none, errW_some] <;> rfl), by repeat (first | (with_reducible first | exact HB.out | apply below_alloc | apply pw_below_drewN | apply below_drew1) | exact HB.out)⟩
end Go.Proofs.Ytpehicdglooeaaa.PT
