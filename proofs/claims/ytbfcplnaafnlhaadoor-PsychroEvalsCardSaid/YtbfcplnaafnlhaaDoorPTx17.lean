-- Laid by hp.py (a program of this session's) through the kit's printer. (squeezed)
import Derived.Test.YtbfcplnaafnlhaaDoorPTx0
namespace Go.Proofs.YtbfcplnaafnlhaaDoor.PT
open Go.RowKit Go.Proofs.YtbfcplnaafnlhaaDoorW.PrintWords Go.Proofs.YtbfcplnaafnlhaaDoorW.PrintLast Go.Proofs.YtbfcplnaafnlhaaDoorW.PrintMore
attribute [local go_sem] max2_int min2_int max_two min_two max_three min_three max_four min_four   -- for this text's walks alone
set_option linter.unusedVariables false
set_option linter.unusedSimpArgs false
/-! ### plenumref01_quotient: function 55 -/
def plenumref01_quotient.l0 : Nat → Int → Int → Int → Int → Int → Int → Option (Int × Int)
 | 0, _, _, _, _, _, _ => none
 | k + 1, x1, x6, x7, x8, x151000, x151001 => if x8 ≥ 0 then (if 0 ≤ (IntKind.u64.wrap (x8)) then (if (x6 / 9223372036854775808) = 1 then (plenumref01_quotient.l0 k x1 (IntKind.u64.wrap ((Go.bits .or .u64 (IntKind.u64.wrap (x6 * 2)) (Go.bits .and .u64 (shr .u64 x151001 (IntKind.u64.wrap (x8))) 1)) - x1)) (IntKind.u64.wrap ((IntKind.u64.wrap (x7 * 2)) + 1)) (wrap64 (x8 - 1)) x151000 x151001) else (if (Go.bits .or .u64 (IntKind.u64.wrap (x6 * 2)) (Go.bits .and .u64 (shr .u64 x151001 (IntKind.u64.wrap (x8))) 1)) ≥ x1 then (plenumref01_quotient.l0 k x1 (IntKind.u64.wrap ((Go.bits .or .u64 (IntKind.u64.wrap (x6 * 2)) (Go.bits .and .u64 (shr .u64 x151001 (IntKind.u64.wrap (x8))) 1)) - x1)) (IntKind.u64.wrap ((IntKind.u64.wrap (x7 * 2)) + 1)) (wrap64 (x8 - 1)) x151000 x151001) else (plenumref01_quotient.l0 k x1 (Go.bits .or .u64 (IntKind.u64.wrap (x6 * 2)) (Go.bits .and .u64 (shr .u64 x151001 (IntKind.u64.wrap (x8))) 1)) (IntKind.u64.wrap (x7 * 2)) (wrap64 (x8 - 1)) x151000 x151001))) else (none)) else (some (x7, x6))
def plenumref01_quotient.f (k : Nat) (a0_0 : Int) (a0_1 : Int) (a1 : Int) : Option (Int × Int) := if a0_0 ≥ a1 then (some (18446744073709551615, 0)) else (plenumref01_quotient.l0 k a1 a0_0 0 63 a0_0 a0_1)
theorem plenumref01_quotient.mono_l : ∀ k, (∀ y0 y1 y2 y3 y4 y5, LeO (plenumref01_quotient.l0 k y0 y1 y2 y3 y4 y5) (plenumref01_quotient.l0 (k + 1) y0 y1 y2 y3 y4 y5))
 | 0 => fun _ _ _ _ _ _ r h => by simp [plenumref01_quotient.l0] at h
 | k + 1 => by
  have ih0 := plenumref01_quotient.mono_l k
  ·
   intro y0 y1 y2 y3 y4 y5
   unfold plenumref01_quotient.l0
   repeat' first
   | (with_reducible exact ih0 _ _ _ _ _ _)
   | (with_reducible exact LeO.refl _)
   | (with_reducible exact LeO.none _)
   | (with_reducible refine LeO.ite ?_ ?_)
   | (with_reducible refine LeO.bind ?_ (fun _ => ?_))
   | exact ih0 _ _ _ _ _ _
   | exact LeO.none _
   | refine LeO.ite ?_ ?_
   | refine LeO.bind ?_ (fun _ => ?_)
theorem plenumref01_quotient.mono : ∀ a0 a1 a2 k, LeO (plenumref01_quotient.f k a0 a1 a2) (plenumref01_quotient.f (k + 1) a0 a1 a2) := by
 intro a0 a1 a2 k
 have ih0 := plenumref01_quotient.mono_l k
 unfold plenumref01_quotient.f
 repeat' first
  | (with_reducible exact ih0 _ _ _ _ _ _)
  | (with_reducible exact LeO.refl _)
  | (with_reducible exact LeO.none _)
  | (with_reducible refine LeO.ite ?_ ?_)
  | (with_reducible refine LeO.bind ?_ (fun _ => ?_))
  | exact ih0 _ _ _ _ _ _
  | exact LeO.none _
  | refine LeO.ite ?_ ?_
  | refine LeO.bind ?_ (fun _ => ?_)
set_option maxHeartbeats 8000000 in
set_option maxRecDepth 100000 in
theorem plenumref01_quotient.calls (k : Nat) (a0_0 : Int) (a0_1 : Int) (a1 : Int) (r1 : Int) (r2 : Int) (w : World) (h : plenumref01_quotient.f k a0_0 a0_1 a1 = some (r1, r2)) :
 Calls Tryd.prog 55 #[.agg #[.int .u64 a0_0, .int .u64 a0_1], .int .u64 a1] w fun e w' => e = .returned (.tuple #[.int .u64 r1, .int .u64 r2]) ∧ Below w.heap.size w w' := by
 have hu59 := Tryd.underlying59
 have HB := Aside0.mk (Below.refl w.heap.size w)
 have H : (if a0_0 ≥ a1 then (some (18446744073709551615, 0)) else (plenumref01_quotient.l0 k a1 a0_0 0 63 a0_0 a0_1)) = some (r1, r2) := h
 clear h
 by_cases c3 : a0_0 ≥ a1
 ·
  rw [if_pos c3] at H
  have c3b0 : decide (a1 ≤ a0_0) = true := decide_eq_true c3
  clear c3
  simp only [Option.some.injEq, Prod.mk.injEq] at H
  obtain ⟨rfl, rfl⟩ := H
  go_enter Tryd.func55, Tryd.ntmps55
  go_wp2_with (first | ((with_reducible refine gate_dst (N := 2) rfl ?_); refine box_event ?hg (N := 2) ?hd (cs := #[.int .u64 a0_0, .int .u64 a0_1]) (t := 59) ?hr ?_; (case hd => rfl); (case hg => rfl); (case hr => first | (go_simp; done) | (go_simp; rfl)); intro gb150 hg w4 hbox hb; have n0_ := Aside0.mk (below_step (by repeat (first | (with_reducible first | exact HB.out | apply below_alloc | apply pw_below_drewN | apply below_drew1) | exact HB.out)) hb); have n1_ := Aside0.mk (hbox); have n2_ := Aside0.mk ((by rw [hg]; exact (below_size (by repeat (first | (with_reducible first | exact HB.out | apply below_alloc | apply pw_below_drewN | apply below_drew1) | exact HB.out))) : w.heap.size ≤ gb150)); have n3_ := Aside0.mk ((by rw [hg]; exact (below_size (by repeat (first | (with_reducible first | exact HB.out | apply below_alloc | apply pw_below_drewN | apply below_drew1) | exact HB.out))) : w.heap.size ≤ gb150)); clear HB; have HB := n0_; have BK150 := n1_; have GW150 := n2_; have GE150 := n3_; clear n0_ n1_ n2_ n3_; clear hb hbox hg; have hcz5_0 : w4.cell? ⟨gb150, 0, none⟩ = some (.int .u64 a0_0) := (blk_cell BK150.out 0).trans rfl; have hcz5_1 : w4.cell? ⟨gb150, 1, none⟩ = some (.int .u64 a0_1) := (blk_cell BK150.out 1).trans rfl; have hfz5_0 := blk_frozen BK150.out 0; have hfz5_1 := blk_frozen BK150.out 1))
  go_ret2
  exact ⟨by first | rfl | (simp [errW_none, errW_some] <;> rfl) | (simp [*, errW_none, errW_some] <;> rfl), by repeat (first | (with_reducible first | exact HB.out | apply below_alloc | apply pw_below_drewN | apply below_drew1 | refine below_set ?_ GE150.out) | exact HB.out)⟩
 ·
  rw [if_neg c3] at H
  have c3b0 : decide (a1 ≤ a0_0) = false := decide_eq_false c3
  clear c3
  have H' := Aside0.mk H
  clear H
  go_enter Tryd.func55, Tryd.ntmps55
  go_wp2_with (first | ((with_reducible refine gate_dst (N := 2) rfl ?_); refine box_event ?hg (N := 2) ?hd (cs := #[.int .u64 a0_0, .int .u64 a0_1]) (t := 59) ?hr ?_; (case hd => rfl); (case hg => rfl); (case hr => first | (go_simp; done) | (go_simp; rfl)); intro gb150 hg w6 hbox hb; have n0_ := Aside0.mk (below_step (by repeat (first | (with_reducible first | exact HB.out | apply below_alloc | apply pw_below_drewN | apply below_drew1) | exact HB.out)) hb); have n1_ := Aside0.mk (hbox); have n2_ := Aside0.mk ((by rw [hg]; exact (below_size (by repeat (first | (with_reducible first | exact HB.out | apply below_alloc | apply pw_below_drewN | apply below_drew1) | exact HB.out))) : w.heap.size ≤ gb150)); have n3_ := Aside0.mk ((by rw [hg]; exact (below_size (by repeat (first | (with_reducible first | exact HB.out | apply below_alloc | apply pw_below_drewN | apply below_drew1) | exact HB.out))) : w.heap.size ≤ gb150)); clear HB; have HB := n0_; have BK150 := n1_; have GW150 := n2_; have GE150 := n3_; clear n0_ n1_ n2_ n3_; clear hb hbox hg; have hcz7_0 : w6.cell? ⟨gb150, 0, none⟩ = some (.int .u64 a0_0) := (blk_cell BK150.out 0).trans rfl; have hcz7_1 : w6.cell? ⟨gb150, 1, none⟩ = some (.int .u64 a0_1) := (blk_cell BK150.out 1).trans rfl; have hfz7_0 := blk_frozen BK150.out 0; have hfz7_1 := blk_frozen BK150.out 1))
  go_loopg [6, 7, 8] k (fun kq v6 v7 v8 w' => ∃ (x6_1 : Int) (x7_1 : Int) (x8_1 : Int), v6 = .int .u64 x6_1 ∧ v7 = .int .u64 x7_1 ∧ v8 = .int .i64 x8_1 ∧ Aside0 (plenumref01_quotient.l0 kq a1 x6_1 x7_1 x8_1 a0_0 a0_1 = some (r1, r2)) ∧ Aside0 (kq ≤ k) ∧ Aside0 (w'.heap[gb150]? = some (.cells #[.int .u64 a0_0, .int .u64 a0_1] 59 (0, 0))) ∧ Aside0 (Below w.heap.size w w'))
  case atStart => exact ⟨(a0_0), (0), (63), (by first | rfl | (simp; done) | (simp [*]; done)), (by first | rfl | (simp; done) | (simp [*]; done)), (by first | rfl | (simp; done) | (simp [*]; done)), H', ⟨Nat.le_refl _⟩, ⟨by (with_reducible repeat (first | refine blk_drewN ?_ _ | refine blk_drew ?_ | refine blk_alloc ?_ _)); exact BK150.out⟩, ⟨by repeat (first | (with_reducible first | exact HB.out | apply below_alloc | apply pw_below_drewN | apply below_drew1 | refine below_set ?_ GE150.out) | exact HB.out)⟩⟩
  case round =>
   clear H'
   try clear p2
   try clear c3
   try clear c3b0
   try clear c5
   try clear hcz5_0
   try clear hcz5_1
   try clear hcz7_0
   try clear hcz7_1
   try clear hfz5_0
   try clear hfz5_1
   try clear hfz7_0
   try clear hfz7_1
   obtain ⟨x6_1, x7_1, x8_1, rfl, rfl, rfl, HA, HK1, BK150, HB⟩ := hrel
   cases gk with
   | zero => exact absurd HA.out (by simp [plenumref01_quotient.l0])
   | succ k1 =>
    have H := HA.out
    clear HA
    simp only [plenumref01_quotient.l0] at H
    by_cases c8 : x8_1 ≥ 0
    ·
     rw [if_pos c8] at H
     have c8b0 : decide (0 ≤ x8_1) = true := decide_eq_true c8
     clear c8
     obtain ⟨ji9, hji9⟩ : ∃ j_ : Int, (IntKind.u64.wrap (x8_1)) = j_ := ⟨_, rfl⟩
     replace H : (if 0 ≤ (ji9) then (if (x6_1 / 9223372036854775808) = 1 then (plenumref01_quotient.l0 k1 a1 (IntKind.u64.wrap ((Go.bits .or .u64 (IntKind.u64.wrap (x6_1 * 2)) (Go.bits .and .u64 (shr .u64 a0_1 (ji9)) 1)) - a1)) (IntKind.u64.wrap ((IntKind.u64.wrap (x7_1 * 2)) + 1)) (wrap64 (x8_1 - 1)) a0_0 a0_1) else (if (Go.bits .or .u64 (IntKind.u64.wrap (x6_1 * 2)) (Go.bits .and .u64 (shr .u64 a0_1 (ji9)) 1)) ≥ a1 then (plenumref01_quotient.l0 k1 a1 (IntKind.u64.wrap ((Go.bits .or .u64 (IntKind.u64.wrap (x6_1 * 2)) (Go.bits .and .u64 (shr .u64 a0_1 (ji9)) 1)) - a1)) (IntKind.u64.wrap ((IntKind.u64.wrap (x7_1 * 2)) + 1)) (wrap64 (x8_1 - 1)) a0_0 a0_1) else (plenumref01_quotient.l0 k1 a1 (Go.bits .or .u64 (IntKind.u64.wrap (x6_1 * 2)) (Go.bits .and .u64 (shr .u64 a0_1 (ji9)) 1)) (IntKind.u64.wrap (x7_1 * 2)) (wrap64 (x8_1 - 1)) a0_0 a0_1))) else (none)) = some (r1, r2) := by first | (rw [hji9] at H; exact H) | (simp only [hji9] at H ⊢; exact H)
     by_cases c10 : 0 ≤ (ji9)
     ·
      rw [if_pos c10] at H
      have c10b0 := eq_true c10
      have c10b1 : decide (0 ≤ (ji9)) = true := decide_eq_true c10
      clear c10
      obtain ⟨ji11, hji11⟩ : ∃ j_ : Int, (shr .u64 a0_1 (ji9)) = j_ := ⟨_, rfl⟩
      replace H : (if (x6_1 / 9223372036854775808) = 1 then (plenumref01_quotient.l0 k1 a1 (IntKind.u64.wrap ((Go.bits .or .u64 (IntKind.u64.wrap (x6_1 * 2)) (Go.bits .and .u64 (ji11) 1)) - a1)) (IntKind.u64.wrap ((IntKind.u64.wrap (x7_1 * 2)) + 1)) (wrap64 (x8_1 - 1)) a0_0 a0_1) else (if (Go.bits .or .u64 (IntKind.u64.wrap (x6_1 * 2)) (Go.bits .and .u64 (ji11) 1)) ≥ a1 then (plenumref01_quotient.l0 k1 a1 (IntKind.u64.wrap ((Go.bits .or .u64 (IntKind.u64.wrap (x6_1 * 2)) (Go.bits .and .u64 (ji11) 1)) - a1)) (IntKind.u64.wrap ((IntKind.u64.wrap (x7_1 * 2)) + 1)) (wrap64 (x8_1 - 1)) a0_0 a0_1) else (plenumref01_quotient.l0 k1 a1 (Go.bits .or .u64 (IntKind.u64.wrap (x6_1 * 2)) (Go.bits .and .u64 (ji11) 1)) (IntKind.u64.wrap (x7_1 * 2)) (wrap64 (x8_1 - 1)) a0_0 a0_1))) = some (r1, r2) := by first | (rw [hji11] at H; exact H) | (simp only [hji11] at H ⊢; exact H)
      have hji11_ : (a0_1 / 2 ^ min (ji9).toNat 64) = ji11 := hji11
      have hji11z : (ji9) ≤ 64 → (a0_1 / 2 ^ (ji9).toNat) = ji11 := shr_small hji11
      by_cases c12 : (x6_1 / 9223372036854775808) = 1
      ·
       rw [if_pos c12] at H
       have c12b0 : ((x6_1 / 9223372036854775808) == 1) = true := beq_iff_eq.mpr c12
       have c12b1 : ((x6_1 / 9223372036854775808) != 1) = false := bne_eq_false_iff_eq.mpr c12
       clear c12
       have H' := Aside0.mk H
       clear H
       have hcz13_0 : wr.cell? ⟨gb150, 0, none⟩ = some (.int .u64 a0_0) := (blk_cell BK150.out 0).trans rfl
       have hcz13_1 : wr.cell? ⟨gb150, 1, none⟩ = some (.int .u64 a0_1) := (blk_cell BK150.out 1).trans rfl
       have hfz13_0 := blk_frozen BK150.out 0
       have hfz13_1 := blk_frozen BK150.out 1
       go_wp2
       go_roundg k1
       case measure => have := HK1.out; omega
       case rel => exact ⟨(IntKind.u64.wrap ((Go.bits .or .u64 (IntKind.u64.wrap (x6_1 * 2)) (Go.bits .and .u64 (ji11) 1)) - a1)), (IntKind.u64.wrap ((IntKind.u64.wrap (x7_1 * 2)) + 1)), (wrap64 (x8_1 - 1)), (by first | rfl | (simp; done) | (simp only [← hji11] <;> (first | rfl | simp)) | (simp [*]; done)), (by first | rfl | (simp; done) | (simp [*]; done)), (by first | rfl | (simp; done) | (simp [*]; done)), H', ⟨by have := HK1.out; omega⟩, ⟨by (with_reducible repeat (first | refine blk_drewN ?_ _ | refine blk_drew ?_ | refine blk_alloc ?_ _)); exact BK150.out⟩, ⟨by repeat (first | (with_reducible first | exact HB.out | apply below_alloc | apply pw_below_drewN | apply below_drew1 | refine below_set ?_ GE150.out) | exact HB.out)⟩⟩
      ·
       rw [if_neg c12] at H
       have c12b0 : ((x6_1 / 9223372036854775808) == 1) = false := beq_eq_false_iff_ne.mpr c12
       have c12b1 : ((x6_1 / 9223372036854775808) != 1) = true := bne_iff_ne.mpr c12
       by_cases c14 : (Go.bits .or .u64 (IntKind.u64.wrap (x6_1 * 2)) (Go.bits .and .u64 (ji11) 1)) ≥ a1
       ·
        rw [if_pos c14] at H
        have c14b0 : decide (a1 ≤ (Go.bits .or .u64 (IntKind.u64.wrap (x6_1 * 2)) (Go.bits .and .u64 (ji11) 1))) = true := decide_eq_true c14
        clear c14
        have H' := Aside0.mk H
        clear H
        have hcz15_0 : wr.cell? ⟨gb150, 0, none⟩ = some (.int .u64 a0_0) := (blk_cell BK150.out 0).trans rfl
        have hcz15_1 : wr.cell? ⟨gb150, 1, none⟩ = some (.int .u64 a0_1) := (blk_cell BK150.out 1).trans rfl
        have hfz15_0 := blk_frozen BK150.out 0
        have hfz15_1 := blk_frozen BK150.out 1
        go_wp2
        go_roundg k1
        case measure => have := HK1.out; omega
        case rel => exact ⟨(IntKind.u64.wrap ((Go.bits .or .u64 (IntKind.u64.wrap (x6_1 * 2)) (Go.bits .and .u64 (ji11) 1)) - a1)), (IntKind.u64.wrap ((IntKind.u64.wrap (x7_1 * 2)) + 1)), (wrap64 (x8_1 - 1)), (by first | rfl | (simp; done) | (simp only [← hji11] <;> (first | rfl | simp)) | (simp [*]; done)), (by first | rfl | (simp; done) | (simp [*]; done)), (by first | rfl | (simp; done) | (simp [*]; done)), H', ⟨by have := HK1.out; omega⟩, ⟨by (with_reducible repeat (first | refine blk_drewN ?_ _ | refine blk_drew ?_ | refine blk_alloc ?_ _)); exact BK150.out⟩, ⟨by repeat (first | (with_reducible first | exact HB.out | apply below_alloc | apply pw_below_drewN | apply below_drew1 | refine below_set ?_ GE150.out) | exact HB.out)⟩⟩
       ·
        rw [if_neg c14] at H
        have c14b0 : decide (a1 ≤ (Go.bits .or .u64 (IntKind.u64.wrap (x6_1 * 2)) (Go.bits .and .u64 (ji11) 1))) = false := decide_eq_false c14
        clear c14
        have H' := Aside0.mk H
        clear H
        have hcz16_0 : wr.cell? ⟨gb150, 0, none⟩ = some (.int .u64 a0_0) := (blk_cell BK150.out 0).trans rfl
        have hcz16_1 : wr.cell? ⟨gb150, 1, none⟩ = some (.int .u64 a0_1) := (blk_cell BK150.out 1).trans rfl
        have hfz16_0 := blk_frozen BK150.out 0
        have hfz16_1 := blk_frozen BK150.out 1
        go_wp2
        go_roundg k1
        case measure => have := HK1.out; omega
        case rel => exact ⟨(Go.bits .or .u64 (IntKind.u64.wrap (x6_1 * 2)) (Go.bits .and .u64 (ji11) 1)), (IntKind.u64.wrap (x7_1 * 2)), (wrap64 (x8_1 - 1)), (by first | rfl | (simp; done) | (simp only [← hji11] <;> (first | rfl | simp)) | (simp [*]; done)), (by first | rfl | (simp; done) | (simp [*]; done)), (by first | rfl | (simp; done) | (simp [*]; done)), H', ⟨by have := HK1.out; omega⟩, ⟨by (with_reducible repeat (first | refine blk_drewN ?_ _ | refine blk_drew ?_ | refine blk_alloc ?_ _)); exact BK150.out⟩, ⟨by repeat (first | (with_reducible first | exact HB.out | apply below_alloc | apply pw_below_drewN | apply below_drew1 | refine below_set ?_ GE150.out) | exact HB.out)⟩⟩
     ·
      rw [if_neg c10] at H
      exact absurd H (by simp)
    ·
     rw [if_neg c8] at H
     have c8b0 : decide (0 ≤ x8_1) = false := decide_eq_false c8
     clear c8
     simp only [Option.some.injEq, Prod.mk.injEq] at H
     obtain ⟨rfl, rfl⟩ := H
     go_wp2
     go_ret2
     exact ⟨by first | rfl | (simp [errW_none, errW_some] <;> rfl) | (simp [*, errW_none, errW_some] <;> rfl), by repeat (first | (with_reducible first | exact HB.out | apply below_alloc | apply pw_below_drewN | apply below_drew1 | refine below_set ?_ GE150.out) | exact HB.out)⟩
end Go.Proofs.YtbfcplnaafnlhaaDoor.PT
