-- Laid by hp.py (a program of this session's) through the kit's printer. (squeezed)
import Derived.Test.YtnfcbhoaebcndaaPTx0
import Derived.Test.YtnfcbhoaebcndaaPTx1
namespace Go.Proofs.Ytnfcbhoaebcndaa.PT
open Go.RowKit Go.Proofs.YtnfcbhoaebcndaaW.PrintWords Go.Proofs.YtnfcbhoaebcndaaW.PrintLast Go.Proofs.YtnfcbhoaebcndaaW.PrintMore
attribute [local go_sem] max2_int min2_int max_two min_two max_three min_three max_four min_four   -- for this text's walks alone
set_option linter.unusedVariables false
set_option linter.unusedSimpArgs false
attribute [local go_sem high] eqA45
/-! ### plenumref44_Starts: function 28 -/
def plenumref44_Starts.l0 : Nat → List (S57) → Int → Int → Int → Int → Int → Int → Option (Int)
 | 0, _, _, _, _, _, _, _ => none
 | k + 1, x0, x2, x3, x9, x10, x270000, x270001 => if x10 < (x0.length : Int) then (if 0 ≤ x10 then (if ((rd_T57 x0 x10).f0) ≥ x2 then (if ((rd_T57 x0 x10).f0) < x3 then (if (((rd_T57 x0 x10).f1.f0) == x270000 && (((rd_T57 x0 x10).f1.f1) == x270001)) = true then (if x10 = 0 then (plenumref44_Starts.l0 k x0 x2 x3 (wrap64 (x9 + 1)) (wrap64 (x10 + 1)) x270000 x270001) else (if 0 ≤ (wrap64 (x10 - 1)) then (if (wrap64 (x10 - 1)) < (x0.length : Int) then (if (!(((rd_T57 x0 (wrap64 (x10 - 1))).f1.f0) == x270000) || (!(((rd_T57 x0 (wrap64 (x10 - 1))).f1.f1) == x270001))) = true then (plenumref44_Starts.l0 k x0 x2 x3 (wrap64 (x9 + 1)) (wrap64 (x10 + 1)) x270000 x270001) else (plenumref44_Starts.l0 k x0 x2 x3 x9 (wrap64 (x10 + 1)) x270000 x270001)) else (none)) else (none))) else (plenumref44_Starts.l0 k x0 x2 x3 x9 (wrap64 (x10 + 1)) x270000 x270001)) else (plenumref44_Starts.l0 k x0 x2 x3 x9 (wrap64 (x10 + 1)) x270000 x270001)) else (plenumref44_Starts.l0 k x0 x2 x3 x9 (wrap64 (x10 + 1)) x270000 x270001)) else (none)) else (some x9)
def plenumref44_Starts.f (k : Nat) (l0 : List (S57)) (a1_0 : Int) (a1_1 : Int) (a2 : Int) (a3 : Int) : Option (Int) := plenumref44_Starts.l0 k l0 a2 a3 0 0 a1_0 a1_1
theorem plenumref44_Starts.mono_l : ∀ k, (∀ y0 y1 y2 y3 y4 y5 y6, LeO (plenumref44_Starts.l0 k y0 y1 y2 y3 y4 y5 y6) (plenumref44_Starts.l0 (k + 1) y0 y1 y2 y3 y4 y5 y6))
 | 0 => fun _ _ _ _ _ _ _ r h => by simp [plenumref44_Starts.l0] at h
 | k + 1 => by
  have ih0 := plenumref44_Starts.mono_l k
  ·
   intro y0 y1 y2 y3 y4 y5 y6
   unfold plenumref44_Starts.l0
   repeat' first
   | (with_reducible exact ih0 _ _ _ _ _ _ _)
   | (with_reducible exact LeO.refl _)
   | (with_reducible exact LeO.none _)
   | (with_reducible refine LeO.ite ?_ ?_)
   | (with_reducible refine LeO.bind ?_ (fun _ => ?_))
   | exact ih0 _ _ _ _ _ _ _
   | exact LeO.none _
   | refine LeO.ite ?_ ?_
   | refine LeO.bind ?_ (fun _ => ?_)
theorem plenumref44_Starts.mono : ∀ a0 a1 a2 a3 a4 k, LeO (plenumref44_Starts.f k a0 a1 a2 a3 a4) (plenumref44_Starts.f (k + 1) a0 a1 a2 a3 a4) := by
 intro a0 a1 a2 a3 a4 k
 have ih0 := plenumref44_Starts.mono_l k
 unfold plenumref44_Starts.f
 repeat' first
  | (with_reducible exact ih0 _ _ _ _ _ _ _)
  | (with_reducible exact LeO.refl _)
  | (with_reducible exact LeO.none _)
  | (with_reducible refine LeO.ite ?_ ?_)
  | (with_reducible refine LeO.bind ?_ (fun _ => ?_))
  | exact ih0 _ _ _ _ _ _ _
  | exact LeO.none _
  | refine LeO.ite ?_ ?_
  | refine LeO.bind ?_ (fun _ => ?_)
set_option maxHeartbeats 8000000 in
set_option maxRecDepth 100000 in
theorem plenumref44_Starts.calls (k : Nat) (A0 : Option Addr) (c0 : Nat) (l0 : List (S57)) (a1_0 : Int) (a1_1 : Int) (a2 : Int) (a3 : Int) (r : Int) (w : World) (hr0 : Kd.C k57 w A0 l0.length l0) (hc0 : l0.length ≤ c0) (h : plenumref44_Starts.f k l0 a1_0 a1_1 a2 a3 = some r) :
 Calls Try.prog 28 #[.slice A0 l0.length c0, .agg #[.int .i64 a1_0, .int .i64 a1_1], .int .i64 a2, .int .i64 a3] w fun e w' => e = .returned (.int .i64 r) ∧ Below w.heap.size w w' := by
 have hu45 := Try.underlying45
 have HR0 := Aside0.mk hr0
 have HC0 := Aside0.mk hc0
 clear hr0 hc0
 have HB := Aside0.mk (Below.refl w.heap.size w)
 have H : (plenumref44_Starts.l0 k l0 a2 a3 0 0 a1_0 a1_1) = some r := h
 clear h
 have H' := Aside0.mk H
 clear H
 go_enter Try.func28, Try.ntmps28
 go_wp2_with (first | ((with_reducible refine gate_dst (N := 5) rfl ?_); refine box_event ?hg (N := 5) ?hd (cs := #[.int .i64 a1_0, .int .i64 a1_1]) (t := 45) ?hr ?_; (case hd => rfl); (case hg => rfl); (case hr => first | (go_simp; done) | (go_simp; rfl)); intro gb269 hg w5 hbox hb; have n0_ := Aside0.mk (below_step (by repeat (first | (with_reducible first | exact HB.out | apply below_alloc | apply pw_below_drewN | apply below_drew1) | exact HB.out)) hb); have n1_ := Aside0.mk (hbox); have n2_ := Aside0.mk ((by rw [hg]; exact (below_size (by repeat (first | (with_reducible first | exact HB.out | apply below_alloc | apply pw_below_drewN | apply below_drew1) | exact HB.out))) : w.heap.size ≤ gb269)); have n3_ := Aside0.mk ((by rw [hg]; exact (below_size (by repeat (first | (with_reducible first | exact HB.out | apply below_alloc | apply pw_below_drewN | apply below_drew1) | exact HB.out))) : w.heap.size ≤ gb269)); clear HB; have HB := n0_; have BK269 := n1_; have GW269 := n2_; have GE269 := n3_; clear n0_ n1_ n2_ n3_; clear hb hbox hg))
 repeat (go_quiet (first | ((with_reducible refine gate_dst (N := 5) rfl ?_); refine box_event ?hg (N := 5) ?hd (cs := #[.int .i64 a1_0, .int .i64 a1_1]) (t := 45) ?hr ?_; (case hd => rfl); (case hg => rfl); (case hr => first | (go_simp; done) | (go_simp; rfl)); intro gb269 hg w5 hbox hb; have n0_ := Aside0.mk (below_step (by repeat (first | (with_reducible first | exact HB.out | apply below_alloc | apply pw_below_drewN | apply below_drew1) | exact HB.out)) hb); have n1_ := Aside0.mk (hbox); have n2_ := Aside0.mk ((by rw [hg]; exact (below_size (by repeat (first | (with_reducible first | exact HB.out | apply below_alloc | apply pw_below_drewN | apply below_drew1) | exact HB.out))) : w.heap.size ≤ gb269)); have n3_ := Aside0.mk ((by rw [hg]; exact (below_size (by repeat (first | (with_reducible first | exact HB.out | apply below_alloc | apply pw_below_drewN | apply below_drew1) | exact HB.out))) : w.heap.size ≤ gb269)); clear HB; have HB := n0_; have BK269 := n1_; have GW269 := n2_; have GE269 := n3_; clear n0_ n1_ n2_ n3_; clear hb hbox hg)); try go_wp2_with (first | ((with_reducible refine gate_dst (N := 5) rfl ?_); refine box_event ?hg (N := 5) ?hd (cs := #[.int .i64 a1_0, .int .i64 a1_1]) (t := 45) ?hr ?_; (case hd => rfl); (case hg => rfl); (case hr => first | (go_simp; done) | (go_simp; rfl)); intro gb269 hg w5 hbox hb; have n0_ := Aside0.mk (below_step (by repeat (first | (with_reducible first | exact HB.out | apply below_alloc | apply pw_below_drewN | apply below_drew1) | exact HB.out)) hb); have n1_ := Aside0.mk (hbox); have n2_ := Aside0.mk ((by rw [hg]; exact (below_size (by repeat (first | (with_reducible first | exact HB.out | apply below_alloc | apply pw_below_drewN | apply below_drew1) | exact HB.out))) : w.heap.size ≤ gb269)); have n3_ := Aside0.mk ((by rw [hg]; exact (below_size (by repeat (first | (with_reducible first | exact HB.out | apply below_alloc | apply pw_below_drewN | apply below_drew1) | exact HB.out))) : w.heap.size ≤ gb269)); clear HB; have HB := n0_; have BK269 := n1_; have GW269 := n2_; have GE269 := n3_; clear n0_ n1_ n2_ n3_; clear hb hbox hg)))
 go_loopg [9, 10] k (fun kq v9 v10 w' => ∃ (x9_1 : Int) (x10_1 : Int), v9 = .int .i64 x9_1 ∧ v10 = .int .i64 x10_1 ∧ Aside0 (plenumref44_Starts.l0 kq l0 a2 a3 x9_1 x10_1 a1_0 a1_1 = some r) ∧ Aside0 (kq ≤ k) ∧ Aside0 (w'.heap[gb269]? = some (.cells #[.int .i64 a1_0, .int .i64 a1_1] 45 (0, 0))) ∧ Aside0 (Below w.heap.size w w'))
 case atStart => exact ⟨(0), (0), (by first | rfl | (simp; done) | (simp [*]; done)), (by first | rfl | (simp; done) | (simp [*]; done)), H', ⟨Nat.le_refl _⟩, ⟨by (with_reducible repeat (first | refine blk_drewN ?_ _ | refine blk_drew ?_ | refine blk_alloc ?_ _)); exact BK269.out⟩, ⟨by repeat (first | (with_reducible first | exact HB.out | apply below_alloc | apply pw_below_drewN | apply below_drew1 | refine below_set ?_ GE269.out) | exact HB.out)⟩⟩
 case round =>
  clear H'
  try clear c2
  try clear p2
  obtain ⟨x9_1, x10_1, rfl, rfl, HA, HK1, BK269, HB⟩ := hrel
  cases gk with
  | zero => exact absurd HA.out (by simp [plenumref44_Starts.l0])
  | succ k1 =>
   have H := HA.out
   clear HA
   simp only [plenumref44_Starts.l0] at H
   by_cases c6 : x10_1 < (l0.length : Int)
   ·
    rw [if_pos c6] at H
    have c6b0 : decide (x10_1 < (l0.length : Int)) = true := decide_eq_true c6
    clear c6
    by_cases c7 : 0 ≤ x10_1
    ·
     rw [if_pos c7] at H
     have c7b0 : decide (0 ≤ x10_1) = true := decide_eq_true c7
     clear c7
     by_cases c8 : ((rd_T57 l0 x10_1).f0) ≥ a2
     ·
      rw [if_pos c8] at H
      have c8b0 : decide (a2 ≤ ((rd_T57 l0 x10_1).f0)) = true := decide_eq_true c8
      clear c8
      by_cases c9 : ((rd_T57 l0 x10_1).f0) < a3
      ·
       rw [if_pos c9] at H
       have c9b0 : decide (((rd_T57 l0 x10_1).f0) < a3) = true := decide_eq_true c9
       clear c9
       by_cases c10 : (((rd_T57 l0 x10_1).f1.f0) == a1_0 && (((rd_T57 l0 x10_1).f1.f1) == a1_1)) = true
       ·
        rw [if_pos c10] at H
        have c10b0 : (((rd_T57 l0 x10_1).f1.f0) == a1_0 && (((rd_T57 l0 x10_1).f1.f1) == a1_1)) = true := c10
        (try (have c10b1 : decide (((rd_T57 l0 x10_1).f1.f0) = a1_0 && (((rd_T57 l0 x10_1).f1.f1) == a1_1)) = true := by simpa using c10))
        (try (have c10b2 : (((rd_T57 l0 x10_1).f1.f0) == a1_0 && (((rd_T57 l0 x10_1).f1.f1) == a1_1)) = true := by simpa using c10))
        clear c10
        by_cases c11 : x10_1 = 0
        ·
         rw [if_pos c11] at H
         have c11b0 : (x10_1 == 0) = true := beq_iff_eq.mpr c11
         have c11b1 : (x10_1 != 0) = false := bne_eq_false_iff_eq.mpr c11
         clear c11
         have H' := Aside0.mk H
         clear H
         have p270 : 0 ≤ (x10_1 : Int) := of_decide_eq_true (by first | (with_reducible assumption) | assumption)
         have q270 : x10_1 < (l0.length : Int) := of_decide_eq_true (by first | (with_reducible assumption) | assumption)
         obtain ⟨ad270, e270, hx270_0, hx270_1, hx270_2⟩ := at_T57 HR0.out x10_1 p270 q270
         cases e270
         replace hx270_0 := (HB.out.cell (World.block_lt_of_cell? w _ hx270_0)).trans hx270_0
         replace hx270_1 := (HB.out.cell (World.block_lt_of_cell? w _ hx270_1)).trans hx270_1
         replace hx270_2 := (HB.out.cell (World.block_lt_of_cell? w _ hx270_2)).trans hx270_2
         replace p270 := eq_true p270
         replace q270 := eq_true q270
         have p271 : 0 ≤ (x10_1 : Int) := of_decide_eq_true (by first | (with_reducible assumption) | assumption)
         have q271 : x10_1 < (l0.length : Int) := of_decide_eq_true (by first | (with_reducible assumption) | assumption)
         obtain ⟨ad271, e271, hx271_0, hx271_1, hx271_2⟩ := at_T57 HR0.out x10_1 p271 q271
         obtain rfl : ad270 = ad271 := (by injection e271)
         replace hx271_0 := (HB.out.cell (World.block_lt_of_cell? w _ hx271_0)).trans hx271_0
         replace hx271_1 := (HB.out.cell (World.block_lt_of_cell? w _ hx271_1)).trans hx271_1
         replace hx271_2 := (HB.out.cell (World.block_lt_of_cell? w _ hx271_2)).trans hx271_2
         replace p271 := eq_true p271
         replace q271 := eq_true q271
         have p272 : 0 ≤ (x10_1 : Int) := of_decide_eq_true (by first | (with_reducible assumption) | assumption)
         have q272 : x10_1 < (l0.length : Int) := of_decide_eq_true (by first | (with_reducible assumption) | assumption)
         obtain ⟨ad272, e272, hx272_0, hx272_1, hx272_2⟩ := at_T57 HR0.out x10_1 p272 q272
         obtain rfl : ad270 = ad272 := (by injection e272)
         replace hx272_0 := (HB.out.cell (World.block_lt_of_cell? w _ hx272_0)).trans hx272_0
         replace hx272_1 := (HB.out.cell (World.block_lt_of_cell? w _ hx272_1)).trans hx272_1
         replace hx272_2 := (HB.out.cell (World.block_lt_of_cell? w _ hx272_2)).trans hx272_2
         replace p272 := eq_true p272
         replace q272 := eq_true q272
         have hcz12_0 : wr.cell? ⟨gb269, 0, none⟩ = some (.int .i64 a1_0) := (blk_cell BK269.out 0).trans rfl
         have hcz12_1 : wr.cell? ⟨gb269, 1, none⟩ = some (.int .i64 a1_1) := (blk_cell BK269.out 1).trans rfl
         have hfz12_0 := blk_frozen BK269.out 0
         have hfz12_1 := blk_frozen BK269.out 1
         go_wp2
         repeat (go_quiet (fail); try go_wp2)
         go_roundg k1
         case measure => have := HK1.out; omega
         case rel => exact ⟨(wrap64 (x9_1 + 1)), (wrap64 (x10_1 + 1)), (by first | rfl | (simp; done) | (simp [*]; done)), (by first | rfl | (simp; done) | (simp [*]; done)), H', ⟨by have := HK1.out; omega⟩, ⟨by (with_reducible repeat (first | refine blk_drewN ?_ _ | refine blk_drew ?_ | refine blk_alloc ?_ _)); exact BK269.out⟩, ⟨by repeat (first | (with_reducible first | exact HB.out | apply below_alloc | apply pw_below_drewN | apply below_drew1 | refine below_set ?_ GE269.out) | exact HB.out)⟩⟩
        ·
         rw [if_neg c11] at H
         have c11b0 : (x10_1 == 0) = false := beq_eq_false_iff_ne.mpr c11
         have c11b1 : (x10_1 != 0) = true := bne_iff_ne.mpr c11
         obtain ⟨ji13, hji13⟩ : ∃ j_ : Int, (wrap64 (x10_1 - 1)) = j_ := ⟨_, rfl⟩
         replace H : (if 0 ≤ (ji13) then (if (ji13) < (l0.length : Int) then (if (!(((rd_T57 l0 (ji13)).f1.f0) == a1_0) || (!(((rd_T57 l0 (ji13)).f1.f1) == a1_1))) = true then (plenumref44_Starts.l0 k1 l0 a2 a3 (wrap64 (x9_1 + 1)) (wrap64 (x10_1 + 1)) a1_0 a1_1) else (plenumref44_Starts.l0 k1 l0 a2 a3 x9_1 (wrap64 (x10_1 + 1)) a1_0 a1_1)) else (none)) else (none)) = some r := by first | (rw [hji13] at H; exact H) | (simp only [hji13] at H ⊢; exact H)
         have hji13w : (IntKind.i64.wrap (x10_1 - 1)) = ji13 := (i64_w _).trans hji13
         by_cases c14 : 0 ≤ (ji13)
         ·
          rw [if_pos c14] at H
          have c14b0 : decide (0 ≤ (ji13)) = true := decide_eq_true c14
          clear c14
          by_cases c15 : (ji13) < (l0.length : Int)
          ·
           rw [if_pos c15] at H
           have c15b0 : decide ((ji13) < (l0.length : Int)) = true := decide_eq_true c15
           clear c15
           by_cases c16 : (!(((rd_T57 l0 (ji13)).f1.f0) == a1_0) || (!(((rd_T57 l0 (ji13)).f1.f1) == a1_1))) = true
           ·
            rw [if_pos c16] at H
            have c16b0 : (!(((rd_T57 l0 (ji13)).f1.f0) == a1_0) || (!(((rd_T57 l0 (ji13)).f1.f1) == a1_1))) = true := c16
            clear c16
            have H' := Aside0.mk H
            clear H
            have p270 : 0 ≤ (x10_1 : Int) := of_decide_eq_true (by first | (with_reducible assumption) | assumption)
            have q270 : x10_1 < (l0.length : Int) := of_decide_eq_true (by first | (with_reducible assumption) | assumption)
            obtain ⟨ad270, e270, hx270_0, hx270_1, hx270_2⟩ := at_T57 HR0.out x10_1 p270 q270
            cases e270
            replace hx270_0 := (HB.out.cell (World.block_lt_of_cell? w _ hx270_0)).trans hx270_0
            replace hx270_1 := (HB.out.cell (World.block_lt_of_cell? w _ hx270_1)).trans hx270_1
            replace hx270_2 := (HB.out.cell (World.block_lt_of_cell? w _ hx270_2)).trans hx270_2
            replace p270 := eq_true p270
            replace q270 := eq_true q270
            have p271 : 0 ≤ (x10_1 : Int) := of_decide_eq_true (by first | (with_reducible assumption) | assumption)
            have q271 : x10_1 < (l0.length : Int) := of_decide_eq_true (by first | (with_reducible assumption) | assumption)
            obtain ⟨ad271, e271, hx271_0, hx271_1, hx271_2⟩ := at_T57 HR0.out x10_1 p271 q271
            obtain rfl : ad270 = ad271 := (by injection e271)
            replace hx271_0 := (HB.out.cell (World.block_lt_of_cell? w _ hx271_0)).trans hx271_0
            replace hx271_1 := (HB.out.cell (World.block_lt_of_cell? w _ hx271_1)).trans hx271_1
            replace hx271_2 := (HB.out.cell (World.block_lt_of_cell? w _ hx271_2)).trans hx271_2
            replace p271 := eq_true p271
            replace q271 := eq_true q271
            have p272 : 0 ≤ (x10_1 : Int) := of_decide_eq_true (by first | (with_reducible assumption) | assumption)
            have q272 : x10_1 < (l0.length : Int) := of_decide_eq_true (by first | (with_reducible assumption) | assumption)
            obtain ⟨ad272, e272, hx272_0, hx272_1, hx272_2⟩ := at_T57 HR0.out x10_1 p272 q272
            obtain rfl : ad270 = ad272 := (by injection e272)
            replace hx272_0 := (HB.out.cell (World.block_lt_of_cell? w _ hx272_0)).trans hx272_0
            replace hx272_1 := (HB.out.cell (World.block_lt_of_cell? w _ hx272_1)).trans hx272_1
            replace hx272_2 := (HB.out.cell (World.block_lt_of_cell? w _ hx272_2)).trans hx272_2
            replace p272 := eq_true p272
            replace q272 := eq_true q272
            have hcz17_0 : wr.cell? ⟨gb269, 0, none⟩ = some (.int .i64 a1_0) := (blk_cell BK269.out 0).trans rfl
            have hcz17_1 : wr.cell? ⟨gb269, 1, none⟩ = some (.int .i64 a1_1) := (blk_cell BK269.out 1).trans rfl
            have hfz17_0 := blk_frozen BK269.out 0
            have hfz17_1 := blk_frozen BK269.out 1
            have p273 : 0 ≤ ((ji13) : Int) := of_decide_eq_true (by first | (with_reducible assumption) | assumption)
            have q273 : (ji13) < (l0.length : Int) := of_decide_eq_true (by first | (with_reducible assumption) | assumption)
            obtain ⟨ad273, e273, hx273_0, hx273_1, hx273_2⟩ := at_T57 HR0.out (ji13) p273 q273
            obtain rfl : ad270 = ad273 := (by injection e273)
            replace hx273_0 := (HB.out.cell (World.block_lt_of_cell? w _ hx273_0)).trans hx273_0
            replace hx273_1 := (HB.out.cell (World.block_lt_of_cell? w _ hx273_1)).trans hx273_1
            replace hx273_2 := (HB.out.cell (World.block_lt_of_cell? w _ hx273_2)).trans hx273_2
            replace p273 := eq_true p273
            replace q273 := eq_true q273
            go_wp2
            repeat (go_quiet (fail); try go_wp2)
            go_roundg k1
            case measure => have := HK1.out; omega
            case rel => exact ⟨(wrap64 (x9_1 + 1)), (wrap64 (x10_1 + 1)), (by first | rfl | (simp; done) | (simp [*]; done)), (by first | rfl | (simp; done) | (simp [*]; done)), H', ⟨by have := HK1.out; omega⟩, ⟨by (with_reducible repeat (first | refine blk_drewN ?_ _ | refine blk_drew ?_ | refine blk_alloc ?_ _)); exact BK269.out⟩, ⟨by repeat (first | (with_reducible first | exact HB.out | apply below_alloc | apply pw_below_drewN | apply below_drew1 | refine below_set ?_ GE269.out) | exact HB.out)⟩⟩
           ·
            rw [if_neg c16] at H
            have c16b0 : (!(((rd_T57 l0 (ji13)).f1.f0) == a1_0) || (!(((rd_T57 l0 (ji13)).f1.f1) == a1_1))) = false := by simpa using c16
            clear c16
            have H' := Aside0.mk H
            clear H
            have p270 : 0 ≤ (x10_1 : Int) := of_decide_eq_true (by first | (with_reducible assumption) | assumption)
            have q270 : x10_1 < (l0.length : Int) := of_decide_eq_true (by first | (with_reducible assumption) | assumption)
            obtain ⟨ad270, e270, hx270_0, hx270_1, hx270_2⟩ := at_T57 HR0.out x10_1 p270 q270
            cases e270
            replace hx270_0 := (HB.out.cell (World.block_lt_of_cell? w _ hx270_0)).trans hx270_0
            replace hx270_1 := (HB.out.cell (World.block_lt_of_cell? w _ hx270_1)).trans hx270_1
            replace hx270_2 := (HB.out.cell (World.block_lt_of_cell? w _ hx270_2)).trans hx270_2
            replace p270 := eq_true p270
            replace q270 := eq_true q270
            have p271 : 0 ≤ (x10_1 : Int) := of_decide_eq_true (by first | (with_reducible assumption) | assumption)
            have q271 : x10_1 < (l0.length : Int) := of_decide_eq_true (by first | (with_reducible assumption) | assumption)
            obtain ⟨ad271, e271, hx271_0, hx271_1, hx271_2⟩ := at_T57 HR0.out x10_1 p271 q271
            obtain rfl : ad270 = ad271 := (by injection e271)
            replace hx271_0 := (HB.out.cell (World.block_lt_of_cell? w _ hx271_0)).trans hx271_0
            replace hx271_1 := (HB.out.cell (World.block_lt_of_cell? w _ hx271_1)).trans hx271_1
            replace hx271_2 := (HB.out.cell (World.block_lt_of_cell? w _ hx271_2)).trans hx271_2
            replace p271 := eq_true p271
            replace q271 := eq_true q271
            have p272 : 0 ≤ (x10_1 : Int) := of_decide_eq_true (by first | (with_reducible assumption) | assumption)
            have q272 : x10_1 < (l0.length : Int) := of_decide_eq_true (by first | (with_reducible assumption) | assumption)
            obtain ⟨ad272, e272, hx272_0, hx272_1, hx272_2⟩ := at_T57 HR0.out x10_1 p272 q272
            obtain rfl : ad270 = ad272 := (by injection e272)
            replace hx272_0 := (HB.out.cell (World.block_lt_of_cell? w _ hx272_0)).trans hx272_0
            replace hx272_1 := (HB.out.cell (World.block_lt_of_cell? w _ hx272_1)).trans hx272_1
            replace hx272_2 := (HB.out.cell (World.block_lt_of_cell? w _ hx272_2)).trans hx272_2
            replace p272 := eq_true p272
            replace q272 := eq_true q272
            have hcz18_0 : wr.cell? ⟨gb269, 0, none⟩ = some (.int .i64 a1_0) := (blk_cell BK269.out 0).trans rfl
            have hcz18_1 : wr.cell? ⟨gb269, 1, none⟩ = some (.int .i64 a1_1) := (blk_cell BK269.out 1).trans rfl
            have hfz18_0 := blk_frozen BK269.out 0
            have hfz18_1 := blk_frozen BK269.out 1
            have p273 : 0 ≤ ((ji13) : Int) := of_decide_eq_true (by first | (with_reducible assumption) | assumption)
            have q273 : (ji13) < (l0.length : Int) := of_decide_eq_true (by first | (with_reducible assumption) | assumption)
            obtain ⟨ad273, e273, hx273_0, hx273_1, hx273_2⟩ := at_T57 HR0.out (ji13) p273 q273
            obtain rfl : ad270 = ad273 := (by injection e273)
            replace hx273_0 := (HB.out.cell (World.block_lt_of_cell? w _ hx273_0)).trans hx273_0
            replace hx273_1 := (HB.out.cell (World.block_lt_of_cell? w _ hx273_1)).trans hx273_1
            replace hx273_2 := (HB.out.cell (World.block_lt_of_cell? w _ hx273_2)).trans hx273_2
            replace p273 := eq_true p273
            replace q273 := eq_true q273
            go_wp2
            repeat (go_quiet (fail); try go_wp2)
            go_roundg k1
            case measure => have := HK1.out; omega
            case rel => exact ⟨(x9_1), (wrap64 (x10_1 + 1)), (by first | rfl | (simp; done) | (simp [*]; done)), (by first | rfl | (simp; done) | (simp [*]; done)), H', ⟨by have := HK1.out; omega⟩, ⟨by (with_reducible repeat (first | refine blk_drewN ?_ _ | refine blk_drew ?_ | refine blk_alloc ?_ _)); exact BK269.out⟩, ⟨by repeat (first | (with_reducible first | exact HB.out | apply below_alloc | apply pw_below_drewN | apply below_drew1 | refine below_set ?_ GE269.out) | exact HB.out)⟩⟩
          ·
           rw [if_neg c15] at H
           exact absurd H (by simp)
         ·
          rw [if_neg c14] at H
          exact absurd H (by simp)
       ·
        rw [if_neg c10] at H
        have c10b0 : (((rd_T57 l0 x10_1).f1.f0) == a1_0 && (((rd_T57 l0 x10_1).f1.f1) == a1_1)) = false := by simpa using c10
        (try (have c10b1 : decide (((rd_T57 l0 x10_1).f1.f0) = a1_0 && (((rd_T57 l0 x10_1).f1.f1) == a1_1)) = false := by simpa using c10))
        (try (have c10b2 : (((rd_T57 l0 x10_1).f1.f0) == a1_0 && (((rd_T57 l0 x10_1).f1.f1) == a1_1)) = false := by simpa using c10))
        (try (have c10b3 : ¬ (((rd_T57 l0 x10_1).f1.f0) = a1_0 && (((rd_T57 l0 x10_1).f1.f1) == a1_1)) := by simpa using c10))
        clear c10
        have H' := Aside0.mk H
        clear H
        have p270 : 0 ≤ (x10_1 : Int) := of_decide_eq_true (by first | (with_reducible assumption) | assumption)
        have q270 : x10_1 < (l0.length : Int) := of_decide_eq_true (by first | (with_reducible assumption) | assumption)
        obtain ⟨ad270, e270, hx270_0, hx270_1, hx270_2⟩ := at_T57 HR0.out x10_1 p270 q270
        cases e270
        replace hx270_0 := (HB.out.cell (World.block_lt_of_cell? w _ hx270_0)).trans hx270_0
        replace hx270_1 := (HB.out.cell (World.block_lt_of_cell? w _ hx270_1)).trans hx270_1
        replace hx270_2 := (HB.out.cell (World.block_lt_of_cell? w _ hx270_2)).trans hx270_2
        replace p270 := eq_true p270
        replace q270 := eq_true q270
        have p271 : 0 ≤ (x10_1 : Int) := of_decide_eq_true (by first | (with_reducible assumption) | assumption)
        have q271 : x10_1 < (l0.length : Int) := of_decide_eq_true (by first | (with_reducible assumption) | assumption)
        obtain ⟨ad271, e271, hx271_0, hx271_1, hx271_2⟩ := at_T57 HR0.out x10_1 p271 q271
        obtain rfl : ad270 = ad271 := (by injection e271)
        replace hx271_0 := (HB.out.cell (World.block_lt_of_cell? w _ hx271_0)).trans hx271_0
        replace hx271_1 := (HB.out.cell (World.block_lt_of_cell? w _ hx271_1)).trans hx271_1
        replace hx271_2 := (HB.out.cell (World.block_lt_of_cell? w _ hx271_2)).trans hx271_2
        replace p271 := eq_true p271
        replace q271 := eq_true q271
        have p272 : 0 ≤ (x10_1 : Int) := of_decide_eq_true (by first | (with_reducible assumption) | assumption)
        have q272 : x10_1 < (l0.length : Int) := of_decide_eq_true (by first | (with_reducible assumption) | assumption)
        obtain ⟨ad272, e272, hx272_0, hx272_1, hx272_2⟩ := at_T57 HR0.out x10_1 p272 q272
        obtain rfl : ad270 = ad272 := (by injection e272)
        replace hx272_0 := (HB.out.cell (World.block_lt_of_cell? w _ hx272_0)).trans hx272_0
        replace hx272_1 := (HB.out.cell (World.block_lt_of_cell? w _ hx272_1)).trans hx272_1
        replace hx272_2 := (HB.out.cell (World.block_lt_of_cell? w _ hx272_2)).trans hx272_2
        replace p272 := eq_true p272
        replace q272 := eq_true q272
        have hcz19_0 : wr.cell? ⟨gb269, 0, none⟩ = some (.int .i64 a1_0) := (blk_cell BK269.out 0).trans rfl
        have hcz19_1 : wr.cell? ⟨gb269, 1, none⟩ = some (.int .i64 a1_1) := (blk_cell BK269.out 1).trans rfl
        have hfz19_0 := blk_frozen BK269.out 0
        have hfz19_1 := blk_frozen BK269.out 1
        go_wp2
        repeat (go_quiet (fail); try go_wp2)
        go_roundg k1
        case measure => have := HK1.out; omega
        case rel => exact ⟨(x9_1), (wrap64 (x10_1 + 1)), (by first | rfl | (simp; done) | (simp [*]; done)), (by first | rfl | (simp; done) | (simp [*]; done)), H', ⟨by have := HK1.out; omega⟩, ⟨by (with_reducible repeat (first | refine blk_drewN ?_ _ | refine blk_drew ?_ | refine blk_alloc ?_ _)); exact BK269.out⟩, ⟨by repeat (first | (with_reducible first | exact HB.out | apply below_alloc | apply pw_below_drewN | apply below_drew1 | refine below_set ?_ GE269.out) | exact HB.out)⟩⟩
      ·
       rw [if_neg c9] at H
       have c9b0 : decide (((rd_T57 l0 x10_1).f0) < a3) = false := decide_eq_false c9
       clear c9
       have H' := Aside0.mk H
       clear H
       have p270 : 0 ≤ (x10_1 : Int) := of_decide_eq_true (by first | (with_reducible assumption) | assumption)
       have q270 : x10_1 < (l0.length : Int) := of_decide_eq_true (by first | (with_reducible assumption) | assumption)
       obtain ⟨ad270, e270, hx270_0, hx270_1, hx270_2⟩ := at_T57 HR0.out x10_1 p270 q270
       cases e270
       replace hx270_0 := (HB.out.cell (World.block_lt_of_cell? w _ hx270_0)).trans hx270_0
       replace hx270_1 := (HB.out.cell (World.block_lt_of_cell? w _ hx270_1)).trans hx270_1
       replace hx270_2 := (HB.out.cell (World.block_lt_of_cell? w _ hx270_2)).trans hx270_2
       replace p270 := eq_true p270
       replace q270 := eq_true q270
       have p271 : 0 ≤ (x10_1 : Int) := of_decide_eq_true (by first | (with_reducible assumption) | assumption)
       have q271 : x10_1 < (l0.length : Int) := of_decide_eq_true (by first | (with_reducible assumption) | assumption)
       obtain ⟨ad271, e271, hx271_0, hx271_1, hx271_2⟩ := at_T57 HR0.out x10_1 p271 q271
       obtain rfl : ad270 = ad271 := (by injection e271)
       replace hx271_0 := (HB.out.cell (World.block_lt_of_cell? w _ hx271_0)).trans hx271_0
       replace hx271_1 := (HB.out.cell (World.block_lt_of_cell? w _ hx271_1)).trans hx271_1
       replace hx271_2 := (HB.out.cell (World.block_lt_of_cell? w _ hx271_2)).trans hx271_2
       replace p271 := eq_true p271
       replace q271 := eq_true q271
       go_wp2
       repeat (go_quiet (fail); try go_wp2)
       go_roundg k1
       case measure => have := HK1.out; omega
       case rel => exact ⟨(x9_1), (wrap64 (x10_1 + 1)), (by first | rfl | (simp; done) | (simp [*]; done)), (by first | rfl | (simp; done) | (simp [*]; done)), H', ⟨by have := HK1.out; omega⟩, ⟨by (with_reducible repeat (first | refine blk_drewN ?_ _ | refine blk_drew ?_ | refine blk_alloc ?_ _)); exact BK269.out⟩, ⟨by repeat (first | (with_reducible first | exact HB.out | apply below_alloc | apply pw_below_drewN | apply below_drew1 | refine below_set ?_ GE269.out) | exact HB.out)⟩⟩
     ·
      rw [if_neg c8] at H
      have c8b0 : decide (a2 ≤ ((rd_T57 l0 x10_1).f0)) = false := decide_eq_false c8
      clear c8
      have H' := Aside0.mk H
      clear H
      have p270 : 0 ≤ (x10_1 : Int) := of_decide_eq_true (by first | (with_reducible assumption) | assumption)
      have q270 : x10_1 < (l0.length : Int) := of_decide_eq_true (by first | (with_reducible assumption) | assumption)
      obtain ⟨ad270, e270, hx270_0, hx270_1, hx270_2⟩ := at_T57 HR0.out x10_1 p270 q270
      cases e270
      replace hx270_0 := (HB.out.cell (World.block_lt_of_cell? w _ hx270_0)).trans hx270_0
      replace hx270_1 := (HB.out.cell (World.block_lt_of_cell? w _ hx270_1)).trans hx270_1
      replace hx270_2 := (HB.out.cell (World.block_lt_of_cell? w _ hx270_2)).trans hx270_2
      replace p270 := eq_true p270
      replace q270 := eq_true q270
      go_wp2
      repeat (go_quiet (fail); try go_wp2)
      go_roundg k1
      case measure => have := HK1.out; omega
      case rel => exact ⟨(x9_1), (wrap64 (x10_1 + 1)), (by first | rfl | (simp; done) | (simp [*]; done)), (by first | rfl | (simp; done) | (simp [*]; done)), H', ⟨by have := HK1.out; omega⟩, ⟨by (with_reducible repeat (first | refine blk_drewN ?_ _ | refine blk_drew ?_ | refine blk_alloc ?_ _)); exact BK269.out⟩, ⟨by repeat (first | (with_reducible first | exact HB.out | apply below_alloc | apply pw_below_drewN | apply below_drew1 | refine below_set ?_ GE269.out) | exact HB.out)⟩⟩
    ·
     rw [if_neg c7] at H
     exact absurd H (by simp)
   ·
    rw [if_neg c6] at H
    have c6b0 : decide (x10_1 < (l0.length : Int)) = false := decide_eq_false c6
    clear c6
    obtain rfl := Option.some.inj H
    go_wp2
    repeat (go_quiet (fail); try go_wp2)
    go_ret
    exact ⟨by first | rfl | (simp [errW_none, errW_some] <;> rfl) | (simp [*, errW_none, errW_some] <;> rfl), by repeat (first | (with_reducible first | exact HB.out | apply below_alloc | apply pw_below_drewN | apply below_drew1 | refine below_set ?_ GE269.out) | exact HB.out)⟩
end Go.Proofs.Ytnfcbhoaebcndaa.PT
