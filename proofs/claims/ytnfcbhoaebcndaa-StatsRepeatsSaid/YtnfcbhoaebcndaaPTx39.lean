-- Laid by hp.py (a program of this session's) through the kit's printer. (squeezed)
import Derived.Test.YtnfcbhoaebcndaaPTx0
import Derived.Test.YtnfcbhoaebcndaaPTx14
import Derived.Test.YtnfcbhoaebcndaaPTx16
import Derived.Test.YtnfcbhoaebcndaaPTx18
import Derived.Test.YtnfcbhoaebcndaaPTx19
import Derived.Test.YtnfcbhoaebcndaaPTx23
import Derived.Test.YtnfcbhoaebcndaaPTx31
import Derived.Test.YtnfcbhoaebcndaaPTx36
namespace Go.Proofs.Ytnfcbhoaebcndaa.PT
open Go.RowKit Go.Proofs.YtnfcbhoaebcndaaW.PrintWords Go.Proofs.YtnfcbhoaebcndaaW.PrintLast Go.Proofs.YtnfcbhoaebcndaaW.PrintMore
attribute [local go_sem] max2_int min2_int max_two min_two max_three min_three max_four min_four   -- for this text's walks alone
set_option linter.unusedVariables false
set_option linter.unusedSimpArgs false
/-! ### plenumlaw44_StatsRepeats: function 8 -/
mutual
def plenumlaw44_StatsRepeats.j0 : Nat → List (S57) → Int → Int → Int → Bool → Int → Int → Option (Bool)
 | 0, _, _, _, _, _, _, _ => none
 | k + 1, x0, x1, x3, x4, x50, x350000, x350001 => if x50 = true then ((plenumlaw44_awake.f).bind fun t352 => (some t352)) else ((stats_At.f k x0 x1).bind fun bt353 => (plenumlaw44_StatsRepeats.l0 k x0 x1 x3 x4 bt353.2.2 (([] : List (S57))) false 0 x350000 x350001 bt353.1 bt353.2.1))
def plenumlaw44_StatsRepeats.l0 : Nat → List (S57) → Int → Int → Int → Int → List (S57) → Bool → Int → Int → Int → Int → Int → Option (Bool)
 | 0, _, _, _, _, _, _, _, _, _, _, _, _ => none
 | k + 1, x0, x1, x3, x4, x12, x13, x14, x15, x350000, x350001, x357000, x357001 => if x15 < (x0.length : Int) then (if 0 ≤ x15 then (if ((rd_T57 x0 x15).f0) = x1 then (plenumlaw44_StatsRepeats.j2 k x0 x1 x3 x4 x12 x13 x14 x15 true x350000 x350001 x357000 x357001) else (if 0 < (x0.length : Int) then (plenumlaw44_StatsRepeats.j2 k x0 x1 x3 x4 x12 x13 x14 x15 (decide (((rd_T57 x0 0).f0) > x1)) x350000 x350001 x357000 x357001) else (none))) else (none)) else (if x14 = true then (plenumlaw44_StatsRepeats.j3 k x0 x3 x4 x12 x13 x350000 x350001) else (if x13.length < 5864062014805 then (plenumlaw44_StatsRepeats.j3 k x0 x3 x4 x12 (x13 ++ [(⟨x1, (⟨x357000, x357001⟩ : S45)⟩ : S57)]) x350000 x350001) else (none)))
def plenumlaw44_StatsRepeats.j2 : Nat → List (S57) → Int → Int → Int → Int → List (S57) → Bool → Int → Bool → Int → Int → Int → Int → Option (Bool)
 | 0, _, _, _, _, _, _, _, _, _, _, _, _, _ => none
 | k + 1, x0, x1, x3, x4, x12, x13, x14, x15, x79, x350000, x350001, x357000, x357001 => if x79 = true then ((plenumlaw44_awake.f).bind fun t362 => (some t362)) else (if 0 ≤ x15 then (if x15 < (x0.length : Int) then (if ((rd_T57 x0 x15).f0) > x1 then (if x14 = true then (if x13.length < 5864062014805 then (plenumlaw44_StatsRepeats.l0 k x0 x1 x3 x4 x12 (x13 ++ [(⟨(rd_T57 x0 x15).f0, (⟨(rd_T57 x0 x15).f1.f0, (rd_T57 x0 x15).f1.f1⟩ : S45)⟩ : S57)]) x14 (wrap64 (x15 + 1)) x350000 x350001 x357000 x357001) else (none)) else (if x13.length < 5864062014805 then ((some (x13 ++ [(⟨x1, (⟨x357000, x357001⟩ : S45)⟩ : S57)] : List (S57))).bind fun y368 => (if y368.length < 5864062014805 then (plenumlaw44_StatsRepeats.l0 k x0 x1 x3 x4 x12 (y368 ++ [(⟨(rd_T57 x0 x15).f0, (⟨(rd_T57 x0 x15).f1.f0, (rd_T57 x0 x15).f1.f1⟩ : S45)⟩ : S57)]) true (wrap64 (x15 + 1)) x350000 x350001 x357000 x357001) else (none))) else (none))) else (if x13.length < 5864062014805 then (plenumlaw44_StatsRepeats.l0 k x0 x1 x3 x4 x12 (x13 ++ [(⟨(rd_T57 x0 x15).f0, (⟨(rd_T57 x0 x15).f1.f0, (rd_T57 x0 x15).f1.f1⟩ : S45)⟩ : S57)]) x14 (wrap64 (x15 + 1)) x350000 x350001 x357000 x357001) else (none))) else (none)) else (none))
def plenumlaw44_StatsRepeats.j3 : Nat → List (S57) → Int → Int → Int → List (S57) → Int → Int → Option (Bool)
 | 0, _, _, _, _, _, _, _ => none
 | k + 1, x0, x3, x4, x12, x13, x350000, x350001 => (stats_Integral.f k x0 x3 x4).bind fun bt382 => ((stats_Integral.f k x13 x3 x4).bind fun bt384 => ((stats_Seconds.f k x0 x350000 x350001 x3 x4).bind fun bt386 => ((stats_Seconds.f k x13 x350000 x350001 x3 x4).bind fun bt388 => ((stats_Starts.f k x0 x350000 x350001 x3 x4).bind fun bt390 => ((stats_Starts.f k x13 x350000 x350001 x3 x4).bind fun bt392 => ((plenumlaw44_awake.f).bind fun t394 => (if t394 = true then (if x12 = 0 then (if bt382.2 = bt384.2 then (if bt382.1 = bt384.1 then (if bt386.2 = bt388.2 then (if bt386.1 = bt388.1 then (if bt390.2 = bt392.2 then (if bt390.1 = bt392.1 then (some true) else (some ((x0.length : Int) == 0))) else (some ((x0.length : Int) == 0))) else (some false)) else (some false)) else (some false)) else (some false)) else (some false)) else (some false))))))))
end
def plenumlaw44_StatsRepeats.f (k : Nat) (l0 : List (S57)) (a1 : Int) (a2_0 : Int) (a2_1 : Int) (a3 : Int) (a4 : Int) : Option (Bool) := if (l0.length : Int) > 60 then (plenumlaw44_StatsRepeats.j0 k l0 a1 a3 a4 true a2_0 a2_1) else ((plenumref12_Valid.f a2_0 a2_1).bind fun t350 => (if t350 = true then ((plenumlaw44_first.f k l0 a3 a4).bind fun t351 => (if t351 = 0 then (if a1 < 0 then (plenumlaw44_StatsRepeats.j0 k l0 a1 a3 a4 true a2_0 a2_1) else (plenumlaw44_StatsRepeats.j0 k l0 a1 a3 a4 (decide (a1 > 6311433599)) a2_0 a2_1)) else (plenumlaw44_StatsRepeats.j0 k l0 a1 a3 a4 true a2_0 a2_1))) else (plenumlaw44_StatsRepeats.j0 k l0 a1 a3 a4 true a2_0 a2_1)))
theorem plenumlaw44_StatsRepeats.mono_l : ∀ k, (∀ y0 y1 y2 y3 y4 y5 y6, LeO (plenumlaw44_StatsRepeats.j0 k y0 y1 y2 y3 y4 y5 y6) (plenumlaw44_StatsRepeats.j0 (k + 1) y0 y1 y2 y3 y4 y5 y6)) ∧ (∀ y0 y1 y2 y3 y4 y5 y6 y7 y8 y9 y10 y11, LeO (plenumlaw44_StatsRepeats.l0 k y0 y1 y2 y3 y4 y5 y6 y7 y8 y9 y10 y11) (plenumlaw44_StatsRepeats.l0 (k + 1) y0 y1 y2 y3 y4 y5 y6 y7 y8 y9 y10 y11)) ∧ (∀ y0 y1 y2 y3 y4 y5 y6 y7 y8 y9 y10 y11 y12, LeO (plenumlaw44_StatsRepeats.j2 k y0 y1 y2 y3 y4 y5 y6 y7 y8 y9 y10 y11 y12) (plenumlaw44_StatsRepeats.j2 (k + 1) y0 y1 y2 y3 y4 y5 y6 y7 y8 y9 y10 y11 y12)) ∧ (∀ y0 y1 y2 y3 y4 y5 y6, LeO (plenumlaw44_StatsRepeats.j3 k y0 y1 y2 y3 y4 y5 y6) (plenumlaw44_StatsRepeats.j3 (k + 1) y0 y1 y2 y3 y4 y5 y6))
 | 0 => ⟨fun _ _ _ _ _ _ _ r h => by simp [plenumlaw44_StatsRepeats.j0] at h, fun _ _ _ _ _ _ _ _ _ _ _ _ r h => by simp [plenumlaw44_StatsRepeats.l0] at h, fun _ _ _ _ _ _ _ _ _ _ _ _ _ r h => by simp [plenumlaw44_StatsRepeats.j2] at h, fun _ _ _ _ _ _ _ r h => by simp [plenumlaw44_StatsRepeats.j3] at h⟩
 | k + 1 => by
  obtain ⟨ih0, ih1, ih2, ih3⟩ := plenumlaw44_StatsRepeats.mono_l k
  refine ⟨?_, ?_, ?_, ?_⟩
  ·
   intro y0 y1 y2 y3 y4 y5 y6
   unfold plenumlaw44_StatsRepeats.j0
   repeat' first
   | (with_reducible exact ih0 _ _ _ _ _ _ _)
   | (with_reducible exact ih1 _ _ _ _ _ _ _ _ _ _ _ _)
   | (with_reducible exact ih2 _ _ _ _ _ _ _ _ _ _ _ _ _)
   | (with_reducible exact ih3 _ _ _ _ _ _ _)
   | (with_reducible exact plenumlaw44_first.mono _ _ _ _)
   | (with_reducible exact stats_At.mono _ _ _)
   | (with_reducible exact stats_Integral.mono _ _ _ _)
   | (with_reducible exact stats_Seconds.mono _ _ _ _ _ _)
   | (with_reducible exact stats_Starts.mono _ _ _ _ _ _)
   | (with_reducible exact LeO.refl _)
   | (with_reducible exact LeO.none _)
   | (with_reducible refine LeO.ite ?_ ?_)
   | (with_reducible refine LeO.bind ?_ (fun _ => ?_))
   | exact ih0 _ _ _ _ _ _ _
   | exact ih1 _ _ _ _ _ _ _ _ _ _ _ _
   | exact ih2 _ _ _ _ _ _ _ _ _ _ _ _ _
   | exact ih3 _ _ _ _ _ _ _
   | exact plenumlaw44_first.mono _ _ _ _
   | exact stats_At.mono _ _ _
   | exact stats_Integral.mono _ _ _ _
   | exact stats_Seconds.mono _ _ _ _ _ _
   | exact stats_Starts.mono _ _ _ _ _ _
   | exact LeO.none _
   | refine LeO.ite ?_ ?_
   | refine LeO.bind ?_ (fun _ => ?_)
  ·
   intro y0 y1 y2 y3 y4 y5 y6 y7 y8 y9 y10 y11
   unfold plenumlaw44_StatsRepeats.l0
   repeat' first
   | (with_reducible exact ih0 _ _ _ _ _ _ _)
   | (with_reducible exact ih1 _ _ _ _ _ _ _ _ _ _ _ _)
   | (with_reducible exact ih2 _ _ _ _ _ _ _ _ _ _ _ _ _)
   | (with_reducible exact ih3 _ _ _ _ _ _ _)
   | (with_reducible exact plenumlaw44_first.mono _ _ _ _)
   | (with_reducible exact stats_At.mono _ _ _)
   | (with_reducible exact stats_Integral.mono _ _ _ _)
   | (with_reducible exact stats_Seconds.mono _ _ _ _ _ _)
   | (with_reducible exact stats_Starts.mono _ _ _ _ _ _)
   | (with_reducible exact LeO.refl _)
   | (with_reducible exact LeO.none _)
   | (with_reducible refine LeO.ite ?_ ?_)
   | (with_reducible refine LeO.bind ?_ (fun _ => ?_))
   | exact ih0 _ _ _ _ _ _ _
   | exact ih1 _ _ _ _ _ _ _ _ _ _ _ _
   | exact ih2 _ _ _ _ _ _ _ _ _ _ _ _ _
   | exact ih3 _ _ _ _ _ _ _
   | exact plenumlaw44_first.mono _ _ _ _
   | exact stats_At.mono _ _ _
   | exact stats_Integral.mono _ _ _ _
   | exact stats_Seconds.mono _ _ _ _ _ _
   | exact stats_Starts.mono _ _ _ _ _ _
   | exact LeO.none _
   | refine LeO.ite ?_ ?_
   | refine LeO.bind ?_ (fun _ => ?_)
  ·
   intro y0 y1 y2 y3 y4 y5 y6 y7 y8 y9 y10 y11 y12
   unfold plenumlaw44_StatsRepeats.j2
   repeat' first
   | (with_reducible exact ih0 _ _ _ _ _ _ _)
   | (with_reducible exact ih1 _ _ _ _ _ _ _ _ _ _ _ _)
   | (with_reducible exact ih2 _ _ _ _ _ _ _ _ _ _ _ _ _)
   | (with_reducible exact ih3 _ _ _ _ _ _ _)
   | (with_reducible exact plenumlaw44_first.mono _ _ _ _)
   | (with_reducible exact stats_At.mono _ _ _)
   | (with_reducible exact stats_Integral.mono _ _ _ _)
   | (with_reducible exact stats_Seconds.mono _ _ _ _ _ _)
   | (with_reducible exact stats_Starts.mono _ _ _ _ _ _)
   | (with_reducible exact LeO.refl _)
   | (with_reducible exact LeO.none _)
   | (with_reducible refine LeO.ite ?_ ?_)
   | (with_reducible refine LeO.bind ?_ (fun _ => ?_))
   | exact ih0 _ _ _ _ _ _ _
   | exact ih1 _ _ _ _ _ _ _ _ _ _ _ _
   | exact ih2 _ _ _ _ _ _ _ _ _ _ _ _ _
   | exact ih3 _ _ _ _ _ _ _
   | exact plenumlaw44_first.mono _ _ _ _
   | exact stats_At.mono _ _ _
   | exact stats_Integral.mono _ _ _ _
   | exact stats_Seconds.mono _ _ _ _ _ _
   | exact stats_Starts.mono _ _ _ _ _ _
   | exact LeO.none _
   | refine LeO.ite ?_ ?_
   | refine LeO.bind ?_ (fun _ => ?_)
  ·
   intro y0 y1 y2 y3 y4 y5 y6
   unfold plenumlaw44_StatsRepeats.j3
   repeat' first
   | (with_reducible exact ih0 _ _ _ _ _ _ _)
   | (with_reducible exact ih1 _ _ _ _ _ _ _ _ _ _ _ _)
   | (with_reducible exact ih2 _ _ _ _ _ _ _ _ _ _ _ _ _)
   | (with_reducible exact ih3 _ _ _ _ _ _ _)
   | (with_reducible exact plenumlaw44_first.mono _ _ _ _)
   | (with_reducible exact stats_At.mono _ _ _)
   | (with_reducible exact stats_Integral.mono _ _ _ _)
   | (with_reducible exact stats_Seconds.mono _ _ _ _ _ _)
   | (with_reducible exact stats_Starts.mono _ _ _ _ _ _)
   | (with_reducible exact LeO.refl _)
   | (with_reducible exact LeO.none _)
   | (with_reducible refine LeO.ite ?_ ?_)
   | (with_reducible refine LeO.bind ?_ (fun _ => ?_))
   | exact ih0 _ _ _ _ _ _ _
   | exact ih1 _ _ _ _ _ _ _ _ _ _ _ _
   | exact ih2 _ _ _ _ _ _ _ _ _ _ _ _ _
   | exact ih3 _ _ _ _ _ _ _
   | exact plenumlaw44_first.mono _ _ _ _
   | exact stats_At.mono _ _ _
   | exact stats_Integral.mono _ _ _ _
   | exact stats_Seconds.mono _ _ _ _ _ _
   | exact stats_Starts.mono _ _ _ _ _ _
   | exact LeO.none _
   | refine LeO.ite ?_ ?_
   | refine LeO.bind ?_ (fun _ => ?_)
theorem plenumlaw44_StatsRepeats.mono : ∀ a0 a1 a2 a3 a4 a5 k, LeO (plenumlaw44_StatsRepeats.f k a0 a1 a2 a3 a4 a5) (plenumlaw44_StatsRepeats.f (k + 1) a0 a1 a2 a3 a4 a5) := by
 intro a0 a1 a2 a3 a4 a5 k
 obtain ⟨ih0, ih1, ih2, ih3⟩ := plenumlaw44_StatsRepeats.mono_l k
 unfold plenumlaw44_StatsRepeats.f
 repeat' first
  | (with_reducible exact ih0 _ _ _ _ _ _ _)
  | (with_reducible exact ih1 _ _ _ _ _ _ _ _ _ _ _ _)
  | (with_reducible exact ih2 _ _ _ _ _ _ _ _ _ _ _ _ _)
  | (with_reducible exact ih3 _ _ _ _ _ _ _)
  | (with_reducible exact plenumlaw44_first.mono _ _ _ _)
  | (with_reducible exact stats_At.mono _ _ _)
  | (with_reducible exact stats_Integral.mono _ _ _ _)
  | (with_reducible exact stats_Seconds.mono _ _ _ _ _ _)
  | (with_reducible exact stats_Starts.mono _ _ _ _ _ _)
  | (with_reducible exact LeO.refl _)
  | (with_reducible exact LeO.none _)
  | (with_reducible refine LeO.ite ?_ ?_)
  | (with_reducible refine LeO.bind ?_ (fun _ => ?_))
  | exact ih0 _ _ _ _ _ _ _
  | exact ih1 _ _ _ _ _ _ _ _ _ _ _ _
  | exact ih2 _ _ _ _ _ _ _ _ _ _ _ _ _
  | exact ih3 _ _ _ _ _ _ _
  | exact plenumlaw44_first.mono _ _ _ _
  | exact stats_At.mono _ _ _
  | exact stats_Integral.mono _ _ _ _
  | exact stats_Seconds.mono _ _ _ _ _ _
  | exact stats_Starts.mono _ _ _ _ _ _
  | exact LeO.none _
  | refine LeO.ite ?_ ?_
  | refine LeO.bind ?_ (fun _ => ?_)
set_option maxHeartbeats 8000000 in
set_option maxRecDepth 100000 in
theorem plenumlaw44_StatsRepeats.calls (k : Nat) (A0 : Option Addr) (c0 : Nat) (l0 : List (S57)) (a1 : Int) (a2_0 : Int) (a2_1 : Int) (a3 : Int) (a4 : Int) (r : Bool) (w : World) (hr0 : Kd.C k57 w A0 l0.length l0) (hc0 : l0.length ≤ c0) (h : plenumlaw44_StatsRepeats.f k l0 a1 a2_0 a2_1 a3 a4 = some r) :
 Calls Try.prog 8 #[.slice A0 l0.length c0, .int .i64 a1, .agg #[.int .i64 a2_0, .int .i64 a2_1], .int .i64 a3, .int .i64 a4] w fun e w' => e = .returned (.bool r) ∧ Below w.heap.size w w' := by
 have hu45 := Try.underlying45
 have hu57 := Try.underlying57
 have HR0 := Aside0.mk hr0
 have HC0 := Aside0.mk hc0
 clear hr0 hc0
 have HB := Aside0.mk (Below.refl w.heap.size w)
 have H : (if (l0.length : Int) > 60 then (plenumlaw44_StatsRepeats.j0 k l0 a1 a3 a4 true a2_0 a2_1) else ((plenumref12_Valid.f a2_0 a2_1).bind fun t350 => (if t350 = true then ((plenumlaw44_first.f k l0 a3 a4).bind fun t351 => (if t351 = 0 then (if a1 < 0 then (plenumlaw44_StatsRepeats.j0 k l0 a1 a3 a4 true a2_0 a2_1) else (plenumlaw44_StatsRepeats.j0 k l0 a1 a3 a4 (decide (a1 > 6311433599)) a2_0 a2_1)) else (plenumlaw44_StatsRepeats.j0 k l0 a1 a3 a4 true a2_0 a2_1))) else (plenumlaw44_StatsRepeats.j0 k l0 a1 a3 a4 true a2_0 a2_1)))) = some r := h
 clear h
 have HC6 := Aside0.mk H
 clear H
 go_enter Try.func8, Try.ntmps8
 go_upto_region 1 with (first | ((with_reducible refine gate_dst (N := 7) rfl ?_); (try (refine gate_guard (by rfl) ?_; dsimp only)); refine box_event ?hg (N := 7) ?hd (cs := #[.int .i64 a2_0, .int .i64 a2_1]) (t := 45) ?hr ?_; (case hd => rfl); (case hg => rfl); (case hr => first | (go_simp; done) | (go_simp; rfl)); intro gb349 hg w7 hbox hb; have n0_ := Aside0.mk (below_step (by repeat (first | (with_reducible first | exact HB.out | apply below_alloc | apply pw_below_drewN | apply below_drew1) | exact HB.out)) hb); have n1_ := Aside0.mk (hbox); have n2_ := Aside0.mk ((by rw [hg]; exact (below_size (by repeat (first | (with_reducible first | exact HB.out | apply below_alloc | apply pw_below_drewN | apply below_drew1) | exact HB.out))) : w.heap.size ≤ gb349)); have n3_ := Aside0.mk ((by rw [hg]; exact (below_size (by repeat (first | (with_reducible first | exact HB.out | apply below_alloc | apply pw_below_drewN | apply below_drew1) | exact HB.out))) : w.heap.size ≤ gb349)); clear HB; have HB := n0_; have BK349 := n1_; have GW349 := n2_; have GE349 := n3_; clear n0_ n1_ n2_ n3_; clear hb hbox hg))
 (try simp only [Act.put, List.setIfInBounds_toArray, List.set_cons_zero, List.set_cons_succ])
 go_cut [50] (fun v50 wc => ∃ (kq : Nat) (x50_5 : Bool), v50 = .bool x50_5 ∧ Aside0 (plenumlaw44_StatsRepeats.j0 kq l0 a1 a3 a4 x50_5 a2_0 a2_1 = some r) ∧ Aside0 (kq ≤ k) ∧ Aside0 (wc.heap[gb349]? = some (.cells #[.int .i64 a2_0, .int .i64 a2_1] 45 (0, 0))) ∧ Aside0 (Below w.heap.size w wc))
 case first =>
  have H := HC6.out
  clear HC6
  by_cases c8 : (l0.length : Int) > 60
  ·
   rw [if_pos c8] at H
   have c8b0 : decide (60 < (l0.length : Int)) = true := decide_eq_true c8
   have c8b1 : decide (60 < l0.length) = true := decide_eq_true (by omega)
   clear c8
   (first | rw [c8b0] | (simp only [i64_w, i32_w]; rw [c8b0]) | skip)
   have H' := Aside0.mk H
   clear H
   go_wp2
   go_meet
   case rel => exact ⟨_, (true), (by first | rfl | (simp; done) | (simp [*]; done)), H', ⟨by first | omega | exact Nat.le_refl _⟩, ⟨by (with_reducible repeat (first | refine blk_drewN ?_ _ | refine blk_drew ?_ | refine blk_alloc ?_ _)); exact BK349.out⟩, ⟨by repeat (first | (with_reducible first | exact HB.out | apply below_alloc | apply pw_below_drewN | apply below_drew1 | refine below_set ?_ GE349.out) | exact HB.out)⟩⟩
  ·
   rw [if_neg c8] at H
   have c8b0 : decide (60 < (l0.length : Int)) = false := decide_eq_false c8
   have c8b1 : decide (60 < l0.length) = false := decide_eq_false (by omega)
   clear c8
   (first | rw [c8b0] | (simp only [i64_w, i32_w]; rw [c8b0]) | skip)
   replace H := Option.bind_eq_some_iff.mp H
   obtain ⟨t350, A90, H⟩ := H
   replace H : (if t350 = true then ((plenumlaw44_first.f k l0 a3 a4).bind fun t351 => (if t351 = 0 then (if a1 < 0 then (plenumlaw44_StatsRepeats.j0 k l0 a1 a3 a4 true a2_0 a2_1) else (plenumlaw44_StatsRepeats.j0 k l0 a1 a3 a4 (decide (a1 > 6311433599)) a2_0 a2_1)) else (plenumlaw44_StatsRepeats.j0 k l0 a1 a3 a4 true a2_0 a2_1))) else (plenumlaw44_StatsRepeats.j0 k l0 a1 a3 a4 true a2_0 a2_1)) = some r := H
   have A9 := Aside0.mk A90
   clear A90
   by_cases c10 : t350 = true
   ·
    subst c10
    have H1 : ((plenumlaw44_first.f k l0 a3 a4).bind fun t351 => (if t351 = 0 then (if a1 < 0 then (plenumlaw44_StatsRepeats.j0 k l0 a1 a3 a4 true a2_0 a2_1) else (plenumlaw44_StatsRepeats.j0 k l0 a1 a3 a4 (decide (a1 > 6311433599)) a2_0 a2_1)) else (plenumlaw44_StatsRepeats.j0 k l0 a1 a3 a4 true a2_0 a2_1))) = some r := by rw [if_pos rfl] at H; exact H
    clear H
    have H := H1
    clear H1
    replace H := Option.bind_eq_some_iff.mp H
    obtain ⟨t351, A110, H⟩ := H
    replace H : (if t351 = 0 then (if a1 < 0 then (plenumlaw44_StatsRepeats.j0 k l0 a1 a3 a4 true a2_0 a2_1) else (plenumlaw44_StatsRepeats.j0 k l0 a1 a3 a4 (decide (a1 > 6311433599)) a2_0 a2_1)) else (plenumlaw44_StatsRepeats.j0 k l0 a1 a3 a4 true a2_0 a2_1)) = some r := H
    have A11 := Aside0.mk A110
    clear A110
    by_cases c12 : t351 = 0
    ·
     rw [if_pos c12] at H
     have c12b0 : (t351 == 0) = true := beq_iff_eq.mpr c12
     have c12b1 : (t351 != 0) = false := bne_eq_false_iff_eq.mpr c12
     clear c12
     by_cases c13 : a1 < 0
     ·
      rw [if_pos c13] at H
      have c13b0 : decide (a1 < 0) = true := decide_eq_true c13
      clear c13
      have H' := Aside0.mk H
      clear H
      have hcz14_0 : w7.cell? ⟨gb349, 0, none⟩ = some (.int .i64 a2_0) := (blk_cell BK349.out 0).trans rfl
      have hcz14_1 : w7.cell? ⟨gb349, 1, none⟩ = some (.int .i64 a2_1) := (blk_cell BK349.out 1).trans rfl
      have hfz14_0 := blk_frozen BK349.out 0
      have hfz14_1 := blk_frozen BK349.out 1
      go_wp2_with (first | (go_at_call 26; (with_reducible refine (plenumref12_Valid.calls a2_0 a2_1 true _ A9.out).mono ?_); rintro e w15 ⟨rfl, hb⟩; have n0_ := Aside0.mk (blk_below (g := gb349) (o := .cells #[.int .i64 a2_0, .int .i64 a2_1] 45 (0, 0)) (by (with_reducible repeat (first | refine blk_drewN ?_ _ | refine blk_drew ?_ | refine blk_alloc ?_ _)); exact BK349.out) hb); have n1_ := Aside0.mk (below_step (by repeat (first | (with_reducible first | exact HB.out | apply below_alloc | apply pw_below_drewN | apply below_drew1 | refine below_set ?_ GE349.out) | exact HB.out)) hb); clear BK349; clear HB; have BK349 := n0_; have HB := n1_; clear n0_ n1_; (try clear hb); (try clear hb2); (try clear hk); (try clear hi)) | (go_at_call 14; (with_reducible refine (plenumlaw44_first.calls k _ _ l0 a3 a4 t351 _ ?side1 ?side2 A11.out).mono ?_); (case side1 => repeat (first | exact (Kd.C_below HR0.out HB.out) | (with_reducible refine Kd.C_alloc ?_ _) | (with_reducible refine Kd.C_drewN ?_ _) | (with_reducible refine Kd.C_drew ?_))); (case side2 => exact HC0.out); rintro e w16 ⟨rfl, hb⟩; have n0_ := Aside0.mk (blk_below (g := gb349) (o := .cells #[.int .i64 a2_0, .int .i64 a2_1] 45 (0, 0)) (by (with_reducible repeat (first | refine blk_drewN ?_ _ | refine blk_drew ?_ | refine blk_alloc ?_ _)); exact BK349.out) hb); have n1_ := Aside0.mk (below_step (by repeat (first | (with_reducible first | exact HB.out | apply below_alloc | apply pw_below_drewN | apply below_drew1 | refine below_set ?_ GE349.out) | exact HB.out)) hb); clear BK349; clear HB; have BK349 := n0_; have HB := n1_; clear n0_ n1_; (try clear hb); (try clear hb2); (try clear hk); (try clear hi)))
      go_meet
      case rel => exact ⟨_, (true), (by first | rfl | (simp; done) | (simp [*]; done)), H', ⟨by first | omega | exact Nat.le_refl _⟩, ⟨by (with_reducible repeat (first | refine blk_drewN ?_ _ | refine blk_drew ?_ | refine blk_alloc ?_ _)); exact BK349.out⟩, ⟨by repeat (first | (with_reducible first | exact HB.out | apply below_alloc | apply pw_below_drewN | apply below_drew1 | refine below_set ?_ GE349.out) | exact HB.out)⟩⟩
     ·
      rw [if_neg c13] at H
      have c13b0 : decide (a1 < 0) = false := decide_eq_false c13
      clear c13
      have H' := Aside0.mk H
      clear H
      have hcz17_0 : w7.cell? ⟨gb349, 0, none⟩ = some (.int .i64 a2_0) := (blk_cell BK349.out 0).trans rfl
      have hcz17_1 : w7.cell? ⟨gb349, 1, none⟩ = some (.int .i64 a2_1) := (blk_cell BK349.out 1).trans rfl
      have hfz17_0 := blk_frozen BK349.out 0
      have hfz17_1 := blk_frozen BK349.out 1
      go_wp2_with (first | (go_at_call 26; (with_reducible refine (plenumref12_Valid.calls a2_0 a2_1 true _ A9.out).mono ?_); rintro e w18 ⟨rfl, hb⟩; have n0_ := Aside0.mk (blk_below (g := gb349) (o := .cells #[.int .i64 a2_0, .int .i64 a2_1] 45 (0, 0)) (by (with_reducible repeat (first | refine blk_drewN ?_ _ | refine blk_drew ?_ | refine blk_alloc ?_ _)); exact BK349.out) hb); have n1_ := Aside0.mk (below_step (by repeat (first | (with_reducible first | exact HB.out | apply below_alloc | apply pw_below_drewN | apply below_drew1 | refine below_set ?_ GE349.out) | exact HB.out)) hb); clear BK349; clear HB; have BK349 := n0_; have HB := n1_; clear n0_ n1_; (try clear hb); (try clear hb2); (try clear hk); (try clear hi)) | (go_at_call 14; (with_reducible refine (plenumlaw44_first.calls k _ _ l0 a3 a4 t351 _ ?side1 ?side2 A11.out).mono ?_); (case side1 => repeat (first | exact (Kd.C_below HR0.out HB.out) | (with_reducible refine Kd.C_alloc ?_ _) | (with_reducible refine Kd.C_drewN ?_ _) | (with_reducible refine Kd.C_drew ?_))); (case side2 => exact HC0.out); rintro e w19 ⟨rfl, hb⟩; have n0_ := Aside0.mk (blk_below (g := gb349) (o := .cells #[.int .i64 a2_0, .int .i64 a2_1] 45 (0, 0)) (by (with_reducible repeat (first | refine blk_drewN ?_ _ | refine blk_drew ?_ | refine blk_alloc ?_ _)); exact BK349.out) hb); have n1_ := Aside0.mk (below_step (by repeat (first | (with_reducible first | exact HB.out | apply below_alloc | apply pw_below_drewN | apply below_drew1 | refine below_set ?_ GE349.out) | exact HB.out)) hb); clear BK349; clear HB; have BK349 := n0_; have HB := n1_; clear n0_ n1_; (try clear hb); (try clear hb2); (try clear hk); (try clear hi)))
      go_meet
      case rel => exact ⟨_, (decide (a1 > 6311433599)), (by first | rfl | (simp; done) | (simp [*]; done)), H', ⟨by first | omega | exact Nat.le_refl _⟩, ⟨by (with_reducible repeat (first | refine blk_drewN ?_ _ | refine blk_drew ?_ | refine blk_alloc ?_ _)); exact BK349.out⟩, ⟨by repeat (first | (with_reducible first | exact HB.out | apply below_alloc | apply pw_below_drewN | apply below_drew1 | refine below_set ?_ GE349.out) | exact HB.out)⟩⟩
    ·
     rw [if_neg c12] at H
     have c12b0 : (t351 == 0) = false := beq_eq_false_iff_ne.mpr c12
     have c12b1 : (t351 != 0) = true := bne_iff_ne.mpr c12
     have H' := Aside0.mk H
     clear H
     have hcz20_0 : w7.cell? ⟨gb349, 0, none⟩ = some (.int .i64 a2_0) := (blk_cell BK349.out 0).trans rfl
     have hcz20_1 : w7.cell? ⟨gb349, 1, none⟩ = some (.int .i64 a2_1) := (blk_cell BK349.out 1).trans rfl
     have hfz20_0 := blk_frozen BK349.out 0
     have hfz20_1 := blk_frozen BK349.out 1
     go_wp2_with (first | (go_at_call 26; (with_reducible refine (plenumref12_Valid.calls a2_0 a2_1 true _ A9.out).mono ?_); rintro e w21 ⟨rfl, hb⟩; have n0_ := Aside0.mk (blk_below (g := gb349) (o := .cells #[.int .i64 a2_0, .int .i64 a2_1] 45 (0, 0)) (by (with_reducible repeat (first | refine blk_drewN ?_ _ | refine blk_drew ?_ | refine blk_alloc ?_ _)); exact BK349.out) hb); have n1_ := Aside0.mk (below_step (by repeat (first | (with_reducible first | exact HB.out | apply below_alloc | apply pw_below_drewN | apply below_drew1 | refine below_set ?_ GE349.out) | exact HB.out)) hb); clear BK349; clear HB; have BK349 := n0_; have HB := n1_; clear n0_ n1_; (try clear hb); (try clear hb2); (try clear hk); (try clear hi)) | (go_at_call 14; (with_reducible refine (plenumlaw44_first.calls k _ _ l0 a3 a4 t351 _ ?side1 ?side2 A11.out).mono ?_); (case side1 => repeat (first | exact (Kd.C_below HR0.out HB.out) | (with_reducible refine Kd.C_alloc ?_ _) | (with_reducible refine Kd.C_drewN ?_ _) | (with_reducible refine Kd.C_drew ?_))); (case side2 => exact HC0.out); rintro e w22 ⟨rfl, hb⟩; have n0_ := Aside0.mk (blk_below (g := gb349) (o := .cells #[.int .i64 a2_0, .int .i64 a2_1] 45 (0, 0)) (by (with_reducible repeat (first | refine blk_drewN ?_ _ | refine blk_drew ?_ | refine blk_alloc ?_ _)); exact BK349.out) hb); have n1_ := Aside0.mk (below_step (by repeat (first | (with_reducible first | exact HB.out | apply below_alloc | apply pw_below_drewN | apply below_drew1 | refine below_set ?_ GE349.out) | exact HB.out)) hb); clear BK349; clear HB; have BK349 := n0_; have HB := n1_; clear n0_ n1_; (try clear hb); (try clear hb2); (try clear hk); (try clear hi)))
     go_meet
     case rel => exact ⟨_, (true), (by first | rfl | (simp; done) | (simp [*]; done)), H', ⟨by first | omega | exact Nat.le_refl _⟩, ⟨by (with_reducible repeat (first | refine blk_drewN ?_ _ | refine blk_drew ?_ | refine blk_alloc ?_ _)); exact BK349.out⟩, ⟨by repeat (first | (with_reducible first | exact HB.out | apply below_alloc | apply pw_below_drewN | apply below_drew1 | refine below_set ?_ GE349.out) | exact HB.out)⟩⟩
   ·
    replace c10 := Bool.eq_false_iff.mpr c10
    subst c10
    have H1 : (plenumlaw44_StatsRepeats.j0 k l0 a1 a3 a4 true a2_0 a2_1) = some r := by rw [if_neg (show ¬ (false = true) by decide)] at H; exact H
    clear H
    have H := H1
    clear H1
    have H' := Aside0.mk H
    clear H
    have hcz23_0 : w7.cell? ⟨gb349, 0, none⟩ = some (.int .i64 a2_0) := (blk_cell BK349.out 0).trans rfl
    have hcz23_1 : w7.cell? ⟨gb349, 1, none⟩ = some (.int .i64 a2_1) := (blk_cell BK349.out 1).trans rfl
    have hfz23_0 := blk_frozen BK349.out 0
    have hfz23_1 := blk_frozen BK349.out 1
    go_wp2_with (first | (go_at_call 26; (with_reducible refine (plenumref12_Valid.calls a2_0 a2_1 false _ A9.out).mono ?_); rintro e w24 ⟨rfl, hb⟩; have n0_ := Aside0.mk (blk_below (g := gb349) (o := .cells #[.int .i64 a2_0, .int .i64 a2_1] 45 (0, 0)) (by (with_reducible repeat (first | refine blk_drewN ?_ _ | refine blk_drew ?_ | refine blk_alloc ?_ _)); exact BK349.out) hb); have n1_ := Aside0.mk (below_step (by repeat (first | (with_reducible first | exact HB.out | apply below_alloc | apply pw_below_drewN | apply below_drew1 | refine below_set ?_ GE349.out) | exact HB.out)) hb); clear BK349; clear HB; have BK349 := n0_; have HB := n1_; clear n0_ n1_; (try clear hb); (try clear hb2); (try clear hk); (try clear hi)))
    go_meet
    case rel => exact ⟨_, (true), (by first | rfl | (simp; done) | (simp [*]; done)), H', ⟨by first | omega | exact Nat.le_refl _⟩, ⟨by (with_reducible repeat (first | refine blk_drewN ?_ _ | refine blk_drew ?_ | refine blk_alloc ?_ _)); exact BK349.out⟩, ⟨by repeat (first | (with_reducible first | exact HB.out | apply below_alloc | apply pw_below_drewN | apply below_drew1 | refine below_set ?_ GE349.out) | exact HB.out)⟩⟩
 case rest =>
  clear HC6
  try clear c1
  try clear p2
  try clear c8
  try clear c8b0
  try clear c8b1
  try clear c10
  try clear c12
  try clear c12b0
  try clear c12b1
  try clear c13
  try clear c13b0
  try clear hcz14_0
  try clear hcz14_1
  try clear hcz17_0
  try clear hcz17_1
  try clear hcz20_0
  try clear hcz20_1
  try clear hcz23_0
  try clear hcz23_1
  try clear hfz14_0
  try clear hfz14_1
  try clear hfz17_0
  try clear hfz17_1
  try clear hfz20_0
  try clear hfz20_1
  try clear hfz23_0
  try clear hfz23_1
  obtain ⟨kq, x50_5, rfl, HA, HJ5, BK349, HB⟩ := hcut
  cases kq with
  | zero => exact absurd HA.out (by simp [plenumlaw44_StatsRepeats.j0])
  | succ kj5 =>
   have H := HA.out
   clear HA
   simp only [plenumlaw44_StatsRepeats.j0] at H
   by_cases c25 : x50_5 = true
   ·
    subst c25
    have H1 : ((plenumlaw44_awake.f).bind fun t352 => (some t352)) = some r := by rw [if_pos rfl] at H; exact H
    clear H
    have H := H1
    clear H1
    replace H := Option.bind_eq_some_iff.mp H
    obtain ⟨t352, A260, H⟩ := H
    replace H : (some t352) = some r := H
    have A26 := Aside0.mk A260
    clear A260
    obtain rfl := Option.some.inj H
    go_wp2_with (first | ((with_reducible refine gate_callee (f := 11) rfl ?_); refine goesL_ (some 51) rfl rfl Try.func11 (by kernel_rfl) rfl #[] rfl (by (try simp only [List.map_toArray, List.map_cons, List.map_nil]); first | done | rfl | (simp only [List.length_drop, List.length_take]; rfl)) ?_; (with_reducible refine (plenumlaw44_awake.calls  t352 _ A26.out).mono ?_); rintro e w27 ⟨rfl, hb⟩; refine ⟨_, rfl, ?_⟩; have n0_ := Aside0.mk (blk_below (g := gb349) (o := .cells #[.int .i64 a2_0, .int .i64 a2_1] 45 (0, 0)) (by (with_reducible repeat (first | refine blk_drewN ?_ _ | refine blk_drew ?_ | refine blk_alloc ?_ _)); exact BK349.out) hb); have n1_ := Aside0.mk (below_step (by repeat (first | (with_reducible first | exact HB.out | apply below_alloc | apply pw_below_drewN | apply below_drew1 | refine below_set ?_ GE349.out) | exact HB.out)) hb); clear BK349; clear HB; have BK349 := n0_; have HB := n1_; clear n0_ n1_; (try clear hb); (try clear hb2); (try clear hk); (try clear hi)))
    go_ret
    exact ⟨by first | rfl | (simp [errW_none, errW_some] <;> rfl) | (simp [*, errW_none, errW_some] <;> rfl), by repeat (first | (with_reducible first | exact HB.out | apply below_alloc | apply pw_below_drewN | apply below_drew1 | refine below_set ?_ GE349.out) | exact HB.out)⟩
   ·
    replace c25 := Bool.eq_false_iff.mpr c25
    subst c25
    have H1 : ((stats_At.f kj5 l0 a1).bind fun bt353 => (plenumlaw44_StatsRepeats.l0 kj5 l0 a1 a3 a4 bt353.2.2 (([] : List (S57))) false 0 a2_0 a2_1 bt353.1 bt353.2.1)) = some r := by rw [if_neg (show ¬ (false = true) by decide)] at H; exact H
    clear H
    have H := H1
    clear H1
    replace H := Option.bind_eq_some_iff.mp H
    obtain ⟨⟨t353, t354, t355⟩, A280, H⟩ := H
    replace H : (plenumlaw44_StatsRepeats.l0 kj5 l0 a1 a3 a4 t355 (([] : List (S57))) false 0 a2_0 a2_1 t353 t354) = some r := H
    have A28 := Aside0.mk A280
    clear A280
    obtain ⟨y357, hy357⟩ : ∃ y_ : List (S57), y_ = (([] : List (S57))) := ⟨_, rfl⟩
    replace H : (plenumlaw44_StatsRepeats.l0 kj5 l0 a1 a3 a4 t355 y357 false 0 a2_0 a2_1 t353 t354) = some r := by first | (rw [hy357]; with_reducible exact H) | (have H2_ := (Option.bind_some _ _).symm.trans H; rw [hy357]; with_reducible exact H2_) | (have H2_ := (Option.bind_some _ _).symm.trans H; with_reducible exact H2_) | with_reducible exact H | (rw [hy357]; exact H) | exact H
    have Ny357 := Aside0.mk hy357
    clear hy357
    have H' := Aside0.mk H
    clear H
    go_wp2_with (first | ((with_reducible refine gate_callee (f := 30) rfl ?_); refine goesL_ (some 55) rfl rfl Try.func30 (by kernel_rfl) rfl #[.slice A0 l0.length c0, .int .i64 a1] rfl (by (try simp only [List.map_toArray, List.map_cons, List.map_nil]); first | done | rfl | (simp only [List.length_drop, List.length_take]; rfl)) ?_; (with_reducible refine (stats_At.calls kj5 _ _ l0 a1 t353 t354 t355 _ ?side1 ?side2 A28.out).mono ?_); (case side1 => repeat (first | exact (Kd.C_below HR0.out HB.out) | (with_reducible refine Kd.C_alloc ?_ _) | (with_reducible refine Kd.C_drewN ?_ _) | (with_reducible refine Kd.C_drew ?_))); (case side2 => exact HC0.out); rintro e w29 ⟨rfl, hb⟩; refine ⟨_, rfl, ?_⟩; have n0_ := Aside0.mk (blk_below (g := gb349) (o := .cells #[.int .i64 a2_0, .int .i64 a2_1] 45 (0, 0)) (by (with_reducible repeat (first | refine blk_drewN ?_ _ | refine blk_drew ?_ | refine blk_alloc ?_ _)); exact BK349.out) hb); have n1_ := Aside0.mk (below_step (by repeat (first | (with_reducible first | exact HB.out | apply below_alloc | apply pw_below_drewN | apply below_drew1 | refine below_set ?_ GE349.out) | exact HB.out)) hb); clear BK349; clear HB; have BK349 := n0_; have HB := n1_; clear n0_ n1_; (try clear hb); (try clear hb2); (try clear hk); (try clear hi)) | ((with_reducible refine gate_dst (N := 11) rfl ?_); (try (refine gate_guard (by rfl) ?_; dsimp only)); refine box_event ?hg (N := 11) ?hd (cs := #[.int .i64 0, .int .i64 0]) (t := 45) ?hr ?_; (case hd => rfl); (case hg => rfl); (case hr => first | (go_simp; done) | (go_simp; rfl)); intro gb356 hg w30 hbox hb; have n0_ := Aside0.mk (blk_below (g := gb349) (o := .cells #[.int .i64 a2_0, .int .i64 a2_1] 45 (0, 0)) (by (with_reducible repeat (first | refine blk_drewN ?_ _ | refine blk_drew ?_ | refine blk_alloc ?_ _)); exact BK349.out) hb); have n1_ := Aside0.mk (below_step (by repeat (first | (with_reducible first | exact HB.out | apply below_alloc | apply pw_below_drewN | apply below_drew1 | refine below_set ?_ GE349.out) | exact HB.out)) hb); have n2_ := Aside0.mk (hbox); have n3_ := Aside0.mk ((by rw [hg]; exact (below_size (by repeat (first | (with_reducible first | exact HB.out | apply below_alloc | apply pw_below_drewN | apply below_drew1 | refine below_set ?_ GE349.out) | exact HB.out))) : w.heap.size ≤ gb356)); have n4_ := Aside0.mk ((by rw [hg]; exact (below_size (by repeat (first | (with_reducible first | exact HB.out | apply below_alloc | apply pw_below_drewN | apply below_drew1 | refine below_set ?_ GE349.out) | exact HB.out))) : w.heap.size ≤ gb356)); have n5_ := Aside0.mk ((by rw [hg]; exact Nat.ne_of_lt (blk_lt (g := gb349) (o := .cells #[.int .i64 a2_0, .int .i64 a2_1] 45 (0, 0)) (by (with_reducible repeat (first | refine blk_drewN ?_ _ | refine blk_drew ?_ | refine blk_alloc ?_ _)); exact BK349.out)) : gb349 ≠ gb356)); have n6_ := Aside0.mk ((by rw [hg]; exact Nat.ne_of_gt (blk_lt (g := gb349) (o := .cells #[.int .i64 a2_0, .int .i64 a2_1] 45 (0, 0)) (by (with_reducible repeat (first | refine blk_drewN ?_ _ | refine blk_drew ?_ | refine blk_alloc ?_ _)); exact BK349.out)) : gb356 ≠ gb349)); clear BK349; clear HB; have BK349 := n0_; have HB := n1_; have BK356 := n2_; have GW356 := n3_; have GE356 := n4_; have NB349_356 := n5_; have NB356_349 := n6_; clear n0_ n1_ n2_ n3_ n4_ n5_ n6_; clear hb hbox hg; have hnb31 := NB356_349.out; have hnc31 := NB349_356.out; have hcz32_0 : w30.cell? ⟨gb356, 0, none⟩ = some (.int .i64 0) := (blk_cell BK356.out 0).trans rfl; have hcz32_1 : w30.cell? ⟨gb356, 1, none⟩ = some (.int .i64 0) := (blk_cell BK356.out 1).trans rfl; have hfz32_0 := blk_frozen BK356.out 0; have hfz32_1 := blk_frozen BK356.out 1) | ((with_reducible refine gate_dst (N := 58) rfl ?_); (try (refine gate_guard (by rfl) ?_; dsimp only)); refine Kd.R_lit k57 _ 57 ?hg (N := 58) ?hd (xs := ([] : List (S57))) (inner := []) (ok := fun _ => True) (okp := fun _ => True) ?hr ?hp (fun _ hk => hk) trivial (Below.refl _ _) (Nat.le_refl _) (by simp) ?_; (case hd => rfl); (case hg => rfl); (case hr => first | (go_simp; done) | (go_simp; rfl)); (case hp => exact (Reps.none _ _)); intro v358 w33 ho34 hb hg_ hnew_; clear hg_ hnew_; (first | rw [← Ny357.out] at ho34 | (simp only [Int.reduceToNat] at ho34; rw [← Ny357.out] at ho34)); have n0_ := Aside0.mk (Kd.R_lower ho34 (below_size (by repeat (first | (with_reducible first | exact HB.out | apply below_alloc | apply pw_below_drewN | apply below_drew1 | refine below_set ?_ GE349.out | refine below_set ?_ GE356.out) | exact HB.out)))); have n1_ := Aside0.mk (blk_below (g := gb349) (o := .cells #[.int .i64 a2_0, .int .i64 a2_1] 45 (0, 0)) (by (with_reducible repeat (first | refine blk_drewN ?_ _ | refine blk_drew ?_ | refine blk_alloc ?_ _)); refine blk_far ?_ NB349_356.out _; (with_reducible repeat (first | refine blk_drewN ?_ _ | refine blk_drew ?_ | refine blk_alloc ?_ _)); refine blk_far ?_ NB349_356.out _; (with_reducible repeat (first | refine blk_drewN ?_ _ | refine blk_drew ?_ | refine blk_alloc ?_ _)); exact BK349.out) hb); have n2_ := Aside0.mk (blk_below (g := gb356) (o := .cells #[.int .i64 t353, .int .i64 t354] 45 (0, 0)) (by (with_reducible repeat (first | refine blk_drewN ?_ _ | refine blk_drew ?_ | refine blk_alloc ?_ _)); refine blk_put (cs := #[.int .i64 t353, .int .i64 0]) ?_ 1 _ rfl; (with_reducible repeat (first | refine blk_drewN ?_ _ | refine blk_drew ?_ | refine blk_alloc ?_ _)); refine blk_put (cs := #[.int .i64 0, .int .i64 0]) ?_ 0 _ rfl; (with_reducible repeat (first | refine blk_drewN ?_ _ | refine blk_drew ?_ | refine blk_alloc ?_ _)); exact BK356.out) hb); have n3_ := Aside0.mk (below_step (by repeat (first | (with_reducible first | exact HB.out | apply below_alloc | apply pw_below_drewN | apply below_drew1 | refine below_set ?_ GE349.out | refine below_set ?_ GE356.out) | exact HB.out)) hb); clear BK349; clear BK356; clear HB; have HO359 := n0_; have BK349 := n1_; have BK356 := n2_; have HB := n3_; clear n0_ n1_ n2_ n3_; clear hb ho34))
    go_loopg [13, 14, 15] kj5 (fun kq v13 v14 v15 w' => ∃ (x13_2 : List (S57)) (x14_2 : Bool) (x15_2 : Int), v14 = .bool x14_2 ∧ v15 = .int .i64 x15_2 ∧ Aside0 (plenumlaw44_StatsRepeats.l0 kq l0 a1 a3 a4 t355 x13_2 x14_2 x15_2 a2_0 a2_1 t353 t354 = some r) ∧ Aside0 (kq ≤ kj5) ∧ Aside0 (Kd.R k57 57 w' w.heap.size (fun _ => True) v13 x13_2) ∧ Aside0 (w'.heap[gb349]? = some (.cells #[.int .i64 a2_0, .int .i64 a2_1] 45 (0, 0))) ∧ Aside0 (w'.heap[gb356]? = some (.cells #[.int .i64 t353, .int .i64 t354] 45 (0, 0))) ∧ Aside0 (Below w.heap.size w w'))
    case atStart => exact ⟨(y357), (false), (0), (by first | rfl | (simp; done) | (simp [*]; done)), (by first | rfl | (simp; done) | (simp [*]; done)), H', ⟨Nat.le_refl _⟩, ⟨by (with_reducible repeat (first | apply Kd.R_alloc | apply Kd.R_drewN | apply Kd.R_drew)); exact HO359.out⟩, ⟨by (with_reducible repeat (first | refine blk_drewN ?_ _ | refine blk_drew ?_ | refine blk_alloc ?_ _)); exact BK349.out⟩, ⟨by (with_reducible repeat (first | refine blk_drewN ?_ _ | refine blk_drew ?_ | refine blk_alloc ?_ _)); exact BK356.out⟩, ⟨by repeat (first | (with_reducible first | exact HB.out | apply below_alloc | apply pw_below_drewN | apply below_drew1 | refine below_set ?_ GE349.out | refine below_set ?_ GE356.out) | exact HB.out)⟩⟩
    case round =>
     clear H'
     try clear c1
     try clear c2
     try clear p2
     try clear c3
     try clear c8
     try clear c8b0
     try clear c8b1
     try clear c10
     try clear c11
     try clear c12
     try clear c12b0
     try clear c12b1
     try clear c13
     try clear c13b0
     try clear c25
     try clear c30
     try clear c31
     try clear hcz14_0
     try clear hcz14_1
     try clear hcz17_0
     try clear hcz17_1
     try clear hcz20_0
     try clear hcz20_1
     try clear hcz23_0
     try clear hcz23_1
     try clear hcz32_0
     try clear hcz32_1
     try clear hfz14_0
     try clear hfz14_1
     try clear hfz17_0
     try clear hfz17_1
     try clear hfz20_0
     try clear hfz20_1
     try clear hfz23_0
     try clear hfz23_1
     try clear hfz32_0
     try clear hfz32_1
     try clear p2
     obtain ⟨x13_2, x14_2, x15_2, rfl, rfl, HA, HK2, HO_13, BK349, BK356, HB⟩ := hrel
     cases gk with
     | zero => exact absurd HA.out (by simp [plenumlaw44_StatsRepeats.l0])
     | succ k2 =>
      have H := HA.out
      clear HA
      simp only [plenumlaw44_StatsRepeats.l0] at H
      by_cases c35 : x15_2 < (l0.length : Int)
      ·
       rw [if_pos c35] at H
       have c35b0 : decide (x15_2 < (l0.length : Int)) = true := decide_eq_true c35
       clear c35
       have HC36 := Aside0.mk H
       clear H
       go_upto_region 9 with (fail)
       go_cut [79] (fun v79 wc => ∃ (kq : Nat) (x79_35 : Bool), v79 = .bool x79_35 ∧ Aside0 (plenumlaw44_StatsRepeats.j2 kq l0 a1 a3 a4 t355 x13_2 x14_2 x15_2 x79_35 a2_0 a2_1 t353 t354 = some r) ∧ Aside0 (kq ≤ k2) ∧ Aside0 (Kd.R k57 57 wc w.heap.size (fun _ => True) u13 x13_2) ∧ Aside0 (wc.heap[gb349]? = some (.cells #[.int .i64 a2_0, .int .i64 a2_1] 45 (0, 0))) ∧ Aside0 (wc.heap[gb356]? = some (.cells #[.int .i64 t353, .int .i64 t354] 45 (0, 0))) ∧ Aside0 (Below w.heap.size w wc))
       case first =>
        have H := HC36.out
        clear HC36
        by_cases c37 : 0 ≤ x15_2
        ·
         rw [if_pos c37] at H
         have c37b0 : decide (0 ≤ x15_2) = true := decide_eq_true c37
         clear c37
         (first | rw [c37b0] | (simp only [i64_w, i32_w]; rw [c37b0]) | skip)
         by_cases c38 : ((rd_T57 l0 x15_2).f0) = a1
         ·
          rw [if_pos c38] at H
          have c38b0 : (((rd_T57 l0 x15_2).f0) == a1) = true := beq_iff_eq.mpr c38
          have c38b1 : (((rd_T57 l0 x15_2).f0) != a1) = false := bne_eq_false_iff_eq.mpr c38
          clear c38
          have H' := Aside0.mk H
          clear H
          have p360 : 0 ≤ (x15_2 : Int) := of_decide_eq_true (by first | (with_reducible assumption) | assumption)
          have q360 : x15_2 < (l0.length : Int) := of_decide_eq_true (by first | (with_reducible assumption) | assumption)
          obtain ⟨ad360, e360, hx360_0, hx360_1, hx360_2⟩ := at_T57 HR0.out x15_2 p360 q360
          cases e360
          replace hx360_0 := (HB.out.cell (World.block_lt_of_cell? w _ hx360_0)).trans hx360_0
          replace hx360_1 := (HB.out.cell (World.block_lt_of_cell? w _ hx360_1)).trans hx360_1
          replace hx360_2 := (HB.out.cell (World.block_lt_of_cell? w _ hx360_2)).trans hx360_2
          replace p360 := eq_true p360
          replace q360 := eq_true q360
          go_wp2
          go_meet
          case rel => exact ⟨_, (true), (by first | rfl | (simp; done) | (simp [*]; done)), H', ⟨by have := HJ5.out; have := HK2.out; first | omega | exact Nat.le_refl _⟩, ⟨by (with_reducible repeat (first | apply Kd.R_alloc | apply Kd.R_drewN | apply Kd.R_drew)); exact HO_13.out⟩, ⟨by (with_reducible repeat (first | refine blk_drewN ?_ _ | refine blk_drew ?_ | refine blk_alloc ?_ _)); exact BK349.out⟩, ⟨by (with_reducible repeat (first | refine blk_drewN ?_ _ | refine blk_drew ?_ | refine blk_alloc ?_ _)); exact BK356.out⟩, ⟨by repeat (first | (with_reducible first | exact HB.out | apply below_alloc | apply pw_below_drewN | apply below_drew1 | refine below_set ?_ GE349.out | refine below_set ?_ GE356.out) | exact HB.out)⟩⟩
         ·
          rw [if_neg c38] at H
          have c38b0 : (((rd_T57 l0 x15_2).f0) == a1) = false := beq_eq_false_iff_ne.mpr c38
          have c38b1 : (((rd_T57 l0 x15_2).f0) != a1) = true := bne_iff_ne.mpr c38
          by_cases c39 : 0 < (l0.length : Int)
          ·
           rw [if_pos c39] at H
           have c39b0 : decide (0 < (l0.length : Int)) = true := decide_eq_true c39
           have c39b1 : decide (0 < l0.length) = true := decide_eq_true (by omega)
           clear c39
           have H' := Aside0.mk H
           clear H
           have p360 : 0 ≤ (x15_2 : Int) := of_decide_eq_true (by first | (with_reducible assumption) | assumption)
           have q360 : x15_2 < (l0.length : Int) := of_decide_eq_true (by first | (with_reducible assumption) | assumption)
           obtain ⟨ad360, e360, hx360_0, hx360_1, hx360_2⟩ := at_T57 HR0.out x15_2 p360 q360
           cases e360
           replace hx360_0 := (HB.out.cell (World.block_lt_of_cell? w _ hx360_0)).trans hx360_0
           replace hx360_1 := (HB.out.cell (World.block_lt_of_cell? w _ hx360_1)).trans hx360_1
           replace hx360_2 := (HB.out.cell (World.block_lt_of_cell? w _ hx360_2)).trans hx360_2
           replace p360 := eq_true p360
           replace q360 := eq_true q360
           have p361 : 0 ≤ (0 : Int) := (by omega)
           have q361 : 0 < (l0.length : Int) := of_decide_eq_true (by first | (with_reducible assumption) | assumption)
           obtain ⟨ad361, e361, hx361_0, hx361_1, hx361_2⟩ := at_T57 HR0.out 0 p361 q361
           obtain rfl : ad360 = ad361 := (by injection e361)
           have qi361 : (0 < l0.length) = True := eq_true (by omega)
           (try rw [show ((0 : Int)).toNat = 0 from rfl] at hx361_0)
           (try rw [show 0 * 3 = 0 from rfl] at hx361_0)
           (try rw [Addr.add_zero'] at hx361_0)
           (try rw [show ((0 : Int)).toNat = 0 from rfl] at hx361_1)
           (try rw [show 0 * 3 = 0 from rfl] at hx361_1)
           (try rw [Addr.add_zero'] at hx361_1)
           (try rw [show ((0 : Int)).toNat = 0 from rfl] at hx361_2)
           (try rw [show 0 * 3 = 0 from rfl] at hx361_2)
           (try rw [Addr.add_zero'] at hx361_2)
           replace hx361_0 := (HB.out.cell (World.block_lt_of_cell? w _ hx361_0)).trans hx361_0
           replace hx361_1 := (HB.out.cell (World.block_lt_of_cell? w _ hx361_1)).trans hx361_1
           replace hx361_2 := (HB.out.cell (World.block_lt_of_cell? w _ hx361_2)).trans hx361_2
           replace p361 := eq_true p361
           replace q361 := eq_true q361
           go_wp2
           go_meet
           case rel => exact ⟨_, (decide (((rd_T57 l0 0).f0) > a1)), (by first | rfl | (simp; done) | (simp [*]; done)), H', ⟨by have := HJ5.out; have := HK2.out; first | omega | exact Nat.le_refl _⟩, ⟨by (with_reducible repeat (first | apply Kd.R_alloc | apply Kd.R_drewN | apply Kd.R_drew)); exact HO_13.out⟩, ⟨by (with_reducible repeat (first | refine blk_drewN ?_ _ | refine blk_drew ?_ | refine blk_alloc ?_ _)); exact BK349.out⟩, ⟨by (with_reducible repeat (first | refine blk_drewN ?_ _ | refine blk_drew ?_ | refine blk_alloc ?_ _)); exact BK356.out⟩, ⟨by repeat (first | (with_reducible first | exact HB.out | apply below_alloc | apply pw_below_drewN | apply below_drew1 | refine below_set ?_ GE349.out | refine below_set ?_ GE356.out) | exact HB.out)⟩⟩
          ·
           rw [if_neg c39] at H
           exact absurd H (by simp)
        ·
         rw [if_neg c37] at H
         exact absurd H (by simp)
       case rest =>
        clear HC36
        try clear c1
        try clear c2
        try clear p2
        try clear c3
        try clear p3
        try clear q3
        try clear hx3
        try clear qi3
        try clear c8
        try clear c8b0
        try clear c8b1
        try clear c10
        try clear c11
        try clear c12
        try clear c12b0
        try clear c12b1
        try clear c13
        try clear c13b0
        try clear c25
        try clear c30
        try clear c31
        try clear c35
        try clear c35b0
        try clear p36
        try clear q36
        try clear hx36
        try clear qi36
        try clear c37
        try clear c37b0
        try clear c38
        try clear c38b0
        try clear c38b1
        try clear c39
        try clear c39b0
        try clear c39b1
        try clear hcz14_0
        try clear hcz14_1
        try clear hcz17_0
        try clear hcz17_1
        try clear hcz20_0
        try clear hcz20_1
        try clear hcz23_0
        try clear hcz23_1
        try clear hcz32_0
        try clear hcz32_1
        try clear hfz14_0
        try clear hfz14_1
        try clear hfz17_0
        try clear hfz17_1
        try clear hfz20_0
        try clear hfz20_1
        try clear hfz23_0
        try clear hfz23_1
        try clear hfz32_0
        try clear hfz32_1
        try clear hx360_0
        try clear hx360_1
        try clear hx360_2
        try clear hx361_0
        try clear hx361_1
        try clear hx361_2
        try clear p2
        try clear p360
        try clear p361
        try clear q360
        try clear q361
        obtain ⟨kq, x79_35, rfl, HA, HJ35, HO_13, BK349, BK356, HB⟩ := hcut
        cases kq with
        | zero => exact absurd HA.out (by simp [plenumlaw44_StatsRepeats.j2])
        | succ kj35 =>
         have H := HA.out
         clear HA
         simp only [plenumlaw44_StatsRepeats.j2] at H
         by_cases c40 : x79_35 = true
         ·
          subst c40
          have H1 : ((plenumlaw44_awake.f).bind fun t362 => (some t362)) = some r := by rw [if_pos rfl] at H; exact H
          clear H
          have H := H1
          clear H1
          replace H := Option.bind_eq_some_iff.mp H
          obtain ⟨t362, A410, H⟩ := H
          replace H : (some t362) = some r := H
          have A41 := Aside0.mk A410
          clear A410
          obtain rfl := Option.some.inj H
          go_wp2_with (first | ((with_reducible refine gate_callee (f := 11) rfl ?_); refine goesL_ (some 80) rfl rfl Try.func11 (by kernel_rfl) rfl #[] rfl (by (try simp only [List.map_toArray, List.map_cons, List.map_nil]); first | done | rfl | (simp only [List.length_drop, List.length_take]; rfl)) ?_; (with_reducible refine (plenumlaw44_awake.calls  t362 _ A41.out).mono ?_); rintro e w42 ⟨rfl, hb⟩; refine ⟨_, rfl, ?_⟩; have n0_ := Aside0.mk (Kd.R_below (by (with_reducible repeat (first | apply Kd.R_alloc | apply Kd.R_drewN | apply Kd.R_drew)); exact HO_13.out) hb); have n1_ := Aside0.mk (blk_below (g := gb349) (o := .cells #[.int .i64 a2_0, .int .i64 a2_1] 45 (0, 0)) (by (with_reducible repeat (first | refine blk_drewN ?_ _ | refine blk_drew ?_ | refine blk_alloc ?_ _)); exact BK349.out) hb); have n2_ := Aside0.mk (blk_below (g := gb356) (o := .cells #[.int .i64 t353, .int .i64 t354] 45 (0, 0)) (by (with_reducible repeat (first | refine blk_drewN ?_ _ | refine blk_drew ?_ | refine blk_alloc ?_ _)); exact BK356.out) hb); have n3_ := Aside0.mk (below_step (by repeat (first | (with_reducible first | exact HB.out | apply below_alloc | apply pw_below_drewN | apply below_drew1 | refine below_set ?_ GE349.out | refine below_set ?_ GE356.out) | exact HB.out)) hb); clear HO_13; clear BK349; clear BK356; clear HB; have HO_13 := n0_; have BK349 := n1_; have BK356 := n2_; have HB := n3_; clear n0_ n1_ n2_ n3_; (try clear hb); (try clear hb2); (try clear hk); (try clear hi)))
          go_ret
          exact ⟨by first | rfl | (simp [errW_none, errW_some] <;> rfl) | (simp [*, errW_none, errW_some] <;> rfl), by repeat (first | (with_reducible first | exact HB.out | apply below_alloc | apply pw_below_drewN | apply below_drew1 | refine below_set ?_ GE349.out | refine below_set ?_ GE356.out) | exact HB.out)⟩
         ·
          replace c40 := Bool.eq_false_iff.mpr c40
          subst c40
          have H1 : (if 0 ≤ x15_2 then (if x15_2 < (l0.length : Int) then (if ((rd_T57 l0 x15_2).f0) > a1 then (if x14_2 = true then (if x13_2.length < 5864062014805 then (plenumlaw44_StatsRepeats.l0 kj35 l0 a1 a3 a4 t355 (x13_2 ++ [(⟨(rd_T57 l0 x15_2).f0, (⟨(rd_T57 l0 x15_2).f1.f0, (rd_T57 l0 x15_2).f1.f1⟩ : S45)⟩ : S57)]) x14_2 (wrap64 (x15_2 + 1)) a2_0 a2_1 t353 t354) else (none)) else (if x13_2.length < 5864062014805 then ((some (x13_2 ++ [(⟨a1, (⟨t353, t354⟩ : S45)⟩ : S57)] : List (S57))).bind fun y368 => (if y368.length < 5864062014805 then (plenumlaw44_StatsRepeats.l0 kj35 l0 a1 a3 a4 t355 (y368 ++ [(⟨(rd_T57 l0 x15_2).f0, (⟨(rd_T57 l0 x15_2).f1.f0, (rd_T57 l0 x15_2).f1.f1⟩ : S45)⟩ : S57)]) true (wrap64 (x15_2 + 1)) a2_0 a2_1 t353 t354) else (none))) else (none))) else (if x13_2.length < 5864062014805 then (plenumlaw44_StatsRepeats.l0 kj35 l0 a1 a3 a4 t355 (x13_2 ++ [(⟨(rd_T57 l0 x15_2).f0, (⟨(rd_T57 l0 x15_2).f1.f0, (rd_T57 l0 x15_2).f1.f1⟩ : S45)⟩ : S57)]) x14_2 (wrap64 (x15_2 + 1)) a2_0 a2_1 t353 t354) else (none))) else (none)) else (none)) = some r := by rw [if_neg (show ¬ (false = true) by decide)] at H; exact H
          clear H
          have H := H1
          clear H1
          by_cases c43 : 0 ≤ x15_2
          ·
           rw [if_pos c43] at H
           have c43b0 : decide (0 ≤ x15_2) = true := decide_eq_true c43
           clear c43
           by_cases c44 : x15_2 < (l0.length : Int)
           ·
            rw [if_pos c44] at H
            have c44b0 : decide (x15_2 < (l0.length : Int)) = true := decide_eq_true c44
            clear c44
            by_cases c45 : ((rd_T57 l0 x15_2).f0) > a1
            ·
             rw [if_pos c45] at H
             have c45b0 : decide (a1 < ((rd_T57 l0 x15_2).f0)) = true := decide_eq_true c45
             clear c45
             by_cases c46 : x14_2 = true
             ·
              subst c46
              have H1 : (if x13_2.length < 5864062014805 then (plenumlaw44_StatsRepeats.l0 kj35 l0 a1 a3 a4 t355 (x13_2 ++ [(⟨(rd_T57 l0 x15_2).f0, (⟨(rd_T57 l0 x15_2).f1.f0, (rd_T57 l0 x15_2).f1.f1⟩ : S45)⟩ : S57)]) true (wrap64 (x15_2 + 1)) a2_0 a2_1 t353 t354) else (none)) = some r := by rw [if_pos rfl] at H; exact H
              clear H
              have H := H1
              clear H1
              by_cases c47 : x13_2.length < 5864062014805
              ·
               rw [if_pos c47] at H
               have LMc47 := Aside0.mk c47
               clear c47
               obtain ⟨y365, hy365⟩ : ∃ y_ : List (S57), y_ = (x13_2 ++ [(⟨(rd_T57 l0 x15_2).f0, (⟨(rd_T57 l0 x15_2).f1.f0, (rd_T57 l0 x15_2).f1.f1⟩ : S45)⟩ : S57)]) := ⟨_, rfl⟩
               replace H : (plenumlaw44_StatsRepeats.l0 kj35 l0 a1 a3 a4 t355 y365 true (wrap64 (x15_2 + 1)) a2_0 a2_1 t353 t354) = some r := by first | (rw [hy365]; with_reducible exact H) | (have H2_ := (Option.bind_some _ _).symm.trans H; rw [hy365]; with_reducible exact H2_) | (have H2_ := (Option.bind_some _ _).symm.trans H; with_reducible exact H2_) | with_reducible exact H | (rw [hy365]; exact H) | exact H
               have Ny365 := Aside0.mk hy365
               clear hy365
               have H' := Aside0.mk H
               clear H
               have p363 : 0 ≤ (x15_2 : Int) := of_decide_eq_true (by first | (with_reducible assumption) | assumption)
               have q363 : x15_2 < (l0.length : Int) := of_decide_eq_true (by first | (with_reducible assumption) | assumption)
               obtain ⟨ad363, e363, hx363_0, hx363_1, hx363_2⟩ := at_T57 HR0.out x15_2 p363 q363
               cases e363
               replace hx363_0 := (HB.out.cell (World.block_lt_of_cell? w _ hx363_0)).trans hx363_0
               replace hx363_1 := (HB.out.cell (World.block_lt_of_cell? w _ hx363_1)).trans hx363_1
               replace hx363_2 := (HB.out.cell (World.block_lt_of_cell? w _ hx363_2)).trans hx363_2
               replace p363 := eq_true p363
               replace q363 := eq_true q363
               have p364 : 0 ≤ (x15_2 : Int) := of_decide_eq_true (by first | (with_reducible assumption) | assumption)
               have q364 : x15_2 < (l0.length : Int) := of_decide_eq_true (by first | (with_reducible assumption) | assumption)
               obtain ⟨ad364, e364, hx364_0, hx364_1, hx364_2⟩ := at_T57 HR0.out x15_2 p364 q364
               obtain rfl : ad363 = ad364 := (by injection e364)
               replace hx364_0 := (HB.out.cell (World.block_lt_of_cell? w _ hx364_0)).trans hx364_0
               replace hx364_1 := (HB.out.cell (World.block_lt_of_cell? w _ hx364_1)).trans hx364_1
               replace hx364_2 := (HB.out.cell (World.block_lt_of_cell? w _ hx364_2)).trans hx364_2
               replace p364 := eq_true p364
               replace q364 := eq_true q364
               go_wp2_with (first | ((with_reducible refine gate_builtin (b := .append) (xs := #[.tmp 98, .tmp 103]) rfl ?_); (try (refine gate_guard (by rfl) ?_; dsimp only)); at_builtin; refine Kd.R_append k57 (w0 := w) w.heap.size rfl (.tmp 98) (.tmp 103) 22 57 (.agg #[(.int .i64 0), (.int .i64 0), (.int .i64 0)]) 24 rfl Try.underlying22 info57 rfl (by decide) (by omega) u13 x13_2 (⟨(rd_T57 l0 x15_2).f0, (⟨(rd_T57 l0 x15_2).f1.f0, (rd_T57 l0 x15_2).f1.f1⟩ : S45)⟩ : S57) [.int .i64 ((rd_T57 l0 x15_2).f0), .int .i64 ((rd_T57 l0 x15_2).f1.f0), .int .i64 ((rd_T57 l0 x15_2).f1.f1)] (fun _ => True) (fun _ => False) rfl rfl ?aP (fun _ hk => hk.elim) ?aF ?aO ?aB ?aS ?aL ?_; (case aP => exact k57_mkM _ _ _ (⟨(rd_T57 l0 x15_2).f0, (⟨(rd_T57 l0 x15_2).f1.f0, (rd_T57 l0 x15_2).f1.f1⟩ : S45)⟩ : S57)); (case aB => exact (by repeat (first | (with_reducible first | exact HB.out | apply below_alloc | apply pw_below_drewN | apply below_drew1 | refine below_set ?_ GE349.out | refine below_set ?_ GE356.out) | exact HB.out))); (case aF => exact (fun _ _ => trivial)); (case aO => exact (by (with_reducible repeat (first | apply Kd.R_alloc | apply Kd.R_drewN | apply Kd.R_drew)); exact HO_13.out)); (case aS => exact (below_size (by repeat (first | (with_reducible first | exact HB.out | apply below_alloc | apply pw_below_drewN | apply below_drew1 | refine below_set ?_ GE349.out | refine below_set ?_ GE356.out) | exact HB.out)))); (case aL => have := LMc47.out; omega); intro v366 w48 ho hb hg hat; rw [← Ny365.out] at ho; have n0_ := Aside0.mk (blk_grown (g := gb349) (o := .cells #[.int .i64 a2_0, .int .i64 a2_1] 45 (0, 0)) (by (with_reducible repeat (first | refine blk_drewN ?_ _ | refine blk_drew ?_ | refine blk_alloc ?_ _)); exact BK349.out) hg (Kd.R_ne HO_13.out BK349.out (by decide))); have n1_ := Aside0.mk (blk_grown (g := gb356) (o := .cells #[.int .i64 t353, .int .i64 t354] 45 (0, 0)) (by (with_reducible repeat (first | refine blk_drewN ?_ _ | refine blk_drew ?_ | refine blk_alloc ?_ _)); exact BK356.out) hg (Kd.R_ne HO_13.out BK356.out (by decide))); have n2_ := Aside0.mk (hb); have n3_ := Aside0.mk (ho); clear BK349; clear BK356; clear HB; clear HO_13; have BK349 := n0_; have BK356 := n1_; have HB := n2_; have HO367 := n3_; clear n0_ n1_ n2_ n3_; clear ho hb hg hat))
               go_roundg kj35
               case measure => have := HJ5.out; have := HK2.out; have := HJ35.out; omega
               case rel => exact ⟨(y365), (true), (wrap64 (x15_2 + 1)), (by first | rfl | (simp; done) | (simp [*]; done)), (by first | rfl | (simp; done) | (simp [*]; done)), H', ⟨by have := HJ5.out; have := HK2.out; have := HJ35.out; omega⟩, ⟨by (with_reducible repeat (first | apply Kd.R_alloc | apply Kd.R_drewN | apply Kd.R_drew)); exact HO367.out⟩, ⟨by (with_reducible repeat (first | refine blk_drewN ?_ _ | refine blk_drew ?_ | refine blk_alloc ?_ _)); exact BK349.out⟩, ⟨by (with_reducible repeat (first | refine blk_drewN ?_ _ | refine blk_drew ?_ | refine blk_alloc ?_ _)); exact BK356.out⟩, ⟨by repeat (first | (with_reducible first | exact HB.out | apply below_alloc | apply pw_below_drewN | apply below_drew1 | refine below_set ?_ GE349.out | refine below_set ?_ GE356.out) | exact HB.out)⟩⟩
              ·
               rw [if_neg c47] at H
               exact absurd H (by simp)
             ·
              replace c46 := Bool.eq_false_iff.mpr c46
              subst c46
              have H1 : (if x13_2.length < 5864062014805 then ((some (x13_2 ++ [(⟨a1, (⟨t353, t354⟩ : S45)⟩ : S57)] : List (S57))).bind fun y368 => (if y368.length < 5864062014805 then (plenumlaw44_StatsRepeats.l0 kj35 l0 a1 a3 a4 t355 (y368 ++ [(⟨(rd_T57 l0 x15_2).f0, (⟨(rd_T57 l0 x15_2).f1.f0, (rd_T57 l0 x15_2).f1.f1⟩ : S45)⟩ : S57)]) true (wrap64 (x15_2 + 1)) a2_0 a2_1 t353 t354) else (none))) else (none)) = some r := by rw [if_neg (show ¬ (false = true) by decide)] at H; exact H
              clear H
              have H := H1
              clear H1
              by_cases c49 : x13_2.length < 5864062014805
              ·
               rw [if_pos c49] at H
               have LMc49 := Aside0.mk c49
               clear c49
               obtain ⟨y368, hy368⟩ : ∃ y_ : List (S57), y_ = (x13_2 ++ [(⟨a1, (⟨t353, t354⟩ : S45)⟩ : S57)]) := ⟨_, rfl⟩
               replace H : (if y368.length < 5864062014805 then (plenumlaw44_StatsRepeats.l0 kj35 l0 a1 a3 a4 t355 (y368 ++ [(⟨(rd_T57 l0 x15_2).f0, (⟨(rd_T57 l0 x15_2).f1.f0, (rd_T57 l0 x15_2).f1.f1⟩ : S45)⟩ : S57)]) true (wrap64 (x15_2 + 1)) a2_0 a2_1 t353 t354) else (none)) = some r := by first | (rw [hy368]; with_reducible exact H) | (have H2_ := (Option.bind_some _ _).symm.trans H; rw [hy368]; with_reducible exact H2_) | (have H2_ := (Option.bind_some _ _).symm.trans H; with_reducible exact H2_) | with_reducible exact H | (rw [hy368]; exact H) | exact H
               have Ny368 := Aside0.mk hy368
               clear hy368
               by_cases c50 : y368.length < 5864062014805
               ·
                rw [if_pos c50] at H
                have LMc50 := Aside0.mk c50
                clear c50
                obtain ⟨y372, hy372⟩ : ∃ y_ : List (S57), y_ = (y368 ++ [(⟨(rd_T57 l0 x15_2).f0, (⟨(rd_T57 l0 x15_2).f1.f0, (rd_T57 l0 x15_2).f1.f1⟩ : S45)⟩ : S57)]) := ⟨_, rfl⟩
                replace H : (plenumlaw44_StatsRepeats.l0 kj35 l0 a1 a3 a4 t355 y372 true (wrap64 (x15_2 + 1)) a2_0 a2_1 t353 t354) = some r := by first | (rw [hy372]; with_reducible exact H) | (have H2_ := (Option.bind_some _ _).symm.trans H; rw [hy372]; with_reducible exact H2_) | (have H2_ := (Option.bind_some _ _).symm.trans H; with_reducible exact H2_) | with_reducible exact H | (rw [hy372]; exact H) | exact H
                have Ny372 := Aside0.mk hy372
                clear hy372
                have H' := Aside0.mk H
                clear H
                have p363 : 0 ≤ (x15_2 : Int) := of_decide_eq_true (by first | (with_reducible assumption) | assumption)
                have q363 : x15_2 < (l0.length : Int) := of_decide_eq_true (by first | (with_reducible assumption) | assumption)
                obtain ⟨ad363, e363, hx363_0, hx363_1, hx363_2⟩ := at_T57 HR0.out x15_2 p363 q363
                cases e363
                replace hx363_0 := (HB.out.cell (World.block_lt_of_cell? w _ hx363_0)).trans hx363_0
                replace hx363_1 := (HB.out.cell (World.block_lt_of_cell? w _ hx363_1)).trans hx363_1
                replace hx363_2 := (HB.out.cell (World.block_lt_of_cell? w _ hx363_2)).trans hx363_2
                replace p363 := eq_true p363
                replace q363 := eq_true q363
                have hnb51 := NB356_349.out
                have hnc51 := NB349_356.out
                have hcz52_0 : wc.cell? ⟨gb356, 0, none⟩ = some (.int .i64 t353) := (blk_cell BK356.out 0).trans rfl
                have hcz52_1 : wc.cell? ⟨gb356, 1, none⟩ = some (.int .i64 t354) := (blk_cell BK356.out 1).trans rfl
                have hfz52_0 := blk_frozen BK356.out 0
                have hfz52_1 := blk_frozen BK356.out 1
                go_wp2_with (first | ((with_reducible refine gate_builtin (b := .append) (xs := #[.tmp 92, .tmp 96]) rfl ?_); (try (refine gate_guard (by rfl) ?_; dsimp only)); at_builtin; refine Kd.R_append k57 (w0 := w) w.heap.size rfl (.tmp 92) (.tmp 96) 22 57 (.agg #[(.int .i64 0), (.int .i64 0), (.int .i64 0)]) 24 rfl Try.underlying22 info57 rfl (by decide) (by omega) u13 x13_2 (⟨a1, (⟨t353, t354⟩ : S45)⟩ : S57) [.int .i64 a1, .int .i64 t353, .int .i64 t354] (fun _ => True) (fun _ => False) rfl rfl ?aP (fun _ hk => hk.elim) ?aF ?aO ?aB ?aS ?aL ?_; (case aP => exact k57_mkM _ _ _ (⟨a1, (⟨t353, t354⟩ : S45)⟩ : S57)); (case aB => exact (by repeat (first | (with_reducible first | exact HB.out | apply below_alloc | apply pw_below_drewN | apply below_drew1 | refine below_set ?_ GE349.out | refine below_set ?_ GE356.out) | exact HB.out))); (case aF => exact (fun _ _ => trivial)); (case aO => exact (by (with_reducible repeat (first | apply Kd.R_alloc | apply Kd.R_drewN | apply Kd.R_drew)); exact HO_13.out)); (case aS => exact (below_size (by repeat (first | (with_reducible first | exact HB.out | apply below_alloc | apply pw_below_drewN | apply below_drew1 | refine below_set ?_ GE349.out | refine below_set ?_ GE356.out) | exact HB.out)))); (case aL => have := LMc49.out; omega); intro v369 w53 ho hb hg hat; rw [← Ny368.out] at ho; have n0_ := Aside0.mk (blk_grown (g := gb349) (o := .cells #[.int .i64 a2_0, .int .i64 a2_1] 45 (0, 0)) (by (with_reducible repeat (first | refine blk_drewN ?_ _ | refine blk_drew ?_ | refine blk_alloc ?_ _)); exact BK349.out) hg (Kd.R_ne HO_13.out BK349.out (by decide))); have n1_ := Aside0.mk (blk_grown (g := gb356) (o := .cells #[.int .i64 t353, .int .i64 t354] 45 (0, 0)) (by (with_reducible repeat (first | refine blk_drewN ?_ _ | refine blk_drew ?_ | refine blk_alloc ?_ _)); exact BK356.out) hg (Kd.R_ne HO_13.out BK356.out (by decide))); have n2_ := Aside0.mk (hb); have n3_ := Aside0.mk (ho); clear BK349; clear BK356; clear HB; clear HO_13; have BK349 := n0_; have BK356 := n1_; have HB := n2_; have HO370 := n3_; clear n0_ n1_ n2_ n3_; clear ho hb hg hat; have p371 : 0 ≤ (x15_2 : Int) := of_decide_eq_true (by first | (with_reducible assumption) | assumption); have q371 : x15_2 < (l0.length : Int) := of_decide_eq_true (by first | (with_reducible assumption) | assumption); obtain ⟨ad371, e371, hx371_0, hx371_1, hx371_2⟩ := at_T57 HR0.out x15_2 p371 q371; obtain rfl : ad363 = ad371 := (by injection e371); replace hx371_0 := (HB.out.cell (World.block_lt_of_cell? w _ hx371_0)).trans hx371_0; replace hx371_1 := (HB.out.cell (World.block_lt_of_cell? w _ hx371_1)).trans hx371_1; replace hx371_2 := (HB.out.cell (World.block_lt_of_cell? w _ hx371_2)).trans hx371_2; replace p371 := eq_true p371; replace q371 := eq_true q371) | ((with_reducible refine gate_builtin (b := .append) (xs := #[.tmp 98, .tmp 103]) rfl ?_); (try (refine gate_guard (by rfl) ?_; dsimp only)); at_builtin; refine Kd.R_append k57 (w0 := w) w.heap.size rfl (.tmp 98) (.tmp 103) 22 57 (.agg #[(.int .i64 0), (.int .i64 0), (.int .i64 0)]) 24 rfl Try.underlying22 info57 rfl (by decide) (by omega) v369 y368 (⟨(rd_T57 l0 x15_2).f0, (⟨(rd_T57 l0 x15_2).f1.f0, (rd_T57 l0 x15_2).f1.f1⟩ : S45)⟩ : S57) [.int .i64 ((rd_T57 l0 x15_2).f0), .int .i64 ((rd_T57 l0 x15_2).f1.f0), .int .i64 ((rd_T57 l0 x15_2).f1.f1)] (fun _ => True) (fun _ => False) rfl rfl ?aP (fun _ hk => hk.elim) ?aF ?aO ?aB ?aS ?aL ?_; (case aP => exact k57_mkM _ _ _ (⟨(rd_T57 l0 x15_2).f0, (⟨(rd_T57 l0 x15_2).f1.f0, (rd_T57 l0 x15_2).f1.f1⟩ : S45)⟩ : S57)); (case aB => exact (by repeat (first | (with_reducible first | exact HB.out | apply below_alloc | apply pw_below_drewN | apply below_drew1 | refine below_set ?_ GE349.out | refine below_set ?_ GE356.out) | exact HB.out))); (case aF => exact (fun _ _ => trivial)); (case aO => exact (by (with_reducible repeat (first | apply Kd.R_alloc | apply Kd.R_drewN | apply Kd.R_drew)); exact HO370.out)); (case aS => exact (below_size (by repeat (first | (with_reducible first | exact HB.out | apply below_alloc | apply pw_below_drewN | apply below_drew1 | refine below_set ?_ GE349.out | refine below_set ?_ GE356.out) | exact HB.out)))); (case aL => have := LMc50.out; omega); intro v373 w54 ho hb hg hat; rw [← Ny372.out] at ho; have n0_ := Aside0.mk (blk_grown (g := gb349) (o := .cells #[.int .i64 a2_0, .int .i64 a2_1] 45 (0, 0)) (by (with_reducible repeat (first | refine blk_drewN ?_ _ | refine blk_drew ?_ | refine blk_alloc ?_ _)); exact BK349.out) hg (Kd.R_ne HO370.out BK349.out (by decide))); have n1_ := Aside0.mk (blk_grown (g := gb356) (o := .cells #[.int .i64 t353, .int .i64 t354] 45 (0, 0)) (by (with_reducible repeat (first | refine blk_drewN ?_ _ | refine blk_drew ?_ | refine blk_alloc ?_ _)); exact BK356.out) hg (Kd.R_ne HO370.out BK356.out (by decide))); have n2_ := Aside0.mk (hb); have n3_ := Aside0.mk (ho); clear BK349; clear BK356; clear HB; clear HO370; have BK349 := n0_; have BK356 := n1_; have HB := n2_; have HO374 := n3_; clear n0_ n1_ n2_ n3_; clear ho hb hg hat))
                go_roundg kj35
                case measure => have := HJ5.out; have := HK2.out; have := HJ35.out; omega
                case rel => exact ⟨(y372), (true), (wrap64 (x15_2 + 1)), (by first | rfl | (simp; done) | (simp [*]; done)), (by first | rfl | (simp; done) | (simp [*]; done)), H', ⟨by have := HJ5.out; have := HK2.out; have := HJ35.out; omega⟩, ⟨by (with_reducible repeat (first | apply Kd.R_alloc | apply Kd.R_drewN | apply Kd.R_drew)); exact HO374.out⟩, ⟨by (with_reducible repeat (first | refine blk_drewN ?_ _ | refine blk_drew ?_ | refine blk_alloc ?_ _)); exact BK349.out⟩, ⟨by (with_reducible repeat (first | refine blk_drewN ?_ _ | refine blk_drew ?_ | refine blk_alloc ?_ _)); exact BK356.out⟩, ⟨by repeat (first | (with_reducible first | exact HB.out | apply below_alloc | apply pw_below_drewN | apply below_drew1 | refine below_set ?_ GE349.out | refine below_set ?_ GE356.out) | exact HB.out)⟩⟩
               ·
                rw [if_neg c50] at H
                exact absurd H (by simp)
              ·
               rw [if_neg c49] at H
               exact absurd H (by simp)
            ·
             rw [if_neg c45] at H
             have c45b0 : decide (a1 < ((rd_T57 l0 x15_2).f0)) = false := decide_eq_false c45
             clear c45
             by_cases c55 : x13_2.length < 5864062014805
             ·
              rw [if_pos c55] at H
              have LMc55 := Aside0.mk c55
              clear c55
              obtain ⟨y376, hy376⟩ : ∃ y_ : List (S57), y_ = (x13_2 ++ [(⟨(rd_T57 l0 x15_2).f0, (⟨(rd_T57 l0 x15_2).f1.f0, (rd_T57 l0 x15_2).f1.f1⟩ : S45)⟩ : S57)]) := ⟨_, rfl⟩
              replace H : (plenumlaw44_StatsRepeats.l0 kj35 l0 a1 a3 a4 t355 y376 x14_2 (wrap64 (x15_2 + 1)) a2_0 a2_1 t353 t354) = some r := by first | (rw [hy376]; with_reducible exact H) | (have H2_ := (Option.bind_some _ _).symm.trans H; rw [hy376]; with_reducible exact H2_) | (have H2_ := (Option.bind_some _ _).symm.trans H; with_reducible exact H2_) | with_reducible exact H | (rw [hy376]; exact H) | exact H
              have Ny376 := Aside0.mk hy376
              clear hy376
              have H' := Aside0.mk H
              clear H
              have p363 : 0 ≤ (x15_2 : Int) := of_decide_eq_true (by first | (with_reducible assumption) | assumption)
              have q363 : x15_2 < (l0.length : Int) := of_decide_eq_true (by first | (with_reducible assumption) | assumption)
              obtain ⟨ad363, e363, hx363_0, hx363_1, hx363_2⟩ := at_T57 HR0.out x15_2 p363 q363
              cases e363
              replace hx363_0 := (HB.out.cell (World.block_lt_of_cell? w _ hx363_0)).trans hx363_0
              replace hx363_1 := (HB.out.cell (World.block_lt_of_cell? w _ hx363_1)).trans hx363_1
              replace hx363_2 := (HB.out.cell (World.block_lt_of_cell? w _ hx363_2)).trans hx363_2
              replace p363 := eq_true p363
              replace q363 := eq_true q363
              have p375 : 0 ≤ (x15_2 : Int) := of_decide_eq_true (by first | (with_reducible assumption) | assumption)
              have q375 : x15_2 < (l0.length : Int) := of_decide_eq_true (by first | (with_reducible assumption) | assumption)
              obtain ⟨ad375, e375, hx375_0, hx375_1, hx375_2⟩ := at_T57 HR0.out x15_2 p375 q375
              obtain rfl : ad363 = ad375 := (by injection e375)
              replace hx375_0 := (HB.out.cell (World.block_lt_of_cell? w _ hx375_0)).trans hx375_0
              replace hx375_1 := (HB.out.cell (World.block_lt_of_cell? w _ hx375_1)).trans hx375_1
              replace hx375_2 := (HB.out.cell (World.block_lt_of_cell? w _ hx375_2)).trans hx375_2
              replace p375 := eq_true p375
              replace q375 := eq_true q375
              go_wp2_with (first | ((with_reducible refine gate_builtin (b := .append) (xs := #[.tmp 98, .tmp 103]) rfl ?_); (try (refine gate_guard (by rfl) ?_; dsimp only)); at_builtin; refine Kd.R_append k57 (w0 := w) w.heap.size rfl (.tmp 98) (.tmp 103) 22 57 (.agg #[(.int .i64 0), (.int .i64 0), (.int .i64 0)]) 24 rfl Try.underlying22 info57 rfl (by decide) (by omega) u13 x13_2 (⟨(rd_T57 l0 x15_2).f0, (⟨(rd_T57 l0 x15_2).f1.f0, (rd_T57 l0 x15_2).f1.f1⟩ : S45)⟩ : S57) [.int .i64 ((rd_T57 l0 x15_2).f0), .int .i64 ((rd_T57 l0 x15_2).f1.f0), .int .i64 ((rd_T57 l0 x15_2).f1.f1)] (fun _ => True) (fun _ => False) rfl rfl ?aP (fun _ hk => hk.elim) ?aF ?aO ?aB ?aS ?aL ?_; (case aP => exact k57_mkM _ _ _ (⟨(rd_T57 l0 x15_2).f0, (⟨(rd_T57 l0 x15_2).f1.f0, (rd_T57 l0 x15_2).f1.f1⟩ : S45)⟩ : S57)); (case aB => exact (by repeat (first | (with_reducible first | exact HB.out | apply below_alloc | apply pw_below_drewN | apply below_drew1 | refine below_set ?_ GE349.out | refine below_set ?_ GE356.out) | exact HB.out))); (case aF => exact (fun _ _ => trivial)); (case aO => exact (by (with_reducible repeat (first | apply Kd.R_alloc | apply Kd.R_drewN | apply Kd.R_drew)); exact HO_13.out)); (case aS => exact (below_size (by repeat (first | (with_reducible first | exact HB.out | apply below_alloc | apply pw_below_drewN | apply below_drew1 | refine below_set ?_ GE349.out | refine below_set ?_ GE356.out) | exact HB.out)))); (case aL => have := LMc55.out; omega); intro v377 w56 ho hb hg hat; rw [← Ny376.out] at ho; have n0_ := Aside0.mk (blk_grown (g := gb349) (o := .cells #[.int .i64 a2_0, .int .i64 a2_1] 45 (0, 0)) (by (with_reducible repeat (first | refine blk_drewN ?_ _ | refine blk_drew ?_ | refine blk_alloc ?_ _)); exact BK349.out) hg (Kd.R_ne HO_13.out BK349.out (by decide))); have n1_ := Aside0.mk (blk_grown (g := gb356) (o := .cells #[.int .i64 t353, .int .i64 t354] 45 (0, 0)) (by (with_reducible repeat (first | refine blk_drewN ?_ _ | refine blk_drew ?_ | refine blk_alloc ?_ _)); exact BK356.out) hg (Kd.R_ne HO_13.out BK356.out (by decide))); have n2_ := Aside0.mk (hb); have n3_ := Aside0.mk (ho); clear BK349; clear BK356; clear HB; clear HO_13; have BK349 := n0_; have BK356 := n1_; have HB := n2_; have HO378 := n3_; clear n0_ n1_ n2_ n3_; clear ho hb hg hat))
              go_roundg kj35
              case measure => have := HJ5.out; have := HK2.out; have := HJ35.out; omega
              case rel => exact ⟨(y376), (x14_2), (wrap64 (x15_2 + 1)), (by first | rfl | (simp; done) | (simp [*]; done)), (by first | rfl | (simp; done) | (simp [*]; done)), H', ⟨by have := HJ5.out; have := HK2.out; have := HJ35.out; omega⟩, ⟨by (with_reducible repeat (first | apply Kd.R_alloc | apply Kd.R_drewN | apply Kd.R_drew)); exact HO378.out⟩, ⟨by (with_reducible repeat (first | refine blk_drewN ?_ _ | refine blk_drew ?_ | refine blk_alloc ?_ _)); exact BK349.out⟩, ⟨by (with_reducible repeat (first | refine blk_drewN ?_ _ | refine blk_drew ?_ | refine blk_alloc ?_ _)); exact BK356.out⟩, ⟨by repeat (first | (with_reducible first | exact HB.out | apply below_alloc | apply pw_below_drewN | apply below_drew1 | refine below_set ?_ GE349.out | refine below_set ?_ GE356.out) | exact HB.out)⟩⟩
             ·
              rw [if_neg c55] at H
              exact absurd H (by simp)
           ·
            rw [if_neg c44] at H
            exact absurd H (by simp)
          ·
           rw [if_neg c43] at H
           exact absurd H (by simp)
      ·
       rw [if_neg c35] at H
       have c35b0 : decide (x15_2 < (l0.length : Int)) = false := decide_eq_false c35
       clear c35
       have HC57 := Aside0.mk H
       clear H
       go_upto_if 106 with (fail)
       go_cut [13] (fun v13 wc => ∃ (kq : Nat) (x13_56 : List (S57)), Aside0 (plenumlaw44_StatsRepeats.j3 kq l0 a3 a4 t355 x13_56 a2_0 a2_1 = some r) ∧ Aside0 (kq ≤ k2) ∧ Aside0 (Kd.R k57 57 wc w.heap.size (fun _ => True) v13 x13_56) ∧ Aside0 (wc.heap[gb349]? = some (.cells #[.int .i64 a2_0, .int .i64 a2_1] 45 (0, 0))) ∧ Aside0 (wc.heap[gb356]? = some (.cells #[.int .i64 t353, .int .i64 t354] 45 (0, 0))) ∧ Aside0 (Below w.heap.size w wc))
       case first =>
        have H := HC57.out
        clear HC57
        by_cases c58 : x14_2 = true
        ·
         subst c58
         have H1 : (plenumlaw44_StatsRepeats.j3 k2 l0 a3 a4 t355 x13_2 a2_0 a2_1) = some r := by rw [if_pos rfl] at H; exact H
         clear H
         have H := H1
         clear H1
         have H' := Aside0.mk H
         clear H
         go_wp2
         go_meet
         case rel => exact ⟨_, (x13_2), H', ⟨by have := HJ5.out; have := HK2.out; first | omega | exact Nat.le_refl _⟩, ⟨by (with_reducible repeat (first | apply Kd.R_alloc | apply Kd.R_drewN | apply Kd.R_drew)); exact HO_13.out⟩, ⟨by (with_reducible repeat (first | refine blk_drewN ?_ _ | refine blk_drew ?_ | refine blk_alloc ?_ _)); exact BK349.out⟩, ⟨by (with_reducible repeat (first | refine blk_drewN ?_ _ | refine blk_drew ?_ | refine blk_alloc ?_ _)); exact BK356.out⟩, ⟨by repeat (first | (with_reducible first | exact HB.out | apply below_alloc | apply pw_below_drewN | apply below_drew1 | refine below_set ?_ GE349.out | refine below_set ?_ GE356.out) | exact HB.out)⟩⟩
        ·
         replace c58 := Bool.eq_false_iff.mpr c58
         subst c58
         have H1 : (if x13_2.length < 5864062014805 then (plenumlaw44_StatsRepeats.j3 k2 l0 a3 a4 t355 (x13_2 ++ [(⟨a1, (⟨t353, t354⟩ : S45)⟩ : S57)]) a2_0 a2_1) else (none)) = some r := by rw [if_neg (show ¬ (false = true) by decide)] at H; exact H
         clear H
         have H := H1
         clear H1
         by_cases c59 : x13_2.length < 5864062014805
         ·
          rw [if_pos c59] at H
          have LMc59 := Aside0.mk c59
          clear c59
          obtain ⟨y379, hy379⟩ : ∃ y_ : List (S57), y_ = (x13_2 ++ [(⟨a1, (⟨t353, t354⟩ : S45)⟩ : S57)]) := ⟨_, rfl⟩
          replace H : (plenumlaw44_StatsRepeats.j3 k2 l0 a3 a4 t355 y379 a2_0 a2_1) = some r := by first | (rw [hy379]; with_reducible exact H) | (have H2_ := (Option.bind_some _ _).symm.trans H; rw [hy379]; with_reducible exact H2_) | (have H2_ := (Option.bind_some _ _).symm.trans H; with_reducible exact H2_) | with_reducible exact H | (rw [hy379]; exact H) | exact H
          have Ny379 := Aside0.mk hy379
          clear hy379
          have H' := Aside0.mk H
          clear H
          have hnb60 := NB356_349.out
          have hnc60 := NB349_356.out
          have hcz61_0 : wr.cell? ⟨gb356, 0, none⟩ = some (.int .i64 t353) := (blk_cell BK356.out 0).trans rfl
          have hcz61_1 : wr.cell? ⟨gb356, 1, none⟩ = some (.int .i64 t354) := (blk_cell BK356.out 1).trans rfl
          have hfz61_0 := blk_frozen BK356.out 0
          have hfz61_1 := blk_frozen BK356.out 1
          go_wp2_with (first | ((with_reducible refine gate_builtin (b := .append) (xs := #[.tmp 107, .tmp 111]) rfl ?_); (try (refine gate_guard (by rfl) ?_; dsimp only)); at_builtin; refine Kd.R_append k57 (w0 := w) w.heap.size rfl (.tmp 107) (.tmp 111) 22 57 (.agg #[(.int .i64 0), (.int .i64 0), (.int .i64 0)]) 24 rfl Try.underlying22 info57 rfl (by decide) (by omega) u13 x13_2 (⟨a1, (⟨t353, t354⟩ : S45)⟩ : S57) [.int .i64 a1, .int .i64 t353, .int .i64 t354] (fun _ => True) (fun _ => False) rfl rfl ?aP (fun _ hk => hk.elim) ?aF ?aO ?aB ?aS ?aL ?_; (case aP => exact k57_mkM _ _ _ (⟨a1, (⟨t353, t354⟩ : S45)⟩ : S57)); (case aB => exact (by repeat (first | (with_reducible first | exact HB.out | apply below_alloc | apply pw_below_drewN | apply below_drew1 | refine below_set ?_ GE349.out | refine below_set ?_ GE356.out) | exact HB.out))); (case aF => exact (fun _ _ => trivial)); (case aO => exact (by (with_reducible repeat (first | apply Kd.R_alloc | apply Kd.R_drewN | apply Kd.R_drew)); exact HO_13.out)); (case aS => exact (below_size (by repeat (first | (with_reducible first | exact HB.out | apply below_alloc | apply pw_below_drewN | apply below_drew1 | refine below_set ?_ GE349.out | refine below_set ?_ GE356.out) | exact HB.out)))); (case aL => have := LMc59.out; omega); intro v380 w62 ho hb hg hat; rw [← Ny379.out] at ho; have n0_ := Aside0.mk (blk_grown (g := gb349) (o := .cells #[.int .i64 a2_0, .int .i64 a2_1] 45 (0, 0)) (by (with_reducible repeat (first | refine blk_drewN ?_ _ | refine blk_drew ?_ | refine blk_alloc ?_ _)); exact BK349.out) hg (Kd.R_ne HO_13.out BK349.out (by decide))); have n1_ := Aside0.mk (blk_grown (g := gb356) (o := .cells #[.int .i64 t353, .int .i64 t354] 45 (0, 0)) (by (with_reducible repeat (first | refine blk_drewN ?_ _ | refine blk_drew ?_ | refine blk_alloc ?_ _)); exact BK356.out) hg (Kd.R_ne HO_13.out BK356.out (by decide))); have n2_ := Aside0.mk (hb); have n3_ := Aside0.mk (ho); clear BK349; clear BK356; clear HB; clear HO_13; have BK349 := n0_; have BK356 := n1_; have HB := n2_; have HO381 := n3_; clear n0_ n1_ n2_ n3_; clear ho hb hg hat))
          go_meet
          case rel => exact ⟨_, (y379), H', ⟨by have := HJ5.out; have := HK2.out; first | omega | exact Nat.le_refl _⟩, ⟨by (with_reducible repeat (first | apply Kd.R_alloc | apply Kd.R_drewN | apply Kd.R_drew)); exact HO381.out⟩, ⟨by (with_reducible repeat (first | refine blk_drewN ?_ _ | refine blk_drew ?_ | refine blk_alloc ?_ _)); exact BK349.out⟩, ⟨by (with_reducible repeat (first | refine blk_drewN ?_ _ | refine blk_drew ?_ | refine blk_alloc ?_ _)); exact BK356.out⟩, ⟨by repeat (first | (with_reducible first | exact HB.out | apply below_alloc | apply pw_below_drewN | apply below_drew1 | refine below_set ?_ GE349.out | refine below_set ?_ GE356.out) | exact HB.out)⟩⟩
         ·
          rw [if_neg c59] at H
          exact absurd H (by simp)
       case rest =>
        clear HC57
        try clear c1
        try clear c2
        try clear p2
        try clear c3
        try clear p3
        try clear q3
        try clear hx3
        try clear qi3
        try clear c4
        try clear c5
        try clear c6
        try clear p6
        try clear c8
        try clear c8b0
        try clear c8b1
        try clear c10
        try clear c11
        try clear c12
        try clear c12b0
        try clear c12b1
        try clear c13
        try clear c13b0
        try clear c25
        try clear c30
        try clear c31
        try clear c35
        try clear c35b0
        try clear p36
        try clear q36
        try clear hx36
        try clear qi36
        try clear c37
        try clear c37b0
        try clear p37
        try clear q37
        try clear hx37
        try clear c38
        try clear c38b0
        try clear c38b1
        try clear c39
        try clear c39b0
        try clear c39b1
        try clear c40
        try clear c43
        try clear c43b0
        try clear c44
        try clear c44b0
        try clear c45
        try clear c45b0
        try clear c46
        try clear c47
        try clear c49
        try clear c50
        try clear c51
        try clear c55
        try clear c58
        try clear c59
        try clear c60
        try clear hcz14_0
        try clear hcz14_1
        try clear hcz17_0
        try clear hcz17_1
        try clear hcz20_0
        try clear hcz20_1
        try clear hcz23_0
        try clear hcz23_1
        try clear hcz32_0
        try clear hcz32_1
        try clear hcz52_0
        try clear hcz52_1
        try clear hcz61_0
        try clear hcz61_1
        try clear hfz14_0
        try clear hfz14_1
        try clear hfz17_0
        try clear hfz17_1
        try clear hfz20_0
        try clear hfz20_1
        try clear hfz23_0
        try clear hfz23_1
        try clear hfz32_0
        try clear hfz32_1
        try clear hfz52_0
        try clear hfz52_1
        try clear hfz61_0
        try clear hfz61_1
        try clear hx360_0
        try clear hx360_1
        try clear hx360_2
        try clear hx361_0
        try clear hx361_1
        try clear hx361_2
        try clear hx363_0
        try clear hx363_1
        try clear hx363_2
        try clear hx364_0
        try clear hx364_1
        try clear hx364_2
        try clear hx371_0
        try clear hx371_1
        try clear hx371_2
        try clear hx375_0
        try clear hx375_1
        try clear hx375_2
        try clear p2
        try clear p3
        try clear p36
        try clear p360
        try clear p361
        try clear p363
        try clear p364
        try clear p371
        try clear p375
        try clear q3
        try clear q36
        try clear q360
        try clear q361
        try clear q363
        try clear q364
        try clear q371
        try clear q375
        obtain ⟨kq, x13_56, HA, HJ56, HO_13, BK349, BK356, HB⟩ := hcut
        cases kq with
        | zero => exact absurd HA.out (by simp [plenumlaw44_StatsRepeats.j3])
        | succ kj56 =>
         have H := HA.out
         clear HA
         simp only [plenumlaw44_StatsRepeats.j3] at H
         replace H := Option.bind_eq_some_iff.mp H
         obtain ⟨⟨t382, t383⟩, A630, H⟩ := H
         replace H : ((stats_Integral.f kj56 x13_56 a3 a4).bind fun bt384 => ((stats_Seconds.f kj56 l0 a2_0 a2_1 a3 a4).bind fun bt386 => ((stats_Seconds.f kj56 x13_56 a2_0 a2_1 a3 a4).bind fun bt388 => ((stats_Starts.f kj56 l0 a2_0 a2_1 a3 a4).bind fun bt390 => ((stats_Starts.f kj56 x13_56 a2_0 a2_1 a3 a4).bind fun bt392 => ((plenumlaw44_awake.f).bind fun t394 => (if t394 = true then (if t355 = 0 then (if t383 = bt384.2 then (if t382 = bt384.1 then (if bt386.2 = bt388.2 then (if bt386.1 = bt388.1 then (if bt390.2 = bt392.2 then (if bt390.1 = bt392.1 then (some true) else (some ((l0.length : Int) == 0))) else (some ((l0.length : Int) == 0))) else (some false)) else (some false)) else (some false)) else (some false)) else (some false)) else (some false)))))))) = some r := H
         have A63 := Aside0.mk A630
         clear A630
         replace H := Option.bind_eq_some_iff.mp H
         obtain ⟨⟨t384, t385⟩, A640, H⟩ := H
         replace H : ((stats_Seconds.f kj56 l0 a2_0 a2_1 a3 a4).bind fun bt386 => ((stats_Seconds.f kj56 x13_56 a2_0 a2_1 a3 a4).bind fun bt388 => ((stats_Starts.f kj56 l0 a2_0 a2_1 a3 a4).bind fun bt390 => ((stats_Starts.f kj56 x13_56 a2_0 a2_1 a3 a4).bind fun bt392 => ((plenumlaw44_awake.f).bind fun t394 => (if t394 = true then (if t355 = 0 then (if t383 = t385 then (if t382 = t384 then (if bt386.2 = bt388.2 then (if bt386.1 = bt388.1 then (if bt390.2 = bt392.2 then (if bt390.1 = bt392.1 then (some true) else (some ((l0.length : Int) == 0))) else (some ((l0.length : Int) == 0))) else (some false)) else (some false)) else (some false)) else (some false)) else (some false)) else (some false))))))) = some r := H
         have A64 := Aside0.mk A640
         clear A640
         replace H := Option.bind_eq_some_iff.mp H
         obtain ⟨⟨t386, t387⟩, A650, H⟩ := H
         replace H : ((stats_Seconds.f kj56 x13_56 a2_0 a2_1 a3 a4).bind fun bt388 => ((stats_Starts.f kj56 l0 a2_0 a2_1 a3 a4).bind fun bt390 => ((stats_Starts.f kj56 x13_56 a2_0 a2_1 a3 a4).bind fun bt392 => ((plenumlaw44_awake.f).bind fun t394 => (if t394 = true then (if t355 = 0 then (if t383 = t385 then (if t382 = t384 then (if t387 = bt388.2 then (if t386 = bt388.1 then (if bt390.2 = bt392.2 then (if bt390.1 = bt392.1 then (some true) else (some ((l0.length : Int) == 0))) else (some ((l0.length : Int) == 0))) else (some false)) else (some false)) else (some false)) else (some false)) else (some false)) else (some false)))))) = some r := H
         have A65 := Aside0.mk A650
         clear A650
         replace H := Option.bind_eq_some_iff.mp H
         obtain ⟨⟨t388, t389⟩, A660, H⟩ := H
         replace H : ((stats_Starts.f kj56 l0 a2_0 a2_1 a3 a4).bind fun bt390 => ((stats_Starts.f kj56 x13_56 a2_0 a2_1 a3 a4).bind fun bt392 => ((plenumlaw44_awake.f).bind fun t394 => (if t394 = true then (if t355 = 0 then (if t383 = t385 then (if t382 = t384 then (if t387 = t389 then (if t386 = t388 then (if bt390.2 = bt392.2 then (if bt390.1 = bt392.1 then (some true) else (some ((l0.length : Int) == 0))) else (some ((l0.length : Int) == 0))) else (some false)) else (some false)) else (some false)) else (some false)) else (some false)) else (some false))))) = some r := H
         have A66 := Aside0.mk A660
         clear A660
         replace H := Option.bind_eq_some_iff.mp H
         obtain ⟨⟨t390, t391⟩, A670, H⟩ := H
         replace H : ((stats_Starts.f kj56 x13_56 a2_0 a2_1 a3 a4).bind fun bt392 => ((plenumlaw44_awake.f).bind fun t394 => (if t394 = true then (if t355 = 0 then (if t383 = t385 then (if t382 = t384 then (if t387 = t389 then (if t386 = t388 then (if t391 = bt392.2 then (if t390 = bt392.1 then (some true) else (some ((l0.length : Int) == 0))) else (some ((l0.length : Int) == 0))) else (some false)) else (some false)) else (some false)) else (some false)) else (some false)) else (some false)))) = some r := H
         have A67 := Aside0.mk A670
         clear A670
         replace H := Option.bind_eq_some_iff.mp H
         obtain ⟨⟨t392, t393⟩, A680, H⟩ := H
         replace H : ((plenumlaw44_awake.f).bind fun t394 => (if t394 = true then (if t355 = 0 then (if t383 = t385 then (if t382 = t384 then (if t387 = t389 then (if t386 = t388 then (if t391 = t393 then (if t390 = t392 then (some true) else (some ((l0.length : Int) == 0))) else (some ((l0.length : Int) == 0))) else (some false)) else (some false)) else (some false)) else (some false)) else (some false)) else (some false))) = some r := H
         have A68 := Aside0.mk A680
         clear A680
         replace H := Option.bind_eq_some_iff.mp H
         obtain ⟨t394, A690, H⟩ := H
         replace H : (if t394 = true then (if t355 = 0 then (if t383 = t385 then (if t382 = t384 then (if t387 = t389 then (if t386 = t388 then (if t391 = t393 then (if t390 = t392 then (some true) else (some ((l0.length : Int) == 0))) else (some ((l0.length : Int) == 0))) else (some false)) else (some false)) else (some false)) else (some false)) else (some false)) else (some false)) = some r := H
         have A69 := Aside0.mk A690
         clear A690
         by_cases c70 : t394 = true
         ·
          subst c70
          have H1 : (if t355 = 0 then (if t383 = t385 then (if t382 = t384 then (if t387 = t389 then (if t386 = t388 then (if t391 = t393 then (if t390 = t392 then (some true) else (some ((l0.length : Int) == 0))) else (some ((l0.length : Int) == 0))) else (some false)) else (some false)) else (some false)) else (some false)) else (some false)) = some r := by rw [if_pos rfl] at H; exact H
          clear H
          have H := H1
          clear H1
          by_cases c71 : t355 = 0
          ·
           rw [if_pos c71] at H
           have c71b0 : (t355 == 0) = true := beq_iff_eq.mpr c71
           have c71b1 : (t355 != 0) = false := bne_eq_false_iff_eq.mpr c71
           clear c71
           by_cases c72 : t383 = t385
           ·
            rw [if_pos c72] at H
            have c72b0 : (t383 == t385) = true := beq_iff_eq.mpr c72
            have c72b1 : (t383 != t385) = false := bne_eq_false_iff_eq.mpr c72
            clear c72
            by_cases c73 : t382 = t384
            ·
             rw [if_pos c73] at H
             have c73b0 : (t382 == t384) = true := beq_iff_eq.mpr c73
             have c73b1 : (t382 != t384) = false := bne_eq_false_iff_eq.mpr c73
             clear c73
             by_cases c74 : t387 = t389
             ·
              rw [if_pos c74] at H
              have c74b0 : (t387 == t389) = true := beq_iff_eq.mpr c74
              have c74b1 : (t387 != t389) = false := bne_eq_false_iff_eq.mpr c74
              clear c74
              by_cases c75 : t386 = t388
              ·
               rw [if_pos c75] at H
               have c75b0 : (t386 == t388) = true := beq_iff_eq.mpr c75
               have c75b1 : (t386 != t388) = false := bne_eq_false_iff_eq.mpr c75
               clear c75
               by_cases c76 : t391 = t393
               ·
                rw [if_pos c76] at H
                have c76b0 : (t391 == t393) = true := beq_iff_eq.mpr c76
                have c76b1 : (t391 != t393) = false := bne_eq_false_iff_eq.mpr c76
                clear c76
                by_cases c77 : t390 = t392
                ·
                 rw [if_pos c77] at H
                 have c77b0 : (t390 == t392) = true := beq_iff_eq.mpr c77
                 have c77b1 : (t390 != t392) = false := bne_eq_false_iff_eq.mpr c77
                 clear c77
                 obtain rfl := Option.some.inj H
                 go_wp2_with (first | ((with_reducible refine gate_callee (f := 23) rfl ?_); refine goesL_ (some 117) rfl rfl Try.func23 (by kernel_rfl) rfl #[.slice A0 l0.length c0, .int .i64 a3, .int .i64 a4] rfl (by (try simp only [List.map_toArray, List.map_cons, List.map_nil]); first | done | rfl | (simp only [List.length_drop, List.length_take]; rfl)) ?_; (with_reducible refine (stats_Integral.calls kj56 _ _ l0 a3 a4 t382 t383 _ ?side1 ?side2 A63.out).mono ?_); (case side1 => repeat (first | exact (Kd.C_below HR0.out HB.out) | (with_reducible refine Kd.C_alloc ?_ _) | (with_reducible refine Kd.C_drewN ?_ _) | (with_reducible refine Kd.C_drew ?_))); (case side2 => exact HC0.out); rintro e w78 ⟨rfl, hb⟩; refine ⟨_, rfl, ?_⟩; have n0_ := Aside0.mk (Kd.R_below (by (with_reducible repeat (first | apply Kd.R_alloc | apply Kd.R_drewN | apply Kd.R_drew)); exact HO_13.out) hb); have n1_ := Aside0.mk (blk_below (g := gb349) (o := .cells #[.int .i64 a2_0, .int .i64 a2_1] 45 (0, 0)) (by (with_reducible repeat (first | refine blk_drewN ?_ _ | refine blk_drew ?_ | refine blk_alloc ?_ _)); exact BK349.out) hb); have n2_ := Aside0.mk (blk_below (g := gb356) (o := .cells #[.int .i64 t353, .int .i64 t354] 45 (0, 0)) (by (with_reducible repeat (first | refine blk_drewN ?_ _ | refine blk_drew ?_ | refine blk_alloc ?_ _)); exact BK356.out) hb); have n3_ := Aside0.mk (below_step (by repeat (first | (with_reducible first | exact HB.out | apply below_alloc | apply pw_below_drewN | apply below_drew1 | refine below_set ?_ GE349.out | refine below_set ?_ GE356.out) | exact HB.out)) hb); clear HO_13; clear BK349; clear BK356; clear HB; have HO_13 := n0_; have BK349 := n1_; have BK356 := n2_; have HB := n3_; clear n0_ n1_ n2_ n3_; (try clear hb); (try clear hb2); (try clear hk); (try clear hi); obtain ⟨Ao79, co79, eo79⟩ := Kd.R_slice HO_13.out; subst eo79) | ((with_reducible refine gate_callee (f := 23) rfl ?_); refine goesL_ (some 124) rfl rfl Try.func23 (by kernel_rfl) rfl #[.slice Ao79 x13_56.length co79, .int .i64 a3, .int .i64 a4] rfl (by (try simp only [List.map_toArray, List.map_cons, List.map_nil]); first | done | rfl | (simp only [List.length_drop, List.length_take]; rfl)) ?_; (with_reducible refine (stats_Integral.calls kj56 _ _ x13_56 a3 a4 t384 t385 _ ?side1 ?side2 A64.out).mono ?_); (case side1 => repeat (first | exact (Kd.R_reads' HO_13.out).2.2 | (with_reducible refine Kd.C_alloc ?_ _) | (with_reducible refine Kd.C_drewN ?_ _) | (with_reducible refine Kd.C_drew ?_))); (case side2 => exact (Kd.R_reads' HO_13.out).2.1); rintro e w80 ⟨rfl, hb⟩; refine ⟨_, rfl, ?_⟩; have n0_ := Aside0.mk (Kd.R_below (by (with_reducible repeat (first | apply Kd.R_alloc | apply Kd.R_drewN | apply Kd.R_drew)); exact HO_13.out) hb); have n1_ := Aside0.mk (blk_below (g := gb349) (o := .cells #[.int .i64 a2_0, .int .i64 a2_1] 45 (0, 0)) (by (with_reducible repeat (first | refine blk_drewN ?_ _ | refine blk_drew ?_ | refine blk_alloc ?_ _)); exact BK349.out) hb); have n2_ := Aside0.mk (blk_below (g := gb356) (o := .cells #[.int .i64 t353, .int .i64 t354] 45 (0, 0)) (by (with_reducible repeat (first | refine blk_drewN ?_ _ | refine blk_drew ?_ | refine blk_alloc ?_ _)); exact BK356.out) hb); have n3_ := Aside0.mk (below_step (by repeat (first | (with_reducible first | exact HB.out | apply below_alloc | apply pw_below_drewN | apply below_drew1 | refine below_set ?_ GE349.out | refine below_set ?_ GE356.out) | exact HB.out)) hb); clear HO_13; clear BK349; clear BK356; clear HB; have HO_13 := n0_; have BK349 := n1_; have BK356 := n2_; have HB := n3_; clear n0_ n1_ n2_ n3_; (try clear hb); (try clear hb2); (try clear hk); (try clear hi); have hnb81 := NB349_356.out; have hnc81 := NB356_349.out; have hcz82_0 : w80.cell? ⟨gb349, 0, none⟩ = some (.int .i64 a2_0) := (blk_cell BK349.out 0).trans rfl; have hcz82_1 : w80.cell? ⟨gb349, 1, none⟩ = some (.int .i64 a2_1) := (blk_cell BK349.out 1).trans rfl; have hfz82_0 := blk_frozen BK349.out 0; have hfz82_1 := blk_frozen BK349.out 1) | ((with_reducible refine gate_callee (f := 24) rfl ?_); refine goesL_ (some 132) rfl rfl Try.func24 (by kernel_rfl) rfl #[.slice A0 l0.length c0, .agg #[.int .i64 a2_0, .int .i64 a2_1], .int .i64 a3, .int .i64 a4] rfl (by (try simp only [List.map_toArray, List.map_cons, List.map_nil]); first | done | rfl | (simp only [List.length_drop, List.length_take]; rfl)) ?_; (with_reducible refine (stats_Seconds.calls kj56 _ _ l0 a2_0 a2_1 a3 a4 t386 t387 _ ?side1 ?side2 A65.out).mono ?_); (case side1 => repeat (first | exact (Kd.C_below HR0.out HB.out) | (with_reducible refine Kd.C_alloc ?_ _) | (with_reducible refine Kd.C_drewN ?_ _) | (with_reducible refine Kd.C_drew ?_))); (case side2 => exact HC0.out); rintro e w83 ⟨rfl, hb⟩; refine ⟨_, rfl, ?_⟩; have n0_ := Aside0.mk (Kd.R_below (by (with_reducible repeat (first | apply Kd.R_alloc | apply Kd.R_drewN | apply Kd.R_drew)); exact HO_13.out) hb); have n1_ := Aside0.mk (blk_below (g := gb349) (o := .cells #[.int .i64 a2_0, .int .i64 a2_1] 45 (0, 0)) (by (with_reducible repeat (first | refine blk_drewN ?_ _ | refine blk_drew ?_ | refine blk_alloc ?_ _)); exact BK349.out) hb); have n2_ := Aside0.mk (blk_below (g := gb356) (o := .cells #[.int .i64 t353, .int .i64 t354] 45 (0, 0)) (by (with_reducible repeat (first | refine blk_drewN ?_ _ | refine blk_drew ?_ | refine blk_alloc ?_ _)); exact BK356.out) hb); have n3_ := Aside0.mk (below_step (by repeat (first | (with_reducible first | exact HB.out | apply below_alloc | apply pw_below_drewN | apply below_drew1 | refine below_set ?_ GE349.out | refine below_set ?_ GE356.out) | exact HB.out)) hb); clear HO_13; clear BK349; clear BK356; clear HB; have HO_13 := n0_; have BK349 := n1_; have BK356 := n2_; have HB := n3_; clear n0_ n1_ n2_ n3_; (try clear hb); (try clear hb2); (try clear hk); (try clear hi); have hcz84_0 : w83.cell? ⟨gb349, 0, none⟩ = some (.int .i64 a2_0) := (blk_cell BK349.out 0).trans rfl; have hcz84_1 : w83.cell? ⟨gb349, 1, none⟩ = some (.int .i64 a2_1) := (blk_cell BK349.out 1).trans rfl; have hfz84_0 := blk_frozen BK349.out 0; have hfz84_1 := blk_frozen BK349.out 1) | ((with_reducible refine gate_callee (f := 24) rfl ?_); refine goesL_ (some 140) rfl rfl Try.func24 (by kernel_rfl) rfl #[.slice Ao79 x13_56.length co79, .agg #[.int .i64 a2_0, .int .i64 a2_1], .int .i64 a3, .int .i64 a4] rfl (by (try simp only [List.map_toArray, List.map_cons, List.map_nil]); first | done | rfl | (simp only [List.length_drop, List.length_take]; rfl)) ?_; (with_reducible refine (stats_Seconds.calls kj56 _ _ x13_56 a2_0 a2_1 a3 a4 t388 t389 _ ?side1 ?side2 A66.out).mono ?_); (case side1 => repeat (first | exact (Kd.R_reads' HO_13.out).2.2 | (with_reducible refine Kd.C_alloc ?_ _) | (with_reducible refine Kd.C_drewN ?_ _) | (with_reducible refine Kd.C_drew ?_))); (case side2 => exact (Kd.R_reads' HO_13.out).2.1); rintro e w85 ⟨rfl, hb⟩; refine ⟨_, rfl, ?_⟩; have n0_ := Aside0.mk (Kd.R_below (by (with_reducible repeat (first | apply Kd.R_alloc | apply Kd.R_drewN | apply Kd.R_drew)); exact HO_13.out) hb); have n1_ := Aside0.mk (blk_below (g := gb349) (o := .cells #[.int .i64 a2_0, .int .i64 a2_1] 45 (0, 0)) (by (with_reducible repeat (first | refine blk_drewN ?_ _ | refine blk_drew ?_ | refine blk_alloc ?_ _)); exact BK349.out) hb); have n2_ := Aside0.mk (blk_below (g := gb356) (o := .cells #[.int .i64 t353, .int .i64 t354] 45 (0, 0)) (by (with_reducible repeat (first | refine blk_drewN ?_ _ | refine blk_drew ?_ | refine blk_alloc ?_ _)); exact BK356.out) hb); have n3_ := Aside0.mk (below_step (by repeat (first | (with_reducible first | exact HB.out | apply below_alloc | apply pw_below_drewN | apply below_drew1 | refine below_set ?_ GE349.out | refine below_set ?_ GE356.out) | exact HB.out)) hb); clear HO_13; clear BK349; clear BK356; clear HB; have HO_13 := n0_; have BK349 := n1_; have BK356 := n2_; have HB := n3_; clear n0_ n1_ n2_ n3_; (try clear hb); (try clear hb2); (try clear hk); (try clear hi); have hcz86_0 : w85.cell? ⟨gb349, 0, none⟩ = some (.int .i64 a2_0) := (blk_cell BK349.out 0).trans rfl; have hcz86_1 : w85.cell? ⟨gb349, 1, none⟩ = some (.int .i64 a2_1) := (blk_cell BK349.out 1).trans rfl; have hfz86_0 := blk_frozen BK349.out 0; have hfz86_1 := blk_frozen BK349.out 1) | ((with_reducible refine gate_callee (f := 25) rfl ?_); refine goesL_ (some 148) rfl rfl Try.func25 (by kernel_rfl) rfl #[.slice A0 l0.length c0, .agg #[.int .i64 a2_0, .int .i64 a2_1], .int .i64 a3, .int .i64 a4] rfl (by (try simp only [List.map_toArray, List.map_cons, List.map_nil]); first | done | rfl | (simp only [List.length_drop, List.length_take]; rfl)) ?_; (with_reducible refine (stats_Starts.calls kj56 _ _ l0 a2_0 a2_1 a3 a4 t390 t391 _ ?side1 ?side2 A67.out).mono ?_); (case side1 => repeat (first | exact (Kd.C_below HR0.out HB.out) | (with_reducible refine Kd.C_alloc ?_ _) | (with_reducible refine Kd.C_drewN ?_ _) | (with_reducible refine Kd.C_drew ?_))); (case side2 => exact HC0.out); rintro e w87 ⟨rfl, hb⟩; refine ⟨_, rfl, ?_⟩; have n0_ := Aside0.mk (Kd.R_below (by (with_reducible repeat (first | apply Kd.R_alloc | apply Kd.R_drewN | apply Kd.R_drew)); exact HO_13.out) hb); have n1_ := Aside0.mk (blk_below (g := gb349) (o := .cells #[.int .i64 a2_0, .int .i64 a2_1] 45 (0, 0)) (by (with_reducible repeat (first | refine blk_drewN ?_ _ | refine blk_drew ?_ | refine blk_alloc ?_ _)); exact BK349.out) hb); have n2_ := Aside0.mk (blk_below (g := gb356) (o := .cells #[.int .i64 t353, .int .i64 t354] 45 (0, 0)) (by (with_reducible repeat (first | refine blk_drewN ?_ _ | refine blk_drew ?_ | refine blk_alloc ?_ _)); exact BK356.out) hb); have n3_ := Aside0.mk (below_step (by repeat (first | (with_reducible first | exact HB.out | apply below_alloc | apply pw_below_drewN | apply below_drew1 | refine below_set ?_ GE349.out | refine below_set ?_ GE356.out) | exact HB.out)) hb); clear HO_13; clear BK349; clear BK356; clear HB; have HO_13 := n0_; have BK349 := n1_; have BK356 := n2_; have HB := n3_; clear n0_ n1_ n2_ n3_; (try clear hb); (try clear hb2); (try clear hk); (try clear hi); have hcz88_0 : w87.cell? ⟨gb349, 0, none⟩ = some (.int .i64 a2_0) := (blk_cell BK349.out 0).trans rfl; have hcz88_1 : w87.cell? ⟨gb349, 1, none⟩ = some (.int .i64 a2_1) := (blk_cell BK349.out 1).trans rfl; have hfz88_0 := blk_frozen BK349.out 0; have hfz88_1 := blk_frozen BK349.out 1) | ((with_reducible refine gate_callee (f := 25) rfl ?_); refine goesL_ (some 156) rfl rfl Try.func25 (by kernel_rfl) rfl #[.slice Ao79 x13_56.length co79, .agg #[.int .i64 a2_0, .int .i64 a2_1], .int .i64 a3, .int .i64 a4] rfl (by (try simp only [List.map_toArray, List.map_cons, List.map_nil]); first | done | rfl | (simp only [List.length_drop, List.length_take]; rfl)) ?_; (with_reducible refine (stats_Starts.calls kj56 _ _ x13_56 a2_0 a2_1 a3 a4 t392 t393 _ ?side1 ?side2 A68.out).mono ?_); (case side1 => repeat (first | exact (Kd.R_reads' HO_13.out).2.2 | (with_reducible refine Kd.C_alloc ?_ _) | (with_reducible refine Kd.C_drewN ?_ _) | (with_reducible refine Kd.C_drew ?_))); (case side2 => exact (Kd.R_reads' HO_13.out).2.1); rintro e w89 ⟨rfl, hb⟩; refine ⟨_, rfl, ?_⟩; have n0_ := Aside0.mk (Kd.R_below (by (with_reducible repeat (first | apply Kd.R_alloc | apply Kd.R_drewN | apply Kd.R_drew)); exact HO_13.out) hb); have n1_ := Aside0.mk (blk_below (g := gb349) (o := .cells #[.int .i64 a2_0, .int .i64 a2_1] 45 (0, 0)) (by (with_reducible repeat (first | refine blk_drewN ?_ _ | refine blk_drew ?_ | refine blk_alloc ?_ _)); exact BK349.out) hb); have n2_ := Aside0.mk (blk_below (g := gb356) (o := .cells #[.int .i64 t353, .int .i64 t354] 45 (0, 0)) (by (with_reducible repeat (first | refine blk_drewN ?_ _ | refine blk_drew ?_ | refine blk_alloc ?_ _)); exact BK356.out) hb); have n3_ := Aside0.mk (below_step (by repeat (first | (with_reducible first | exact HB.out | apply below_alloc | apply pw_below_drewN | apply below_drew1 | refine below_set ?_ GE349.out | refine below_set ?_ GE356.out) | exact HB.out)) hb); clear HO_13; clear BK349; clear BK356; clear HB; have HO_13 := n0_; have BK349 := n1_; have BK356 := n2_; have HB := n3_; clear n0_ n1_ n2_ n3_; (try clear hb); (try clear hb2); (try clear hk); (try clear hi)) | ((with_reducible refine gate_callee (f := 11) rfl ?_); refine goesL_ (some 159) rfl rfl Try.func11 (by kernel_rfl) rfl #[] rfl (by (try simp only [List.map_toArray, List.map_cons, List.map_nil]); first | done | rfl | (simp only [List.length_drop, List.length_take]; rfl)) ?_; (with_reducible refine (plenumlaw44_awake.calls  true _ A69.out).mono ?_); rintro e w90 ⟨rfl, hb⟩; refine ⟨_, rfl, ?_⟩; have n0_ := Aside0.mk (Kd.R_below (by (with_reducible repeat (first | apply Kd.R_alloc | apply Kd.R_drewN | apply Kd.R_drew)); exact HO_13.out) hb); have n1_ := Aside0.mk (blk_below (g := gb349) (o := .cells #[.int .i64 a2_0, .int .i64 a2_1] 45 (0, 0)) (by (with_reducible repeat (first | refine blk_drewN ?_ _ | refine blk_drew ?_ | refine blk_alloc ?_ _)); exact BK349.out) hb); have n2_ := Aside0.mk (blk_below (g := gb356) (o := .cells #[.int .i64 t353, .int .i64 t354] 45 (0, 0)) (by (with_reducible repeat (first | refine blk_drewN ?_ _ | refine blk_drew ?_ | refine blk_alloc ?_ _)); exact BK356.out) hb); have n3_ := Aside0.mk (below_step (by repeat (first | (with_reducible first | exact HB.out | apply below_alloc | apply pw_below_drewN | apply below_drew1 | refine below_set ?_ GE349.out | refine below_set ?_ GE356.out) | exact HB.out)) hb); clear HO_13; clear BK349; clear BK356; clear HB; have HO_13 := n0_; have BK349 := n1_; have BK356 := n2_; have HB := n3_; clear n0_ n1_ n2_ n3_; (try clear hb); (try clear hb2); (try clear hk); (try clear hi)))
                 go_ret
                 exact ⟨by first | rfl | (simp [errW_none, errW_some] <;> rfl) | (simp [*, errW_none, errW_some] <;> rfl), by repeat (first | (with_reducible first | exact HB.out | apply below_alloc | apply pw_below_drewN | apply below_drew1 | refine below_set ?_ GE349.out | refine below_set ?_ GE356.out) | exact HB.out)⟩
                ·
                 rw [if_neg c77] at H
                 have c77b0 : (t390 == t392) = false := beq_eq_false_iff_ne.mpr c77
                 have c77b1 : (t390 != t392) = true := bne_iff_ne.mpr c77
                 obtain rfl := Option.some.inj H
                 go_wp2_with (first | ((with_reducible refine gate_callee (f := 23) rfl ?_); refine goesL_ (some 117) rfl rfl Try.func23 (by kernel_rfl) rfl #[.slice A0 l0.length c0, .int .i64 a3, .int .i64 a4] rfl (by (try simp only [List.map_toArray, List.map_cons, List.map_nil]); first | done | rfl | (simp only [List.length_drop, List.length_take]; rfl)) ?_; (with_reducible refine (stats_Integral.calls kj56 _ _ l0 a3 a4 t382 t383 _ ?side1 ?side2 A63.out).mono ?_); (case side1 => repeat (first | exact (Kd.C_below HR0.out HB.out) | (with_reducible refine Kd.C_alloc ?_ _) | (with_reducible refine Kd.C_drewN ?_ _) | (with_reducible refine Kd.C_drew ?_))); (case side2 => exact HC0.out); rintro e w91 ⟨rfl, hb⟩; refine ⟨_, rfl, ?_⟩; have n0_ := Aside0.mk (Kd.R_below (by (with_reducible repeat (first | apply Kd.R_alloc | apply Kd.R_drewN | apply Kd.R_drew)); exact HO_13.out) hb); have n1_ := Aside0.mk (blk_below (g := gb349) (o := .cells #[.int .i64 a2_0, .int .i64 a2_1] 45 (0, 0)) (by (with_reducible repeat (first | refine blk_drewN ?_ _ | refine blk_drew ?_ | refine blk_alloc ?_ _)); exact BK349.out) hb); have n2_ := Aside0.mk (blk_below (g := gb356) (o := .cells #[.int .i64 t353, .int .i64 t354] 45 (0, 0)) (by (with_reducible repeat (first | refine blk_drewN ?_ _ | refine blk_drew ?_ | refine blk_alloc ?_ _)); exact BK356.out) hb); have n3_ := Aside0.mk (below_step (by repeat (first | (with_reducible first | exact HB.out | apply below_alloc | apply pw_below_drewN | apply below_drew1 | refine below_set ?_ GE349.out | refine below_set ?_ GE356.out) | exact HB.out)) hb); clear HO_13; clear BK349; clear BK356; clear HB; have HO_13 := n0_; have BK349 := n1_; have BK356 := n2_; have HB := n3_; clear n0_ n1_ n2_ n3_; (try clear hb); (try clear hb2); (try clear hk); (try clear hi); obtain ⟨Ao92, co92, eo92⟩ := Kd.R_slice HO_13.out; subst eo92) | ((with_reducible refine gate_callee (f := 23) rfl ?_); refine goesL_ (some 124) rfl rfl Try.func23 (by kernel_rfl) rfl #[.slice Ao92 x13_56.length co92, .int .i64 a3, .int .i64 a4] rfl (by (try simp only [List.map_toArray, List.map_cons, List.map_nil]); first | done | rfl | (simp only [List.length_drop, List.length_take]; rfl)) ?_; (with_reducible refine (stats_Integral.calls kj56 _ _ x13_56 a3 a4 t384 t385 _ ?side1 ?side2 A64.out).mono ?_); (case side1 => repeat (first | exact (Kd.R_reads' HO_13.out).2.2 | (with_reducible refine Kd.C_alloc ?_ _) | (with_reducible refine Kd.C_drewN ?_ _) | (with_reducible refine Kd.C_drew ?_))); (case side2 => exact (Kd.R_reads' HO_13.out).2.1); rintro e w93 ⟨rfl, hb⟩; refine ⟨_, rfl, ?_⟩; have n0_ := Aside0.mk (Kd.R_below (by (with_reducible repeat (first | apply Kd.R_alloc | apply Kd.R_drewN | apply Kd.R_drew)); exact HO_13.out) hb); have n1_ := Aside0.mk (blk_below (g := gb349) (o := .cells #[.int .i64 a2_0, .int .i64 a2_1] 45 (0, 0)) (by (with_reducible repeat (first | refine blk_drewN ?_ _ | refine blk_drew ?_ | refine blk_alloc ?_ _)); exact BK349.out) hb); have n2_ := Aside0.mk (blk_below (g := gb356) (o := .cells #[.int .i64 t353, .int .i64 t354] 45 (0, 0)) (by (with_reducible repeat (first | refine blk_drewN ?_ _ | refine blk_drew ?_ | refine blk_alloc ?_ _)); exact BK356.out) hb); have n3_ := Aside0.mk (below_step (by repeat (first | (with_reducible first | exact HB.out | apply below_alloc | apply pw_below_drewN | apply below_drew1 | refine below_set ?_ GE349.out | refine below_set ?_ GE356.out) | exact HB.out)) hb); clear HO_13; clear BK349; clear BK356; clear HB; have HO_13 := n0_; have BK349 := n1_; have BK356 := n2_; have HB := n3_; clear n0_ n1_ n2_ n3_; (try clear hb); (try clear hb2); (try clear hk); (try clear hi); have hnb94 := NB349_356.out; have hnc94 := NB356_349.out; have hcz95_0 : w93.cell? ⟨gb349, 0, none⟩ = some (.int .i64 a2_0) := (blk_cell BK349.out 0).trans rfl; have hcz95_1 : w93.cell? ⟨gb349, 1, none⟩ = some (.int .i64 a2_1) := (blk_cell BK349.out 1).trans rfl; have hfz95_0 := blk_frozen BK349.out 0; have hfz95_1 := blk_frozen BK349.out 1) | ((with_reducible refine gate_callee (f := 24) rfl ?_); refine goesL_ (some 132) rfl rfl Try.func24 (by kernel_rfl) rfl #[.slice A0 l0.length c0, .agg #[.int .i64 a2_0, .int .i64 a2_1], .int .i64 a3, .int .i64 a4] rfl (by (try simp only [List.map_toArray, List.map_cons, List.map_nil]); first | done | rfl | (simp only [List.length_drop, List.length_take]; rfl)) ?_; (with_reducible refine (stats_Seconds.calls kj56 _ _ l0 a2_0 a2_1 a3 a4 t386 t387 _ ?side1 ?side2 A65.out).mono ?_); (case side1 => repeat (first | exact (Kd.C_below HR0.out HB.out) | (with_reducible refine Kd.C_alloc ?_ _) | (with_reducible refine Kd.C_drewN ?_ _) | (with_reducible refine Kd.C_drew ?_))); (case side2 => exact HC0.out); rintro e w96 ⟨rfl, hb⟩; refine ⟨_, rfl, ?_⟩; have n0_ := Aside0.mk (Kd.R_below (by (with_reducible repeat (first | apply Kd.R_alloc | apply Kd.R_drewN | apply Kd.R_drew)); exact HO_13.out) hb); have n1_ := Aside0.mk (blk_below (g := gb349) (o := .cells #[.int .i64 a2_0, .int .i64 a2_1] 45 (0, 0)) (by (with_reducible repeat (first | refine blk_drewN ?_ _ | refine blk_drew ?_ | refine blk_alloc ?_ _)); exact BK349.out) hb); have n2_ := Aside0.mk (blk_below (g := gb356) (o := .cells #[.int .i64 t353, .int .i64 t354] 45 (0, 0)) (by (with_reducible repeat (first | refine blk_drewN ?_ _ | refine blk_drew ?_ | refine blk_alloc ?_ _)); exact BK356.out) hb); have n3_ := Aside0.mk (below_step (by repeat (first | (with_reducible first | exact HB.out | apply below_alloc | apply pw_below_drewN | apply below_drew1 | refine below_set ?_ GE349.out | refine below_set ?_ GE356.out) | exact HB.out)) hb); clear HO_13; clear BK349; clear BK356; clear HB; have HO_13 := n0_; have BK349 := n1_; have BK356 := n2_; have HB := n3_; clear n0_ n1_ n2_ n3_; (try clear hb); (try clear hb2); (try clear hk); (try clear hi); have hcz97_0 : w96.cell? ⟨gb349, 0, none⟩ = some (.int .i64 a2_0) := (blk_cell BK349.out 0).trans rfl; have hcz97_1 : w96.cell? ⟨gb349, 1, none⟩ = some (.int .i64 a2_1) := (blk_cell BK349.out 1).trans rfl; have hfz97_0 := blk_frozen BK349.out 0; have hfz97_1 := blk_frozen BK349.out 1) | ((with_reducible refine gate_callee (f := 24) rfl ?_); refine goesL_ (some 140) rfl rfl Try.func24 (by kernel_rfl) rfl #[.slice Ao92 x13_56.length co92, .agg #[.int .i64 a2_0, .int .i64 a2_1], .int .i64 a3, .int .i64 a4] rfl (by (try simp only [List.map_toArray, List.map_cons, List.map_nil]); first | done | rfl | (simp only [List.length_drop, List.length_take]; rfl)) ?_; (with_reducible refine (stats_Seconds.calls kj56 _ _ x13_56 a2_0 a2_1 a3 a4 t388 t389 _ ?side1 ?side2 A66.out).mono ?_); (case side1 => repeat (first | exact (Kd.R_reads' HO_13.out).2.2 | (with_reducible refine Kd.C_alloc ?_ _) | (with_reducible refine Kd.C_drewN ?_ _) | (with_reducible refine Kd.C_drew ?_))); (case side2 => exact (Kd.R_reads' HO_13.out).2.1); rintro e w98 ⟨rfl, hb⟩; refine ⟨_, rfl, ?_⟩; have n0_ := Aside0.mk (Kd.R_below (by (with_reducible repeat (first | apply Kd.R_alloc | apply Kd.R_drewN | apply Kd.R_drew)); exact HO_13.out) hb); have n1_ := Aside0.mk (blk_below (g := gb349) (o := .cells #[.int .i64 a2_0, .int .i64 a2_1] 45 (0, 0)) (by (with_reducible repeat (first | refine blk_drewN ?_ _ | refine blk_drew ?_ | refine blk_alloc ?_ _)); exact BK349.out) hb); have n2_ := Aside0.mk (blk_below (g := gb356) (o := .cells #[.int .i64 t353, .int .i64 t354] 45 (0, 0)) (by (with_reducible repeat (first | refine blk_drewN ?_ _ | refine blk_drew ?_ | refine blk_alloc ?_ _)); exact BK356.out) hb); have n3_ := Aside0.mk (below_step (by repeat (first | (with_reducible first | exact HB.out | apply below_alloc | apply pw_below_drewN | apply below_drew1 | refine below_set ?_ GE349.out | refine below_set ?_ GE356.out) | exact HB.out)) hb); clear HO_13; clear BK349; clear BK356; clear HB; have HO_13 := n0_; have BK349 := n1_; have BK356 := n2_; have HB := n3_; clear n0_ n1_ n2_ n3_; (try clear hb); (try clear hb2); (try clear hk); (try clear hi); have hcz99_0 : w98.cell? ⟨gb349, 0, none⟩ = some (.int .i64 a2_0) := (blk_cell BK349.out 0).trans rfl; have hcz99_1 : w98.cell? ⟨gb349, 1, none⟩ = some (.int .i64 a2_1) := (blk_cell BK349.out 1).trans rfl; have hfz99_0 := blk_frozen BK349.out 0; have hfz99_1 := blk_frozen BK349.out 1) | ((with_reducible refine gate_callee (f := 25) rfl ?_); refine goesL_ (some 148) rfl rfl Try.func25 (by kernel_rfl) rfl #[.slice A0 l0.length c0, .agg #[.int .i64 a2_0, .int .i64 a2_1], .int .i64 a3, .int .i64 a4] rfl (by (try simp only [List.map_toArray, List.map_cons, List.map_nil]); first | done | rfl | (simp only [List.length_drop, List.length_take]; rfl)) ?_; (with_reducible refine (stats_Starts.calls kj56 _ _ l0 a2_0 a2_1 a3 a4 t390 t391 _ ?side1 ?side2 A67.out).mono ?_); (case side1 => repeat (first | exact (Kd.C_below HR0.out HB.out) | (with_reducible refine Kd.C_alloc ?_ _) | (with_reducible refine Kd.C_drewN ?_ _) | (with_reducible refine Kd.C_drew ?_))); (case side2 => exact HC0.out); rintro e w100 ⟨rfl, hb⟩; refine ⟨_, rfl, ?_⟩; have n0_ := Aside0.mk (Kd.R_below (by (with_reducible repeat (first | apply Kd.R_alloc | apply Kd.R_drewN | apply Kd.R_drew)); exact HO_13.out) hb); have n1_ := Aside0.mk (blk_below (g := gb349) (o := .cells #[.int .i64 a2_0, .int .i64 a2_1] 45 (0, 0)) (by (with_reducible repeat (first | refine blk_drewN ?_ _ | refine blk_drew ?_ | refine blk_alloc ?_ _)); exact BK349.out) hb); have n2_ := Aside0.mk (blk_below (g := gb356) (o := .cells #[.int .i64 t353, .int .i64 t354] 45 (0, 0)) (by (with_reducible repeat (first | refine blk_drewN ?_ _ | refine blk_drew ?_ | refine blk_alloc ?_ _)); exact BK356.out) hb); have n3_ := Aside0.mk (below_step (by repeat (first | (with_reducible first | exact HB.out | apply below_alloc | apply pw_below_drewN | apply below_drew1 | refine below_set ?_ GE349.out | refine below_set ?_ GE356.out) | exact HB.out)) hb); clear HO_13; clear BK349; clear BK356; clear HB; have HO_13 := n0_; have BK349 := n1_; have BK356 := n2_; have HB := n3_; clear n0_ n1_ n2_ n3_; (try clear hb); (try clear hb2); (try clear hk); (try clear hi); have hcz101_0 : w100.cell? ⟨gb349, 0, none⟩ = some (.int .i64 a2_0) := (blk_cell BK349.out 0).trans rfl; have hcz101_1 : w100.cell? ⟨gb349, 1, none⟩ = some (.int .i64 a2_1) := (blk_cell BK349.out 1).trans rfl; have hfz101_0 := blk_frozen BK349.out 0; have hfz101_1 := blk_frozen BK349.out 1) | ((with_reducible refine gate_callee (f := 25) rfl ?_); refine goesL_ (some 156) rfl rfl Try.func25 (by kernel_rfl) rfl #[.slice Ao92 x13_56.length co92, .agg #[.int .i64 a2_0, .int .i64 a2_1], .int .i64 a3, .int .i64 a4] rfl (by (try simp only [List.map_toArray, List.map_cons, List.map_nil]); first | done | rfl | (simp only [List.length_drop, List.length_take]; rfl)) ?_; (with_reducible refine (stats_Starts.calls kj56 _ _ x13_56 a2_0 a2_1 a3 a4 t392 t393 _ ?side1 ?side2 A68.out).mono ?_); (case side1 => repeat (first | exact (Kd.R_reads' HO_13.out).2.2 | (with_reducible refine Kd.C_alloc ?_ _) | (with_reducible refine Kd.C_drewN ?_ _) | (with_reducible refine Kd.C_drew ?_))); (case side2 => exact (Kd.R_reads' HO_13.out).2.1); rintro e w102 ⟨rfl, hb⟩; refine ⟨_, rfl, ?_⟩; have n0_ := Aside0.mk (Kd.R_below (by (with_reducible repeat (first | apply Kd.R_alloc | apply Kd.R_drewN | apply Kd.R_drew)); exact HO_13.out) hb); have n1_ := Aside0.mk (blk_below (g := gb349) (o := .cells #[.int .i64 a2_0, .int .i64 a2_1] 45 (0, 0)) (by (with_reducible repeat (first | refine blk_drewN ?_ _ | refine blk_drew ?_ | refine blk_alloc ?_ _)); exact BK349.out) hb); have n2_ := Aside0.mk (blk_below (g := gb356) (o := .cells #[.int .i64 t353, .int .i64 t354] 45 (0, 0)) (by (with_reducible repeat (first | refine blk_drewN ?_ _ | refine blk_drew ?_ | refine blk_alloc ?_ _)); exact BK356.out) hb); have n3_ := Aside0.mk (below_step (by repeat (first | (with_reducible first | exact HB.out | apply below_alloc | apply pw_below_drewN | apply below_drew1 | refine below_set ?_ GE349.out | refine below_set ?_ GE356.out) | exact HB.out)) hb); clear HO_13; clear BK349; clear BK356; clear HB; have HO_13 := n0_; have BK349 := n1_; have BK356 := n2_; have HB := n3_; clear n0_ n1_ n2_ n3_; (try clear hb); (try clear hb2); (try clear hk); (try clear hi)) | ((with_reducible refine gate_callee (f := 11) rfl ?_); refine goesL_ (some 159) rfl rfl Try.func11 (by kernel_rfl) rfl #[] rfl (by (try simp only [List.map_toArray, List.map_cons, List.map_nil]); first | done | rfl | (simp only [List.length_drop, List.length_take]; rfl)) ?_; (with_reducible refine (plenumlaw44_awake.calls  true _ A69.out).mono ?_); rintro e w103 ⟨rfl, hb⟩; refine ⟨_, rfl, ?_⟩; have n0_ := Aside0.mk (Kd.R_below (by (with_reducible repeat (first | apply Kd.R_alloc | apply Kd.R_drewN | apply Kd.R_drew)); exact HO_13.out) hb); have n1_ := Aside0.mk (blk_below (g := gb349) (o := .cells #[.int .i64 a2_0, .int .i64 a2_1] 45 (0, 0)) (by (with_reducible repeat (first | refine blk_drewN ?_ _ | refine blk_drew ?_ | refine blk_alloc ?_ _)); exact BK349.out) hb); have n2_ := Aside0.mk (blk_below (g := gb356) (o := .cells #[.int .i64 t353, .int .i64 t354] 45 (0, 0)) (by (with_reducible repeat (first | refine blk_drewN ?_ _ | refine blk_drew ?_ | refine blk_alloc ?_ _)); exact BK356.out) hb); have n3_ := Aside0.mk (below_step (by repeat (first | (with_reducible first | exact HB.out | apply below_alloc | apply pw_below_drewN | apply below_drew1 | refine below_set ?_ GE349.out | refine below_set ?_ GE356.out) | exact HB.out)) hb); clear HO_13; clear BK349; clear BK356; clear HB; have HO_13 := n0_; have BK349 := n1_; have BK356 := n2_; have HB := n3_; clear n0_ n1_ n2_ n3_; (try clear hb); (try clear hb2); (try clear hk); (try clear hi)))
                 go_ret
                 exact ⟨by first | rfl | (simp [errW_none, errW_some] <;> rfl) | (simp [*, errW_none, errW_some] <;> rfl), by repeat (first | (with_reducible first | exact HB.out | apply below_alloc | apply pw_below_drewN | apply below_drew1 | refine below_set ?_ GE349.out | refine below_set ?_ GE356.out) | exact HB.out)⟩
               ·
                rw [if_neg c76] at H
                have c76b0 : (t391 == t393) = false := beq_eq_false_iff_ne.mpr c76
                have c76b1 : (t391 != t393) = true := bne_iff_ne.mpr c76
                obtain rfl := Option.some.inj H
                go_wp2_with (first | ((with_reducible refine gate_callee (f := 23) rfl ?_); refine goesL_ (some 117) rfl rfl Try.func23 (by kernel_rfl) rfl #[.slice A0 l0.length c0, .int .i64 a3, .int .i64 a4] rfl (by (try simp only [List.map_toArray, List.map_cons, List.map_nil]); first | done | rfl | (simp only [List.length_drop, List.length_take]; rfl)) ?_; (with_reducible refine (stats_Integral.calls kj56 _ _ l0 a3 a4 t382 t383 _ ?side1 ?side2 A63.out).mono ?_); (case side1 => repeat (first | exact (Kd.C_below HR0.out HB.out) | (with_reducible refine Kd.C_alloc ?_ _) | (with_reducible refine Kd.C_drewN ?_ _) | (with_reducible refine Kd.C_drew ?_))); (case side2 => exact HC0.out); rintro e w104 ⟨rfl, hb⟩; refine ⟨_, rfl, ?_⟩; have n0_ := Aside0.mk (Kd.R_below (by (with_reducible repeat (first | apply Kd.R_alloc | apply Kd.R_drewN | apply Kd.R_drew)); exact HO_13.out) hb); have n1_ := Aside0.mk (blk_below (g := gb349) (o := .cells #[.int .i64 a2_0, .int .i64 a2_1] 45 (0, 0)) (by (with_reducible repeat (first | refine blk_drewN ?_ _ | refine blk_drew ?_ | refine blk_alloc ?_ _)); exact BK349.out) hb); have n2_ := Aside0.mk (blk_below (g := gb356) (o := .cells #[.int .i64 t353, .int .i64 t354] 45 (0, 0)) (by (with_reducible repeat (first | refine blk_drewN ?_ _ | refine blk_drew ?_ | refine blk_alloc ?_ _)); exact BK356.out) hb); have n3_ := Aside0.mk (below_step (by repeat (first | (with_reducible first | exact HB.out | apply below_alloc | apply pw_below_drewN | apply below_drew1 | refine below_set ?_ GE349.out | refine below_set ?_ GE356.out) | exact HB.out)) hb); clear HO_13; clear BK349; clear BK356; clear HB; have HO_13 := n0_; have BK349 := n1_; have BK356 := n2_; have HB := n3_; clear n0_ n1_ n2_ n3_; (try clear hb); (try clear hb2); (try clear hk); (try clear hi); obtain ⟨Ao105, co105, eo105⟩ := Kd.R_slice HO_13.out; subst eo105) | ((with_reducible refine gate_callee (f := 23) rfl ?_); refine goesL_ (some 124) rfl rfl Try.func23 (by kernel_rfl) rfl #[.slice Ao105 x13_56.length co105, .int .i64 a3, .int .i64 a4] rfl (by (try simp only [List.map_toArray, List.map_cons, List.map_nil]); first | done | rfl | (simp only [List.length_drop, List.length_take]; rfl)) ?_; (with_reducible refine (stats_Integral.calls kj56 _ _ x13_56 a3 a4 t384 t385 _ ?side1 ?side2 A64.out).mono ?_); (case side1 => repeat (first | exact (Kd.R_reads' HO_13.out).2.2 | (with_reducible refine Kd.C_alloc ?_ _) | (with_reducible refine Kd.C_drewN ?_ _) | (with_reducible refine Kd.C_drew ?_))); (case side2 => exact (Kd.R_reads' HO_13.out).2.1); rintro e w106 ⟨rfl, hb⟩; refine ⟨_, rfl, ?_⟩; have n0_ := Aside0.mk (Kd.R_below (by (with_reducible repeat (first | apply Kd.R_alloc | apply Kd.R_drewN | apply Kd.R_drew)); exact HO_13.out) hb); have n1_ := Aside0.mk (blk_below (g := gb349) (o := .cells #[.int .i64 a2_0, .int .i64 a2_1] 45 (0, 0)) (by (with_reducible repeat (first | refine blk_drewN ?_ _ | refine blk_drew ?_ | refine blk_alloc ?_ _)); exact BK349.out) hb); have n2_ := Aside0.mk (blk_below (g := gb356) (o := .cells #[.int .i64 t353, .int .i64 t354] 45 (0, 0)) (by (with_reducible repeat (first | refine blk_drewN ?_ _ | refine blk_drew ?_ | refine blk_alloc ?_ _)); exact BK356.out) hb); have n3_ := Aside0.mk (below_step (by repeat (first | (with_reducible first | exact HB.out | apply below_alloc | apply pw_below_drewN | apply below_drew1 | refine below_set ?_ GE349.out | refine below_set ?_ GE356.out) | exact HB.out)) hb); clear HO_13; clear BK349; clear BK356; clear HB; have HO_13 := n0_; have BK349 := n1_; have BK356 := n2_; have HB := n3_; clear n0_ n1_ n2_ n3_; (try clear hb); (try clear hb2); (try clear hk); (try clear hi); have hnb107 := NB349_356.out; have hnc107 := NB356_349.out; have hcz108_0 : w106.cell? ⟨gb349, 0, none⟩ = some (.int .i64 a2_0) := (blk_cell BK349.out 0).trans rfl; have hcz108_1 : w106.cell? ⟨gb349, 1, none⟩ = some (.int .i64 a2_1) := (blk_cell BK349.out 1).trans rfl; have hfz108_0 := blk_frozen BK349.out 0; have hfz108_1 := blk_frozen BK349.out 1) | ((with_reducible refine gate_callee (f := 24) rfl ?_); refine goesL_ (some 132) rfl rfl Try.func24 (by kernel_rfl) rfl #[.slice A0 l0.length c0, .agg #[.int .i64 a2_0, .int .i64 a2_1], .int .i64 a3, .int .i64 a4] rfl (by (try simp only [List.map_toArray, List.map_cons, List.map_nil]); first | done | rfl | (simp only [List.length_drop, List.length_take]; rfl)) ?_; (with_reducible refine (stats_Seconds.calls kj56 _ _ l0 a2_0 a2_1 a3 a4 t386 t387 _ ?side1 ?side2 A65.out).mono ?_); (case side1 => repeat (first | exact (Kd.C_below HR0.out HB.out) | (with_reducible refine Kd.C_alloc ?_ _) | (with_reducible refine Kd.C_drewN ?_ _) | (with_reducible refine Kd.C_drew ?_))); (case side2 => exact HC0.out); rintro e w109 ⟨rfl, hb⟩; refine ⟨_, rfl, ?_⟩; have n0_ := Aside0.mk (Kd.R_below (by (with_reducible repeat (first | apply Kd.R_alloc | apply Kd.R_drewN | apply Kd.R_drew)); exact HO_13.out) hb); have n1_ := Aside0.mk (blk_below (g := gb349) (o := .cells #[.int .i64 a2_0, .int .i64 a2_1] 45 (0, 0)) (by (with_reducible repeat (first | refine blk_drewN ?_ _ | refine blk_drew ?_ | refine blk_alloc ?_ _)); exact BK349.out) hb); have n2_ := Aside0.mk (blk_below (g := gb356) (o := .cells #[.int .i64 t353, .int .i64 t354] 45 (0, 0)) (by (with_reducible repeat (first | refine blk_drewN ?_ _ | refine blk_drew ?_ | refine blk_alloc ?_ _)); exact BK356.out) hb); have n3_ := Aside0.mk (below_step (by repeat (first | (with_reducible first | exact HB.out | apply below_alloc | apply pw_below_drewN | apply below_drew1 | refine below_set ?_ GE349.out | refine below_set ?_ GE356.out) | exact HB.out)) hb); clear HO_13; clear BK349; clear BK356; clear HB; have HO_13 := n0_; have BK349 := n1_; have BK356 := n2_; have HB := n3_; clear n0_ n1_ n2_ n3_; (try clear hb); (try clear hb2); (try clear hk); (try clear hi); have hcz110_0 : w109.cell? ⟨gb349, 0, none⟩ = some (.int .i64 a2_0) := (blk_cell BK349.out 0).trans rfl; have hcz110_1 : w109.cell? ⟨gb349, 1, none⟩ = some (.int .i64 a2_1) := (blk_cell BK349.out 1).trans rfl; have hfz110_0 := blk_frozen BK349.out 0; have hfz110_1 := blk_frozen BK349.out 1) | ((with_reducible refine gate_callee (f := 24) rfl ?_); refine goesL_ (some 140) rfl rfl Try.func24 (by kernel_rfl) rfl #[.slice Ao105 x13_56.length co105, .agg #[.int .i64 a2_0, .int .i64 a2_1], .int .i64 a3, .int .i64 a4] rfl (by (try simp only [List.map_toArray, List.map_cons, List.map_nil]); first | done | rfl | (simp only [List.length_drop, List.length_take]; rfl)) ?_; (with_reducible refine (stats_Seconds.calls kj56 _ _ x13_56 a2_0 a2_1 a3 a4 t388 t389 _ ?side1 ?side2 A66.out).mono ?_); (case side1 => repeat (first | exact (Kd.R_reads' HO_13.out).2.2 | (with_reducible refine Kd.C_alloc ?_ _) | (with_reducible refine Kd.C_drewN ?_ _) | (with_reducible refine Kd.C_drew ?_))); (case side2 => exact (Kd.R_reads' HO_13.out).2.1); rintro e w111 ⟨rfl, hb⟩; refine ⟨_, rfl, ?_⟩; have n0_ := Aside0.mk (Kd.R_below (by (with_reducible repeat (first | apply Kd.R_alloc | apply Kd.R_drewN | apply Kd.R_drew)); exact HO_13.out) hb); have n1_ := Aside0.mk (blk_below (g := gb349) (o := .cells #[.int .i64 a2_0, .int .i64 a2_1] 45 (0, 0)) (by (with_reducible repeat (first | refine blk_drewN ?_ _ | refine blk_drew ?_ | refine blk_alloc ?_ _)); exact BK349.out) hb); have n2_ := Aside0.mk (blk_below (g := gb356) (o := .cells #[.int .i64 t353, .int .i64 t354] 45 (0, 0)) (by (with_reducible repeat (first | refine blk_drewN ?_ _ | refine blk_drew ?_ | refine blk_alloc ?_ _)); exact BK356.out) hb); have n3_ := Aside0.mk (below_step (by repeat (first | (with_reducible first | exact HB.out | apply below_alloc | apply pw_below_drewN | apply below_drew1 | refine below_set ?_ GE349.out | refine below_set ?_ GE356.out) | exact HB.out)) hb); clear HO_13; clear BK349; clear BK356; clear HB; have HO_13 := n0_; have BK349 := n1_; have BK356 := n2_; have HB := n3_; clear n0_ n1_ n2_ n3_; (try clear hb); (try clear hb2); (try clear hk); (try clear hi); have hcz112_0 : w111.cell? ⟨gb349, 0, none⟩ = some (.int .i64 a2_0) := (blk_cell BK349.out 0).trans rfl; have hcz112_1 : w111.cell? ⟨gb349, 1, none⟩ = some (.int .i64 a2_1) := (blk_cell BK349.out 1).trans rfl; have hfz112_0 := blk_frozen BK349.out 0; have hfz112_1 := blk_frozen BK349.out 1) | ((with_reducible refine gate_callee (f := 25) rfl ?_); refine goesL_ (some 148) rfl rfl Try.func25 (by kernel_rfl) rfl #[.slice A0 l0.length c0, .agg #[.int .i64 a2_0, .int .i64 a2_1], .int .i64 a3, .int .i64 a4] rfl (by (try simp only [List.map_toArray, List.map_cons, List.map_nil]); first | done | rfl | (simp only [List.length_drop, List.length_take]; rfl)) ?_; (with_reducible refine (stats_Starts.calls kj56 _ _ l0 a2_0 a2_1 a3 a4 t390 t391 _ ?side1 ?side2 A67.out).mono ?_); (case side1 => repeat (first | exact (Kd.C_below HR0.out HB.out) | (with_reducible refine Kd.C_alloc ?_ _) | (with_reducible refine Kd.C_drewN ?_ _) | (with_reducible refine Kd.C_drew ?_))); (case side2 => exact HC0.out); rintro e w113 ⟨rfl, hb⟩; refine ⟨_, rfl, ?_⟩; have n0_ := Aside0.mk (Kd.R_below (by (with_reducible repeat (first | apply Kd.R_alloc | apply Kd.R_drewN | apply Kd.R_drew)); exact HO_13.out) hb); have n1_ := Aside0.mk (blk_below (g := gb349) (o := .cells #[.int .i64 a2_0, .int .i64 a2_1] 45 (0, 0)) (by (with_reducible repeat (first | refine blk_drewN ?_ _ | refine blk_drew ?_ | refine blk_alloc ?_ _)); exact BK349.out) hb); have n2_ := Aside0.mk (blk_below (g := gb356) (o := .cells #[.int .i64 t353, .int .i64 t354] 45 (0, 0)) (by (with_reducible repeat (first | refine blk_drewN ?_ _ | refine blk_drew ?_ | refine blk_alloc ?_ _)); exact BK356.out) hb); have n3_ := Aside0.mk (below_step (by repeat (first | (with_reducible first | exact HB.out | apply below_alloc | apply pw_below_drewN | apply below_drew1 | refine below_set ?_ GE349.out | refine below_set ?_ GE356.out) | exact HB.out)) hb); clear HO_13; clear BK349; clear BK356; clear HB; have HO_13 := n0_; have BK349 := n1_; have BK356 := n2_; have HB := n3_; clear n0_ n1_ n2_ n3_; (try clear hb); (try clear hb2); (try clear hk); (try clear hi); have hcz114_0 : w113.cell? ⟨gb349, 0, none⟩ = some (.int .i64 a2_0) := (blk_cell BK349.out 0).trans rfl; have hcz114_1 : w113.cell? ⟨gb349, 1, none⟩ = some (.int .i64 a2_1) := (blk_cell BK349.out 1).trans rfl; have hfz114_0 := blk_frozen BK349.out 0; have hfz114_1 := blk_frozen BK349.out 1) | ((with_reducible refine gate_callee (f := 25) rfl ?_); refine goesL_ (some 156) rfl rfl Try.func25 (by kernel_rfl) rfl #[.slice Ao105 x13_56.length co105, .agg #[.int .i64 a2_0, .int .i64 a2_1], .int .i64 a3, .int .i64 a4] rfl (by (try simp only [List.map_toArray, List.map_cons, List.map_nil]); first | done | rfl | (simp only [List.length_drop, List.length_take]; rfl)) ?_; (with_reducible refine (stats_Starts.calls kj56 _ _ x13_56 a2_0 a2_1 a3 a4 t392 t393 _ ?side1 ?side2 A68.out).mono ?_); (case side1 => repeat (first | exact (Kd.R_reads' HO_13.out).2.2 | (with_reducible refine Kd.C_alloc ?_ _) | (with_reducible refine Kd.C_drewN ?_ _) | (with_reducible refine Kd.C_drew ?_))); (case side2 => exact (Kd.R_reads' HO_13.out).2.1); rintro e w115 ⟨rfl, hb⟩; refine ⟨_, rfl, ?_⟩; have n0_ := Aside0.mk (Kd.R_below (by (with_reducible repeat (first | apply Kd.R_alloc | apply Kd.R_drewN | apply Kd.R_drew)); exact HO_13.out) hb); have n1_ := Aside0.mk (blk_below (g := gb349) (o := .cells #[.int .i64 a2_0, .int .i64 a2_1] 45 (0, 0)) (by (with_reducible repeat (first | refine blk_drewN ?_ _ | refine blk_drew ?_ | refine blk_alloc ?_ _)); exact BK349.out) hb); have n2_ := Aside0.mk (blk_below (g := gb356) (o := .cells #[.int .i64 t353, .int .i64 t354] 45 (0, 0)) (by (with_reducible repeat (first | refine blk_drewN ?_ _ | refine blk_drew ?_ | refine blk_alloc ?_ _)); exact BK356.out) hb); have n3_ := Aside0.mk (below_step (by repeat (first | (with_reducible first | exact HB.out | apply below_alloc | apply pw_below_drewN | apply below_drew1 | refine below_set ?_ GE349.out | refine below_set ?_ GE356.out) | exact HB.out)) hb); clear HO_13; clear BK349; clear BK356; clear HB; have HO_13 := n0_; have BK349 := n1_; have BK356 := n2_; have HB := n3_; clear n0_ n1_ n2_ n3_; (try clear hb); (try clear hb2); (try clear hk); (try clear hi)) | ((with_reducible refine gate_callee (f := 11) rfl ?_); refine goesL_ (some 159) rfl rfl Try.func11 (by kernel_rfl) rfl #[] rfl (by (try simp only [List.map_toArray, List.map_cons, List.map_nil]); first | done | rfl | (simp only [List.length_drop, List.length_take]; rfl)) ?_; (with_reducible refine (plenumlaw44_awake.calls  true _ A69.out).mono ?_); rintro e w116 ⟨rfl, hb⟩; refine ⟨_, rfl, ?_⟩; have n0_ := Aside0.mk (Kd.R_below (by (with_reducible repeat (first | apply Kd.R_alloc | apply Kd.R_drewN | apply Kd.R_drew)); exact HO_13.out) hb); have n1_ := Aside0.mk (blk_below (g := gb349) (o := .cells #[.int .i64 a2_0, .int .i64 a2_1] 45 (0, 0)) (by (with_reducible repeat (first | refine blk_drewN ?_ _ | refine blk_drew ?_ | refine blk_alloc ?_ _)); exact BK349.out) hb); have n2_ := Aside0.mk (blk_below (g := gb356) (o := .cells #[.int .i64 t353, .int .i64 t354] 45 (0, 0)) (by (with_reducible repeat (first | refine blk_drewN ?_ _ | refine blk_drew ?_ | refine blk_alloc ?_ _)); exact BK356.out) hb); have n3_ := Aside0.mk (below_step (by repeat (first | (with_reducible first | exact HB.out | apply below_alloc | apply pw_below_drewN | apply below_drew1 | refine below_set ?_ GE349.out | refine below_set ?_ GE356.out) | exact HB.out)) hb); clear HO_13; clear BK349; clear BK356; clear HB; have HO_13 := n0_; have BK349 := n1_; have BK356 := n2_; have HB := n3_; clear n0_ n1_ n2_ n3_; (try clear hb); (try clear hb2); (try clear hk); (try clear hi)))
                go_ret
                exact ⟨by first | rfl | (simp [errW_none, errW_some] <;> rfl) | (simp [*, errW_none, errW_some] <;> rfl), by repeat (first | (with_reducible first | exact HB.out | apply below_alloc | apply pw_below_drewN | apply below_drew1 | refine below_set ?_ GE349.out | refine below_set ?_ GE356.out) | exact HB.out)⟩
              ·
               rw [if_neg c75] at H
               have c75b0 : (t386 == t388) = false := beq_eq_false_iff_ne.mpr c75
               have c75b1 : (t386 != t388) = true := bne_iff_ne.mpr c75
               obtain rfl := Option.some.inj H
               go_wp2_with (first | ((with_reducible refine gate_callee (f := 23) rfl ?_); refine goesL_ (some 117) rfl rfl Try.func23 (by kernel_rfl) rfl #[.slice A0 l0.length c0, .int .i64 a3, .int .i64 a4] rfl (by (try simp only [List.map_toArray, List.map_cons, List.map_nil]); first | done | rfl | (simp only [List.length_drop, List.length_take]; rfl)) ?_; (with_reducible refine (stats_Integral.calls kj56 _ _ l0 a3 a4 t382 t383 _ ?side1 ?side2 A63.out).mono ?_); (case side1 => repeat (first | exact (Kd.C_below HR0.out HB.out) | (with_reducible refine Kd.C_alloc ?_ _) | (with_reducible refine Kd.C_drewN ?_ _) | (with_reducible refine Kd.C_drew ?_))); (case side2 => exact HC0.out); rintro e w117 ⟨rfl, hb⟩; refine ⟨_, rfl, ?_⟩; have n0_ := Aside0.mk (Kd.R_below (by (with_reducible repeat (first | apply Kd.R_alloc | apply Kd.R_drewN | apply Kd.R_drew)); exact HO_13.out) hb); have n1_ := Aside0.mk (blk_below (g := gb349) (o := .cells #[.int .i64 a2_0, .int .i64 a2_1] 45 (0, 0)) (by (with_reducible repeat (first | refine blk_drewN ?_ _ | refine blk_drew ?_ | refine blk_alloc ?_ _)); exact BK349.out) hb); have n2_ := Aside0.mk (blk_below (g := gb356) (o := .cells #[.int .i64 t353, .int .i64 t354] 45 (0, 0)) (by (with_reducible repeat (first | refine blk_drewN ?_ _ | refine blk_drew ?_ | refine blk_alloc ?_ _)); exact BK356.out) hb); have n3_ := Aside0.mk (below_step (by repeat (first | (with_reducible first | exact HB.out | apply below_alloc | apply pw_below_drewN | apply below_drew1 | refine below_set ?_ GE349.out | refine below_set ?_ GE356.out) | exact HB.out)) hb); clear HO_13; clear BK349; clear BK356; clear HB; have HO_13 := n0_; have BK349 := n1_; have BK356 := n2_; have HB := n3_; clear n0_ n1_ n2_ n3_; (try clear hb); (try clear hb2); (try clear hk); (try clear hi); obtain ⟨Ao118, co118, eo118⟩ := Kd.R_slice HO_13.out; subst eo118) | ((with_reducible refine gate_callee (f := 23) rfl ?_); refine goesL_ (some 124) rfl rfl Try.func23 (by kernel_rfl) rfl #[.slice Ao118 x13_56.length co118, .int .i64 a3, .int .i64 a4] rfl (by (try simp only [List.map_toArray, List.map_cons, List.map_nil]); first | done | rfl | (simp only [List.length_drop, List.length_take]; rfl)) ?_; (with_reducible refine (stats_Integral.calls kj56 _ _ x13_56 a3 a4 t384 t385 _ ?side1 ?side2 A64.out).mono ?_); (case side1 => repeat (first | exact (Kd.R_reads' HO_13.out).2.2 | (with_reducible refine Kd.C_alloc ?_ _) | (with_reducible refine Kd.C_drewN ?_ _) | (with_reducible refine Kd.C_drew ?_))); (case side2 => exact (Kd.R_reads' HO_13.out).2.1); rintro e w119 ⟨rfl, hb⟩; refine ⟨_, rfl, ?_⟩; have n0_ := Aside0.mk (Kd.R_below (by (with_reducible repeat (first | apply Kd.R_alloc | apply Kd.R_drewN | apply Kd.R_drew)); exact HO_13.out) hb); have n1_ := Aside0.mk (blk_below (g := gb349) (o := .cells #[.int .i64 a2_0, .int .i64 a2_1] 45 (0, 0)) (by (with_reducible repeat (first | refine blk_drewN ?_ _ | refine blk_drew ?_ | refine blk_alloc ?_ _)); exact BK349.out) hb); have n2_ := Aside0.mk (blk_below (g := gb356) (o := .cells #[.int .i64 t353, .int .i64 t354] 45 (0, 0)) (by (with_reducible repeat (first | refine blk_drewN ?_ _ | refine blk_drew ?_ | refine blk_alloc ?_ _)); exact BK356.out) hb); have n3_ := Aside0.mk (below_step (by repeat (first | (with_reducible first | exact HB.out | apply below_alloc | apply pw_below_drewN | apply below_drew1 | refine below_set ?_ GE349.out | refine below_set ?_ GE356.out) | exact HB.out)) hb); clear HO_13; clear BK349; clear BK356; clear HB; have HO_13 := n0_; have BK349 := n1_; have BK356 := n2_; have HB := n3_; clear n0_ n1_ n2_ n3_; (try clear hb); (try clear hb2); (try clear hk); (try clear hi); have hnb120 := NB349_356.out; have hnc120 := NB356_349.out; have hcz121_0 : w119.cell? ⟨gb349, 0, none⟩ = some (.int .i64 a2_0) := (blk_cell BK349.out 0).trans rfl; have hcz121_1 : w119.cell? ⟨gb349, 1, none⟩ = some (.int .i64 a2_1) := (blk_cell BK349.out 1).trans rfl; have hfz121_0 := blk_frozen BK349.out 0; have hfz121_1 := blk_frozen BK349.out 1) | ((with_reducible refine gate_callee (f := 24) rfl ?_); refine goesL_ (some 132) rfl rfl Try.func24 (by kernel_rfl) rfl #[.slice A0 l0.length c0, .agg #[.int .i64 a2_0, .int .i64 a2_1], .int .i64 a3, .int .i64 a4] rfl (by (try simp only [List.map_toArray, List.map_cons, List.map_nil]); first | done | rfl | (simp only [List.length_drop, List.length_take]; rfl)) ?_; (with_reducible refine (stats_Seconds.calls kj56 _ _ l0 a2_0 a2_1 a3 a4 t386 t387 _ ?side1 ?side2 A65.out).mono ?_); (case side1 => repeat (first | exact (Kd.C_below HR0.out HB.out) | (with_reducible refine Kd.C_alloc ?_ _) | (with_reducible refine Kd.C_drewN ?_ _) | (with_reducible refine Kd.C_drew ?_))); (case side2 => exact HC0.out); rintro e w122 ⟨rfl, hb⟩; refine ⟨_, rfl, ?_⟩; have n0_ := Aside0.mk (Kd.R_below (by (with_reducible repeat (first | apply Kd.R_alloc | apply Kd.R_drewN | apply Kd.R_drew)); exact HO_13.out) hb); have n1_ := Aside0.mk (blk_below (g := gb349) (o := .cells #[.int .i64 a2_0, .int .i64 a2_1] 45 (0, 0)) (by (with_reducible repeat (first | refine blk_drewN ?_ _ | refine blk_drew ?_ | refine blk_alloc ?_ _)); exact BK349.out) hb); have n2_ := Aside0.mk (blk_below (g := gb356) (o := .cells #[.int .i64 t353, .int .i64 t354] 45 (0, 0)) (by (with_reducible repeat (first | refine blk_drewN ?_ _ | refine blk_drew ?_ | refine blk_alloc ?_ _)); exact BK356.out) hb); have n3_ := Aside0.mk (below_step (by repeat (first | (with_reducible first | exact HB.out | apply below_alloc | apply pw_below_drewN | apply below_drew1 | refine below_set ?_ GE349.out | refine below_set ?_ GE356.out) | exact HB.out)) hb); clear HO_13; clear BK349; clear BK356; clear HB; have HO_13 := n0_; have BK349 := n1_; have BK356 := n2_; have HB := n3_; clear n0_ n1_ n2_ n3_; (try clear hb); (try clear hb2); (try clear hk); (try clear hi); have hcz123_0 : w122.cell? ⟨gb349, 0, none⟩ = some (.int .i64 a2_0) := (blk_cell BK349.out 0).trans rfl; have hcz123_1 : w122.cell? ⟨gb349, 1, none⟩ = some (.int .i64 a2_1) := (blk_cell BK349.out 1).trans rfl; have hfz123_0 := blk_frozen BK349.out 0; have hfz123_1 := blk_frozen BK349.out 1) | ((with_reducible refine gate_callee (f := 24) rfl ?_); refine goesL_ (some 140) rfl rfl Try.func24 (by kernel_rfl) rfl #[.slice Ao118 x13_56.length co118, .agg #[.int .i64 a2_0, .int .i64 a2_1], .int .i64 a3, .int .i64 a4] rfl (by (try simp only [List.map_toArray, List.map_cons, List.map_nil]); first | done | rfl | (simp only [List.length_drop, List.length_take]; rfl)) ?_; (with_reducible refine (stats_Seconds.calls kj56 _ _ x13_56 a2_0 a2_1 a3 a4 t388 t389 _ ?side1 ?side2 A66.out).mono ?_); (case side1 => repeat (first | exact (Kd.R_reads' HO_13.out).2.2 | (with_reducible refine Kd.C_alloc ?_ _) | (with_reducible refine Kd.C_drewN ?_ _) | (with_reducible refine Kd.C_drew ?_))); (case side2 => exact (Kd.R_reads' HO_13.out).2.1); rintro e w124 ⟨rfl, hb⟩; refine ⟨_, rfl, ?_⟩; have n0_ := Aside0.mk (Kd.R_below (by (with_reducible repeat (first | apply Kd.R_alloc | apply Kd.R_drewN | apply Kd.R_drew)); exact HO_13.out) hb); have n1_ := Aside0.mk (blk_below (g := gb349) (o := .cells #[.int .i64 a2_0, .int .i64 a2_1] 45 (0, 0)) (by (with_reducible repeat (first | refine blk_drewN ?_ _ | refine blk_drew ?_ | refine blk_alloc ?_ _)); exact BK349.out) hb); have n2_ := Aside0.mk (blk_below (g := gb356) (o := .cells #[.int .i64 t353, .int .i64 t354] 45 (0, 0)) (by (with_reducible repeat (first | refine blk_drewN ?_ _ | refine blk_drew ?_ | refine blk_alloc ?_ _)); exact BK356.out) hb); have n3_ := Aside0.mk (below_step (by repeat (first | (with_reducible first | exact HB.out | apply below_alloc | apply pw_below_drewN | apply below_drew1 | refine below_set ?_ GE349.out | refine below_set ?_ GE356.out) | exact HB.out)) hb); clear HO_13; clear BK349; clear BK356; clear HB; have HO_13 := n0_; have BK349 := n1_; have BK356 := n2_; have HB := n3_; clear n0_ n1_ n2_ n3_; (try clear hb); (try clear hb2); (try clear hk); (try clear hi); have hcz125_0 : w124.cell? ⟨gb349, 0, none⟩ = some (.int .i64 a2_0) := (blk_cell BK349.out 0).trans rfl; have hcz125_1 : w124.cell? ⟨gb349, 1, none⟩ = some (.int .i64 a2_1) := (blk_cell BK349.out 1).trans rfl; have hfz125_0 := blk_frozen BK349.out 0; have hfz125_1 := blk_frozen BK349.out 1) | ((with_reducible refine gate_callee (f := 25) rfl ?_); refine goesL_ (some 148) rfl rfl Try.func25 (by kernel_rfl) rfl #[.slice A0 l0.length c0, .agg #[.int .i64 a2_0, .int .i64 a2_1], .int .i64 a3, .int .i64 a4] rfl (by (try simp only [List.map_toArray, List.map_cons, List.map_nil]); first | done | rfl | (simp only [List.length_drop, List.length_take]; rfl)) ?_; (with_reducible refine (stats_Starts.calls kj56 _ _ l0 a2_0 a2_1 a3 a4 t390 t391 _ ?side1 ?side2 A67.out).mono ?_); (case side1 => repeat (first | exact (Kd.C_below HR0.out HB.out) | (with_reducible refine Kd.C_alloc ?_ _) | (with_reducible refine Kd.C_drewN ?_ _) | (with_reducible refine Kd.C_drew ?_))); (case side2 => exact HC0.out); rintro e w126 ⟨rfl, hb⟩; refine ⟨_, rfl, ?_⟩; have n0_ := Aside0.mk (Kd.R_below (by (with_reducible repeat (first | apply Kd.R_alloc | apply Kd.R_drewN | apply Kd.R_drew)); exact HO_13.out) hb); have n1_ := Aside0.mk (blk_below (g := gb349) (o := .cells #[.int .i64 a2_0, .int .i64 a2_1] 45 (0, 0)) (by (with_reducible repeat (first | refine blk_drewN ?_ _ | refine blk_drew ?_ | refine blk_alloc ?_ _)); exact BK349.out) hb); have n2_ := Aside0.mk (blk_below (g := gb356) (o := .cells #[.int .i64 t353, .int .i64 t354] 45 (0, 0)) (by (with_reducible repeat (first | refine blk_drewN ?_ _ | refine blk_drew ?_ | refine blk_alloc ?_ _)); exact BK356.out) hb); have n3_ := Aside0.mk (below_step (by repeat (first | (with_reducible first | exact HB.out | apply below_alloc | apply pw_below_drewN | apply below_drew1 | refine below_set ?_ GE349.out | refine below_set ?_ GE356.out) | exact HB.out)) hb); clear HO_13; clear BK349; clear BK356; clear HB; have HO_13 := n0_; have BK349 := n1_; have BK356 := n2_; have HB := n3_; clear n0_ n1_ n2_ n3_; (try clear hb); (try clear hb2); (try clear hk); (try clear hi); have hcz127_0 : w126.cell? ⟨gb349, 0, none⟩ = some (.int .i64 a2_0) := (blk_cell BK349.out 0).trans rfl; have hcz127_1 : w126.cell? ⟨gb349, 1, none⟩ = some (.int .i64 a2_1) := (blk_cell BK349.out 1).trans rfl; have hfz127_0 := blk_frozen BK349.out 0; have hfz127_1 := blk_frozen BK349.out 1) | ((with_reducible refine gate_callee (f := 25) rfl ?_); refine goesL_ (some 156) rfl rfl Try.func25 (by kernel_rfl) rfl #[.slice Ao118 x13_56.length co118, .agg #[.int .i64 a2_0, .int .i64 a2_1], .int .i64 a3, .int .i64 a4] rfl (by (try simp only [List.map_toArray, List.map_cons, List.map_nil]); first | done | rfl | (simp only [List.length_drop, List.length_take]; rfl)) ?_; (with_reducible refine (stats_Starts.calls kj56 _ _ x13_56 a2_0 a2_1 a3 a4 t392 t393 _ ?side1 ?side2 A68.out).mono ?_); (case side1 => repeat (first | exact (Kd.R_reads' HO_13.out).2.2 | (with_reducible refine Kd.C_alloc ?_ _) | (with_reducible refine Kd.C_drewN ?_ _) | (with_reducible refine Kd.C_drew ?_))); (case side2 => exact (Kd.R_reads' HO_13.out).2.1); rintro e w128 ⟨rfl, hb⟩; refine ⟨_, rfl, ?_⟩; have n0_ := Aside0.mk (Kd.R_below (by (with_reducible repeat (first | apply Kd.R_alloc | apply Kd.R_drewN | apply Kd.R_drew)); exact HO_13.out) hb); have n1_ := Aside0.mk (blk_below (g := gb349) (o := .cells #[.int .i64 a2_0, .int .i64 a2_1] 45 (0, 0)) (by (with_reducible repeat (first | refine blk_drewN ?_ _ | refine blk_drew ?_ | refine blk_alloc ?_ _)); exact BK349.out) hb); have n2_ := Aside0.mk (blk_below (g := gb356) (o := .cells #[.int .i64 t353, .int .i64 t354] 45 (0, 0)) (by (with_reducible repeat (first | refine blk_drewN ?_ _ | refine blk_drew ?_ | refine blk_alloc ?_ _)); exact BK356.out) hb); have n3_ := Aside0.mk (below_step (by repeat (first | (with_reducible first | exact HB.out | apply below_alloc | apply pw_below_drewN | apply below_drew1 | refine below_set ?_ GE349.out | refine below_set ?_ GE356.out) | exact HB.out)) hb); clear HO_13; clear BK349; clear BK356; clear HB; have HO_13 := n0_; have BK349 := n1_; have BK356 := n2_; have HB := n3_; clear n0_ n1_ n2_ n3_; (try clear hb); (try clear hb2); (try clear hk); (try clear hi)) | ((with_reducible refine gate_callee (f := 11) rfl ?_); refine goesL_ (some 159) rfl rfl Try.func11 (by kernel_rfl) rfl #[] rfl (by (try simp only [List.map_toArray, List.map_cons, List.map_nil]); first | done | rfl | (simp only [List.length_drop, List.length_take]; rfl)) ?_; (with_reducible refine (plenumlaw44_awake.calls  true _ A69.out).mono ?_); rintro e w129 ⟨rfl, hb⟩; refine ⟨_, rfl, ?_⟩; have n0_ := Aside0.mk (Kd.R_below (by (with_reducible repeat (first | apply Kd.R_alloc | apply Kd.R_drewN | apply Kd.R_drew)); exact HO_13.out) hb); have n1_ := Aside0.mk (blk_below (g := gb349) (o := .cells #[.int .i64 a2_0, .int .i64 a2_1] 45 (0, 0)) (by (with_reducible repeat (first | refine blk_drewN ?_ _ | refine blk_drew ?_ | refine blk_alloc ?_ _)); exact BK349.out) hb); have n2_ := Aside0.mk (blk_below (g := gb356) (o := .cells #[.int .i64 t353, .int .i64 t354] 45 (0, 0)) (by (with_reducible repeat (first | refine blk_drewN ?_ _ | refine blk_drew ?_ | refine blk_alloc ?_ _)); exact BK356.out) hb); have n3_ := Aside0.mk (below_step (by repeat (first | (with_reducible first | exact HB.out | apply below_alloc | apply pw_below_drewN | apply below_drew1 | refine below_set ?_ GE349.out | refine below_set ?_ GE356.out) | exact HB.out)) hb); clear HO_13; clear BK349; clear BK356; clear HB; have HO_13 := n0_; have BK349 := n1_; have BK356 := n2_; have HB := n3_; clear n0_ n1_ n2_ n3_; (try clear hb); (try clear hb2); (try clear hk); (try clear hi)))
               go_ret
               exact ⟨by first | rfl | (simp [errW_none, errW_some] <;> rfl) | (simp [*, errW_none, errW_some] <;> rfl), by repeat (first | (with_reducible first | exact HB.out | apply below_alloc | apply pw_below_drewN | apply below_drew1 | refine below_set ?_ GE349.out | refine below_set ?_ GE356.out) | exact HB.out)⟩
             ·
              rw [if_neg c74] at H
              have c74b0 : (t387 == t389) = false := beq_eq_false_iff_ne.mpr c74
              have c74b1 : (t387 != t389) = true := bne_iff_ne.mpr c74
              obtain rfl := Option.some.inj H
              go_wp2_with (first | ((with_reducible refine gate_callee (f := 23) rfl ?_); refine goesL_ (some 117) rfl rfl Try.func23 (by kernel_rfl) rfl #[.slice A0 l0.length c0, .int .i64 a3, .int .i64 a4] rfl (by (try simp only [List.map_toArray, List.map_cons, List.map_nil]); first | done | rfl | (simp only [List.length_drop, List.length_take]; rfl)) ?_; (with_reducible refine (stats_Integral.calls kj56 _ _ l0 a3 a4 t382 t383 _ ?side1 ?side2 A63.out).mono ?_); (case side1 => repeat (first | exact (Kd.C_below HR0.out HB.out) | (with_reducible refine Kd.C_alloc ?_ _) | (with_reducible refine Kd.C_drewN ?_ _) | (with_reducible refine Kd.C_drew ?_))); (case side2 => exact HC0.out); rintro e w130 ⟨rfl, hb⟩; refine ⟨_, rfl, ?_⟩; have n0_ := Aside0.mk (Kd.R_below (by (with_reducible repeat (first | apply Kd.R_alloc | apply Kd.R_drewN | apply Kd.R_drew)); exact HO_13.out) hb); have n1_ := Aside0.mk (blk_below (g := gb349) (o := .cells #[.int .i64 a2_0, .int .i64 a2_1] 45 (0, 0)) (by (with_reducible repeat (first | refine blk_drewN ?_ _ | refine blk_drew ?_ | refine blk_alloc ?_ _)); exact BK349.out) hb); have n2_ := Aside0.mk (blk_below (g := gb356) (o := .cells #[.int .i64 t353, .int .i64 t354] 45 (0, 0)) (by (with_reducible repeat (first | refine blk_drewN ?_ _ | refine blk_drew ?_ | refine blk_alloc ?_ _)); exact BK356.out) hb); have n3_ := Aside0.mk (below_step (by repeat (first | (with_reducible first | exact HB.out | apply below_alloc | apply pw_below_drewN | apply below_drew1 | refine below_set ?_ GE349.out | refine below_set ?_ GE356.out) | exact HB.out)) hb); clear HO_13; clear BK349; clear BK356; clear HB; have HO_13 := n0_; have BK349 := n1_; have BK356 := n2_; have HB := n3_; clear n0_ n1_ n2_ n3_; (try clear hb); (try clear hb2); (try clear hk); (try clear hi); obtain ⟨Ao131, co131, eo131⟩ := Kd.R_slice HO_13.out; subst eo131) | ((with_reducible refine gate_callee (f := 23) rfl ?_); refine goesL_ (some 124) rfl rfl Try.func23 (by kernel_rfl) rfl #[.slice Ao131 x13_56.length co131, .int .i64 a3, .int .i64 a4] rfl (by (try simp only [List.map_toArray, List.map_cons, List.map_nil]); first | done | rfl | (simp only [List.length_drop, List.length_take]; rfl)) ?_; (with_reducible refine (stats_Integral.calls kj56 _ _ x13_56 a3 a4 t384 t385 _ ?side1 ?side2 A64.out).mono ?_); (case side1 => repeat (first | exact (Kd.R_reads' HO_13.out).2.2 | (with_reducible refine Kd.C_alloc ?_ _) | (with_reducible refine Kd.C_drewN ?_ _) | (with_reducible refine Kd.C_drew ?_))); (case side2 => exact (Kd.R_reads' HO_13.out).2.1); rintro e w132 ⟨rfl, hb⟩; refine ⟨_, rfl, ?_⟩; have n0_ := Aside0.mk (Kd.R_below (by (with_reducible repeat (first | apply Kd.R_alloc | apply Kd.R_drewN | apply Kd.R_drew)); exact HO_13.out) hb); have n1_ := Aside0.mk (blk_below (g := gb349) (o := .cells #[.int .i64 a2_0, .int .i64 a2_1] 45 (0, 0)) (by (with_reducible repeat (first | refine blk_drewN ?_ _ | refine blk_drew ?_ | refine blk_alloc ?_ _)); exact BK349.out) hb); have n2_ := Aside0.mk (blk_below (g := gb356) (o := .cells #[.int .i64 t353, .int .i64 t354] 45 (0, 0)) (by (with_reducible repeat (first | refine blk_drewN ?_ _ | refine blk_drew ?_ | refine blk_alloc ?_ _)); exact BK356.out) hb); have n3_ := Aside0.mk (below_step (by repeat (first | (with_reducible first | exact HB.out | apply below_alloc | apply pw_below_drewN | apply below_drew1 | refine below_set ?_ GE349.out | refine below_set ?_ GE356.out) | exact HB.out)) hb); clear HO_13; clear BK349; clear BK356; clear HB; have HO_13 := n0_; have BK349 := n1_; have BK356 := n2_; have HB := n3_; clear n0_ n1_ n2_ n3_; (try clear hb); (try clear hb2); (try clear hk); (try clear hi); have hnb133 := NB349_356.out; have hnc133 := NB356_349.out; have hcz134_0 : w132.cell? ⟨gb349, 0, none⟩ = some (.int .i64 a2_0) := (blk_cell BK349.out 0).trans rfl; have hcz134_1 : w132.cell? ⟨gb349, 1, none⟩ = some (.int .i64 a2_1) := (blk_cell BK349.out 1).trans rfl; have hfz134_0 := blk_frozen BK349.out 0; have hfz134_1 := blk_frozen BK349.out 1) | ((with_reducible refine gate_callee (f := 24) rfl ?_); refine goesL_ (some 132) rfl rfl Try.func24 (by kernel_rfl) rfl #[.slice A0 l0.length c0, .agg #[.int .i64 a2_0, .int .i64 a2_1], .int .i64 a3, .int .i64 a4] rfl (by (try simp only [List.map_toArray, List.map_cons, List.map_nil]); first | done | rfl | (simp only [List.length_drop, List.length_take]; rfl)) ?_; (with_reducible refine (stats_Seconds.calls kj56 _ _ l0 a2_0 a2_1 a3 a4 t386 t387 _ ?side1 ?side2 A65.out).mono ?_); (case side1 => repeat (first | exact (Kd.C_below HR0.out HB.out) | (with_reducible refine Kd.C_alloc ?_ _) | (with_reducible refine Kd.C_drewN ?_ _) | (with_reducible refine Kd.C_drew ?_))); (case side2 => exact HC0.out); rintro e w135 ⟨rfl, hb⟩; refine ⟨_, rfl, ?_⟩; have n0_ := Aside0.mk (Kd.R_below (by (with_reducible repeat (first | apply Kd.R_alloc | apply Kd.R_drewN | apply Kd.R_drew)); exact HO_13.out) hb); have n1_ := Aside0.mk (blk_below (g := gb349) (o := .cells #[.int .i64 a2_0, .int .i64 a2_1] 45 (0, 0)) (by (with_reducible repeat (first | refine blk_drewN ?_ _ | refine blk_drew ?_ | refine blk_alloc ?_ _)); exact BK349.out) hb); have n2_ := Aside0.mk (blk_below (g := gb356) (o := .cells #[.int .i64 t353, .int .i64 t354] 45 (0, 0)) (by (with_reducible repeat (first | refine blk_drewN ?_ _ | refine blk_drew ?_ | refine blk_alloc ?_ _)); exact BK356.out) hb); have n3_ := Aside0.mk (below_step (by repeat (first | (with_reducible first | exact HB.out | apply below_alloc | apply pw_below_drewN | apply below_drew1 | refine below_set ?_ GE349.out | refine below_set ?_ GE356.out) | exact HB.out)) hb); clear HO_13; clear BK349; clear BK356; clear HB; have HO_13 := n0_; have BK349 := n1_; have BK356 := n2_; have HB := n3_; clear n0_ n1_ n2_ n3_; (try clear hb); (try clear hb2); (try clear hk); (try clear hi); have hcz136_0 : w135.cell? ⟨gb349, 0, none⟩ = some (.int .i64 a2_0) := (blk_cell BK349.out 0).trans rfl; have hcz136_1 : w135.cell? ⟨gb349, 1, none⟩ = some (.int .i64 a2_1) := (blk_cell BK349.out 1).trans rfl; have hfz136_0 := blk_frozen BK349.out 0; have hfz136_1 := blk_frozen BK349.out 1) | ((with_reducible refine gate_callee (f := 24) rfl ?_); refine goesL_ (some 140) rfl rfl Try.func24 (by kernel_rfl) rfl #[.slice Ao131 x13_56.length co131, .agg #[.int .i64 a2_0, .int .i64 a2_1], .int .i64 a3, .int .i64 a4] rfl (by (try simp only [List.map_toArray, List.map_cons, List.map_nil]); first | done | rfl | (simp only [List.length_drop, List.length_take]; rfl)) ?_; (with_reducible refine (stats_Seconds.calls kj56 _ _ x13_56 a2_0 a2_1 a3 a4 t388 t389 _ ?side1 ?side2 A66.out).mono ?_); (case side1 => repeat (first | exact (Kd.R_reads' HO_13.out).2.2 | (with_reducible refine Kd.C_alloc ?_ _) | (with_reducible refine Kd.C_drewN ?_ _) | (with_reducible refine Kd.C_drew ?_))); (case side2 => exact (Kd.R_reads' HO_13.out).2.1); rintro e w137 ⟨rfl, hb⟩; refine ⟨_, rfl, ?_⟩; have n0_ := Aside0.mk (Kd.R_below (by (with_reducible repeat (first | apply Kd.R_alloc | apply Kd.R_drewN | apply Kd.R_drew)); exact HO_13.out) hb); have n1_ := Aside0.mk (blk_below (g := gb349) (o := .cells #[.int .i64 a2_0, .int .i64 a2_1] 45 (0, 0)) (by (with_reducible repeat (first | refine blk_drewN ?_ _ | refine blk_drew ?_ | refine blk_alloc ?_ _)); exact BK349.out) hb); have n2_ := Aside0.mk (blk_below (g := gb356) (o := .cells #[.int .i64 t353, .int .i64 t354] 45 (0, 0)) (by (with_reducible repeat (first | refine blk_drewN ?_ _ | refine blk_drew ?_ | refine blk_alloc ?_ _)); exact BK356.out) hb); have n3_ := Aside0.mk (below_step (by repeat (first | (with_reducible first | exact HB.out | apply below_alloc | apply pw_below_drewN | apply below_drew1 | refine below_set ?_ GE349.out | refine below_set ?_ GE356.out) | exact HB.out)) hb); clear HO_13; clear BK349; clear BK356; clear HB; have HO_13 := n0_; have BK349 := n1_; have BK356 := n2_; have HB := n3_; clear n0_ n1_ n2_ n3_; (try clear hb); (try clear hb2); (try clear hk); (try clear hi); have hcz138_0 : w137.cell? ⟨gb349, 0, none⟩ = some (.int .i64 a2_0) := (blk_cell BK349.out 0).trans rfl; have hcz138_1 : w137.cell? ⟨gb349, 1, none⟩ = some (.int .i64 a2_1) := (blk_cell BK349.out 1).trans rfl; have hfz138_0 := blk_frozen BK349.out 0; have hfz138_1 := blk_frozen BK349.out 1) | ((with_reducible refine gate_callee (f := 25) rfl ?_); refine goesL_ (some 148) rfl rfl Try.func25 (by kernel_rfl) rfl #[.slice A0 l0.length c0, .agg #[.int .i64 a2_0, .int .i64 a2_1], .int .i64 a3, .int .i64 a4] rfl (by (try simp only [List.map_toArray, List.map_cons, List.map_nil]); first | done | rfl | (simp only [List.length_drop, List.length_take]; rfl)) ?_; (with_reducible refine (stats_Starts.calls kj56 _ _ l0 a2_0 a2_1 a3 a4 t390 t391 _ ?side1 ?side2 A67.out).mono ?_); (case side1 => repeat (first | exact (Kd.C_below HR0.out HB.out) | (with_reducible refine Kd.C_alloc ?_ _) | (with_reducible refine Kd.C_drewN ?_ _) | (with_reducible refine Kd.C_drew ?_))); (case side2 => exact HC0.out); rintro e w139 ⟨rfl, hb⟩; refine ⟨_, rfl, ?_⟩; have n0_ := Aside0.mk (Kd.R_below (by (with_reducible repeat (first | apply Kd.R_alloc | apply Kd.R_drewN | apply Kd.R_drew)); exact HO_13.out) hb); have n1_ := Aside0.mk (blk_below (g := gb349) (o := .cells #[.int .i64 a2_0, .int .i64 a2_1] 45 (0, 0)) (by (with_reducible repeat (first | refine blk_drewN ?_ _ | refine blk_drew ?_ | refine blk_alloc ?_ _)); exact BK349.out) hb); have n2_ := Aside0.mk (blk_below (g := gb356) (o := .cells #[.int .i64 t353, .int .i64 t354] 45 (0, 0)) (by (with_reducible repeat (first | refine blk_drewN ?_ _ | refine blk_drew ?_ | refine blk_alloc ?_ _)); exact BK356.out) hb); have n3_ := Aside0.mk (below_step (by repeat (first | (with_reducible first | exact HB.out | apply below_alloc | apply pw_below_drewN | apply below_drew1 | refine below_set ?_ GE349.out | refine below_set ?_ GE356.out) | exact HB.out)) hb); clear HO_13; clear BK349; clear BK356; clear HB; have HO_13 := n0_; have BK349 := n1_; have BK356 := n2_; have HB := n3_; clear n0_ n1_ n2_ n3_; (try clear hb); (try clear hb2); (try clear hk); (try clear hi); have hcz140_0 : w139.cell? ⟨gb349, 0, none⟩ = some (.int .i64 a2_0) := (blk_cell BK349.out 0).trans rfl; have hcz140_1 : w139.cell? ⟨gb349, 1, none⟩ = some (.int .i64 a2_1) := (blk_cell BK349.out 1).trans rfl; have hfz140_0 := blk_frozen BK349.out 0; have hfz140_1 := blk_frozen BK349.out 1) | ((with_reducible refine gate_callee (f := 25) rfl ?_); refine goesL_ (some 156) rfl rfl Try.func25 (by kernel_rfl) rfl #[.slice Ao131 x13_56.length co131, .agg #[.int .i64 a2_0, .int .i64 a2_1], .int .i64 a3, .int .i64 a4] rfl (by (try simp only [List.map_toArray, List.map_cons, List.map_nil]); first | done | rfl | (simp only [List.length_drop, List.length_take]; rfl)) ?_; (with_reducible refine (stats_Starts.calls kj56 _ _ x13_56 a2_0 a2_1 a3 a4 t392 t393 _ ?side1 ?side2 A68.out).mono ?_); (case side1 => repeat (first | exact (Kd.R_reads' HO_13.out).2.2 | (with_reducible refine Kd.C_alloc ?_ _) | (with_reducible refine Kd.C_drewN ?_ _) | (with_reducible refine Kd.C_drew ?_))); (case side2 => exact (Kd.R_reads' HO_13.out).2.1); rintro e w141 ⟨rfl, hb⟩; refine ⟨_, rfl, ?_⟩; have n0_ := Aside0.mk (Kd.R_below (by (with_reducible repeat (first | apply Kd.R_alloc | apply Kd.R_drewN | apply Kd.R_drew)); exact HO_13.out) hb); have n1_ := Aside0.mk (blk_below (g := gb349) (o := .cells #[.int .i64 a2_0, .int .i64 a2_1] 45 (0, 0)) (by (with_reducible repeat (first | refine blk_drewN ?_ _ | refine blk_drew ?_ | refine blk_alloc ?_ _)); exact BK349.out) hb); have n2_ := Aside0.mk (blk_below (g := gb356) (o := .cells #[.int .i64 t353, .int .i64 t354] 45 (0, 0)) (by (with_reducible repeat (first | refine blk_drewN ?_ _ | refine blk_drew ?_ | refine blk_alloc ?_ _)); exact BK356.out) hb); have n3_ := Aside0.mk (below_step (by repeat (first | (with_reducible first | exact HB.out | apply below_alloc | apply pw_below_drewN | apply below_drew1 | refine below_set ?_ GE349.out | refine below_set ?_ GE356.out) | exact HB.out)) hb); clear HO_13; clear BK349; clear BK356; clear HB; have HO_13 := n0_; have BK349 := n1_; have BK356 := n2_; have HB := n3_; clear n0_ n1_ n2_ n3_; (try clear hb); (try clear hb2); (try clear hk); (try clear hi)) | ((with_reducible refine gate_callee (f := 11) rfl ?_); refine goesL_ (some 159) rfl rfl Try.func11 (by kernel_rfl) rfl #[] rfl (by (try simp only [List.map_toArray, List.map_cons, List.map_nil]); first | done | rfl | (simp only [List.length_drop, List.length_take]; rfl)) ?_; (with_reducible refine (plenumlaw44_awake.calls  true _ A69.out).mono ?_); rintro e w142 ⟨rfl, hb⟩; refine ⟨_, rfl, ?_⟩; have n0_ := Aside0.mk (Kd.R_below (by (with_reducible repeat (first | apply Kd.R_alloc | apply Kd.R_drewN | apply Kd.R_drew)); exact HO_13.out) hb); have n1_ := Aside0.mk (blk_below (g := gb349) (o := .cells #[.int .i64 a2_0, .int .i64 a2_1] 45 (0, 0)) (by (with_reducible repeat (first | refine blk_drewN ?_ _ | refine blk_drew ?_ | refine blk_alloc ?_ _)); exact BK349.out) hb); have n2_ := Aside0.mk (blk_below (g := gb356) (o := .cells #[.int .i64 t353, .int .i64 t354] 45 (0, 0)) (by (with_reducible repeat (first | refine blk_drewN ?_ _ | refine blk_drew ?_ | refine blk_alloc ?_ _)); exact BK356.out) hb); have n3_ := Aside0.mk (below_step (by repeat (first | (with_reducible first | exact HB.out | apply below_alloc | apply pw_below_drewN | apply below_drew1 | refine below_set ?_ GE349.out | refine below_set ?_ GE356.out) | exact HB.out)) hb); clear HO_13; clear BK349; clear BK356; clear HB; have HO_13 := n0_; have BK349 := n1_; have BK356 := n2_; have HB := n3_; clear n0_ n1_ n2_ n3_; (try clear hb); (try clear hb2); (try clear hk); (try clear hi)))
              go_ret
              exact ⟨by first | rfl | (simp [errW_none, errW_some] <;> rfl) | (simp [*, errW_none, errW_some] <;> rfl), by repeat (first | (with_reducible first | exact HB.out | apply below_alloc | apply pw_below_drewN | apply below_drew1 | refine below_set ?_ GE349.out | refine below_set ?_ GE356.out) | exact HB.out)⟩
            ·
             rw [if_neg c73] at H
             have c73b0 : (t382 == t384) = false := beq_eq_false_iff_ne.mpr c73
             have c73b1 : (t382 != t384) = true := bne_iff_ne.mpr c73
             obtain rfl := Option.some.inj H
             go_wp2_with (first | ((with_reducible refine gate_callee (f := 23) rfl ?_); refine goesL_ (some 117) rfl rfl Try.func23 (by kernel_rfl) rfl #[.slice A0 l0.length c0, .int .i64 a3, .int .i64 a4] rfl (by (try simp only [List.map_toArray, List.map_cons, List.map_nil]); first | done | rfl | (simp only [List.length_drop, List.length_take]; rfl)) ?_; (with_reducible refine (stats_Integral.calls kj56 _ _ l0 a3 a4 t382 t383 _ ?side1 ?side2 A63.out).mono ?_); (case side1 => repeat (first | exact (Kd.C_below HR0.out HB.out) | (with_reducible refine Kd.C_alloc ?_ _) | (with_reducible refine Kd.C_drewN ?_ _) | (with_reducible refine Kd.C_drew ?_))); (case side2 => exact HC0.out); rintro e w143 ⟨rfl, hb⟩; refine ⟨_, rfl, ?_⟩; have n0_ := Aside0.mk (Kd.R_below (by (with_reducible repeat (first | apply Kd.R_alloc | apply Kd.R_drewN | apply Kd.R_drew)); exact HO_13.out) hb); have n1_ := Aside0.mk (blk_below (g := gb349) (o := .cells #[.int .i64 a2_0, .int .i64 a2_1] 45 (0, 0)) (by (with_reducible repeat (first | refine blk_drewN ?_ _ | refine blk_drew ?_ | refine blk_alloc ?_ _)); exact BK349.out) hb); have n2_ := Aside0.mk (blk_below (g := gb356) (o := .cells #[.int .i64 t353, .int .i64 t354] 45 (0, 0)) (by (with_reducible repeat (first | refine blk_drewN ?_ _ | refine blk_drew ?_ | refine blk_alloc ?_ _)); exact BK356.out) hb); have n3_ := Aside0.mk (below_step (by repeat (first | (with_reducible first | exact HB.out | apply below_alloc | apply pw_below_drewN | apply below_drew1 | refine below_set ?_ GE349.out | refine below_set ?_ GE356.out) | exact HB.out)) hb); clear HO_13; clear BK349; clear BK356; clear HB; have HO_13 := n0_; have BK349 := n1_; have BK356 := n2_; have HB := n3_; clear n0_ n1_ n2_ n3_; (try clear hb); (try clear hb2); (try clear hk); (try clear hi); obtain ⟨Ao144, co144, eo144⟩ := Kd.R_slice HO_13.out; subst eo144) | ((with_reducible refine gate_callee (f := 23) rfl ?_); refine goesL_ (some 124) rfl rfl Try.func23 (by kernel_rfl) rfl #[.slice Ao144 x13_56.length co144, .int .i64 a3, .int .i64 a4] rfl (by (try simp only [List.map_toArray, List.map_cons, List.map_nil]); first | done | rfl | (simp only [List.length_drop, List.length_take]; rfl)) ?_; (with_reducible refine (stats_Integral.calls kj56 _ _ x13_56 a3 a4 t384 t385 _ ?side1 ?side2 A64.out).mono ?_); (case side1 => repeat (first | exact (Kd.R_reads' HO_13.out).2.2 | (with_reducible refine Kd.C_alloc ?_ _) | (with_reducible refine Kd.C_drewN ?_ _) | (with_reducible refine Kd.C_drew ?_))); (case side2 => exact (Kd.R_reads' HO_13.out).2.1); rintro e w145 ⟨rfl, hb⟩; refine ⟨_, rfl, ?_⟩; have n0_ := Aside0.mk (Kd.R_below (by (with_reducible repeat (first | apply Kd.R_alloc | apply Kd.R_drewN | apply Kd.R_drew)); exact HO_13.out) hb); have n1_ := Aside0.mk (blk_below (g := gb349) (o := .cells #[.int .i64 a2_0, .int .i64 a2_1] 45 (0, 0)) (by (with_reducible repeat (first | refine blk_drewN ?_ _ | refine blk_drew ?_ | refine blk_alloc ?_ _)); exact BK349.out) hb); have n2_ := Aside0.mk (blk_below (g := gb356) (o := .cells #[.int .i64 t353, .int .i64 t354] 45 (0, 0)) (by (with_reducible repeat (first | refine blk_drewN ?_ _ | refine blk_drew ?_ | refine blk_alloc ?_ _)); exact BK356.out) hb); have n3_ := Aside0.mk (below_step (by repeat (first | (with_reducible first | exact HB.out | apply below_alloc | apply pw_below_drewN | apply below_drew1 | refine below_set ?_ GE349.out | refine below_set ?_ GE356.out) | exact HB.out)) hb); clear HO_13; clear BK349; clear BK356; clear HB; have HO_13 := n0_; have BK349 := n1_; have BK356 := n2_; have HB := n3_; clear n0_ n1_ n2_ n3_; (try clear hb); (try clear hb2); (try clear hk); (try clear hi); have hnb146 := NB349_356.out; have hnc146 := NB356_349.out; have hcz147_0 : w145.cell? ⟨gb349, 0, none⟩ = some (.int .i64 a2_0) := (blk_cell BK349.out 0).trans rfl; have hcz147_1 : w145.cell? ⟨gb349, 1, none⟩ = some (.int .i64 a2_1) := (blk_cell BK349.out 1).trans rfl; have hfz147_0 := blk_frozen BK349.out 0; have hfz147_1 := blk_frozen BK349.out 1) | ((with_reducible refine gate_callee (f := 24) rfl ?_); refine goesL_ (some 132) rfl rfl Try.func24 (by kernel_rfl) rfl #[.slice A0 l0.length c0, .agg #[.int .i64 a2_0, .int .i64 a2_1], .int .i64 a3, .int .i64 a4] rfl (by (try simp only [List.map_toArray, List.map_cons, List.map_nil]); first | done | rfl | (simp only [List.length_drop, List.length_take]; rfl)) ?_; (with_reducible refine (stats_Seconds.calls kj56 _ _ l0 a2_0 a2_1 a3 a4 t386 t387 _ ?side1 ?side2 A65.out).mono ?_); (case side1 => repeat (first | exact (Kd.C_below HR0.out HB.out) | (with_reducible refine Kd.C_alloc ?_ _) | (with_reducible refine Kd.C_drewN ?_ _) | (with_reducible refine Kd.C_drew ?_))); (case side2 => exact HC0.out); rintro e w148 ⟨rfl, hb⟩; refine ⟨_, rfl, ?_⟩; have n0_ := Aside0.mk (Kd.R_below (by (with_reducible repeat (first | apply Kd.R_alloc | apply Kd.R_drewN | apply Kd.R_drew)); exact HO_13.out) hb); have n1_ := Aside0.mk (blk_below (g := gb349) (o := .cells #[.int .i64 a2_0, .int .i64 a2_1] 45 (0, 0)) (by (with_reducible repeat (first | refine blk_drewN ?_ _ | refine blk_drew ?_ | refine blk_alloc ?_ _)); exact BK349.out) hb); have n2_ := Aside0.mk (blk_below (g := gb356) (o := .cells #[.int .i64 t353, .int .i64 t354] 45 (0, 0)) (by (with_reducible repeat (first | refine blk_drewN ?_ _ | refine blk_drew ?_ | refine blk_alloc ?_ _)); exact BK356.out) hb); have n3_ := Aside0.mk (below_step (by repeat (first | (with_reducible first | exact HB.out | apply below_alloc | apply pw_below_drewN | apply below_drew1 | refine below_set ?_ GE349.out | refine below_set ?_ GE356.out) | exact HB.out)) hb); clear HO_13; clear BK349; clear BK356; clear HB; have HO_13 := n0_; have BK349 := n1_; have BK356 := n2_; have HB := n3_; clear n0_ n1_ n2_ n3_; (try clear hb); (try clear hb2); (try clear hk); (try clear hi); have hcz149_0 : w148.cell? ⟨gb349, 0, none⟩ = some (.int .i64 a2_0) := (blk_cell BK349.out 0).trans rfl; have hcz149_1 : w148.cell? ⟨gb349, 1, none⟩ = some (.int .i64 a2_1) := (blk_cell BK349.out 1).trans rfl; have hfz149_0 := blk_frozen BK349.out 0; have hfz149_1 := blk_frozen BK349.out 1) | ((with_reducible refine gate_callee (f := 24) rfl ?_); refine goesL_ (some 140) rfl rfl Try.func24 (by kernel_rfl) rfl #[.slice Ao144 x13_56.length co144, .agg #[.int .i64 a2_0, .int .i64 a2_1], .int .i64 a3, .int .i64 a4] rfl (by (try simp only [List.map_toArray, List.map_cons, List.map_nil]); first | done | rfl | (simp only [List.length_drop, List.length_take]; rfl)) ?_; (with_reducible refine (stats_Seconds.calls kj56 _ _ x13_56 a2_0 a2_1 a3 a4 t388 t389 _ ?side1 ?side2 A66.out).mono ?_); (case side1 => repeat (first | exact (Kd.R_reads' HO_13.out).2.2 | (with_reducible refine Kd.C_alloc ?_ _) | (with_reducible refine Kd.C_drewN ?_ _) | (with_reducible refine Kd.C_drew ?_))); (case side2 => exact (Kd.R_reads' HO_13.out).2.1); rintro e w150 ⟨rfl, hb⟩; refine ⟨_, rfl, ?_⟩; have n0_ := Aside0.mk (Kd.R_below (by (with_reducible repeat (first | apply Kd.R_alloc | apply Kd.R_drewN | apply Kd.R_drew)); exact HO_13.out) hb); have n1_ := Aside0.mk (blk_below (g := gb349) (o := .cells #[.int .i64 a2_0, .int .i64 a2_1] 45 (0, 0)) (by (with_reducible repeat (first | refine blk_drewN ?_ _ | refine blk_drew ?_ | refine blk_alloc ?_ _)); exact BK349.out) hb); have n2_ := Aside0.mk (blk_below (g := gb356) (o := .cells #[.int .i64 t353, .int .i64 t354] 45 (0, 0)) (by (with_reducible repeat (first | refine blk_drewN ?_ _ | refine blk_drew ?_ | refine blk_alloc ?_ _)); exact BK356.out) hb); have n3_ := Aside0.mk (below_step (by repeat (first | (with_reducible first | exact HB.out | apply below_alloc | apply pw_below_drewN | apply below_drew1 | refine below_set ?_ GE349.out | refine below_set ?_ GE356.out) | exact HB.out)) hb); clear HO_13; clear BK349; clear BK356; clear HB; have HO_13 := n0_; have BK349 := n1_; have BK356 := n2_; have HB := n3_; clear n0_ n1_ n2_ n3_; (try clear hb); (try clear hb2); (try clear hk); (try clear hi); have hcz151_0 : w150.cell? ⟨gb349, 0, none⟩ = some (.int .i64 a2_0) := (blk_cell BK349.out 0).trans rfl; have hcz151_1 : w150.cell? ⟨gb349, 1, none⟩ = some (.int .i64 a2_1) := (blk_cell BK349.out 1).trans rfl; have hfz151_0 := blk_frozen BK349.out 0; have hfz151_1 := blk_frozen BK349.out 1) | ((with_reducible refine gate_callee (f := 25) rfl ?_); refine goesL_ (some 148) rfl rfl Try.func25 (by kernel_rfl) rfl #[.slice A0 l0.length c0, .agg #[.int .i64 a2_0, .int .i64 a2_1], .int .i64 a3, .int .i64 a4] rfl (by (try simp only [List.map_toArray, List.map_cons, List.map_nil]); first | done | rfl | (simp only [List.length_drop, List.length_take]; rfl)) ?_; (with_reducible refine (stats_Starts.calls kj56 _ _ l0 a2_0 a2_1 a3 a4 t390 t391 _ ?side1 ?side2 A67.out).mono ?_); (case side1 => repeat (first | exact (Kd.C_below HR0.out HB.out) | (with_reducible refine Kd.C_alloc ?_ _) | (with_reducible refine Kd.C_drewN ?_ _) | (with_reducible refine Kd.C_drew ?_))); (case side2 => exact HC0.out); rintro e w152 ⟨rfl, hb⟩; refine ⟨_, rfl, ?_⟩; have n0_ := Aside0.mk (Kd.R_below (by (with_reducible repeat (first | apply Kd.R_alloc | apply Kd.R_drewN | apply Kd.R_drew)); exact HO_13.out) hb); have n1_ := Aside0.mk (blk_below (g := gb349) (o := .cells #[.int .i64 a2_0, .int .i64 a2_1] 45 (0, 0)) (by (with_reducible repeat (first | refine blk_drewN ?_ _ | refine blk_drew ?_ | refine blk_alloc ?_ _)); exact BK349.out) hb); have n2_ := Aside0.mk (blk_below (g := gb356) (o := .cells #[.int .i64 t353, .int .i64 t354] 45 (0, 0)) (by (with_reducible repeat (first | refine blk_drewN ?_ _ | refine blk_drew ?_ | refine blk_alloc ?_ _)); exact BK356.out) hb); have n3_ := Aside0.mk (below_step (by repeat (first | (with_reducible first | exact HB.out | apply below_alloc | apply pw_below_drewN | apply below_drew1 | refine below_set ?_ GE349.out | refine below_set ?_ GE356.out) | exact HB.out)) hb); clear HO_13; clear BK349; clear BK356; clear HB; have HO_13 := n0_; have BK349 := n1_; have BK356 := n2_; have HB := n3_; clear n0_ n1_ n2_ n3_; (try clear hb); (try clear hb2); (try clear hk); (try clear hi); have hcz153_0 : w152.cell? ⟨gb349, 0, none⟩ = some (.int .i64 a2_0) := (blk_cell BK349.out 0).trans rfl; have hcz153_1 : w152.cell? ⟨gb349, 1, none⟩ = some (.int .i64 a2_1) := (blk_cell BK349.out 1).trans rfl; have hfz153_0 := blk_frozen BK349.out 0; have hfz153_1 := blk_frozen BK349.out 1) | ((with_reducible refine gate_callee (f := 25) rfl ?_); refine goesL_ (some 156) rfl rfl Try.func25 (by kernel_rfl) rfl #[.slice Ao144 x13_56.length co144, .agg #[.int .i64 a2_0, .int .i64 a2_1], .int .i64 a3, .int .i64 a4] rfl (by (try simp only [List.map_toArray, List.map_cons, List.map_nil]); first | done | rfl | (simp only [List.length_drop, List.length_take]; rfl)) ?_; (with_reducible refine (stats_Starts.calls kj56 _ _ x13_56 a2_0 a2_1 a3 a4 t392 t393 _ ?side1 ?side2 A68.out).mono ?_); (case side1 => repeat (first | exact (Kd.R_reads' HO_13.out).2.2 | (with_reducible refine Kd.C_alloc ?_ _) | (with_reducible refine Kd.C_drewN ?_ _) | (with_reducible refine Kd.C_drew ?_))); (case side2 => exact (Kd.R_reads' HO_13.out).2.1); rintro e w154 ⟨rfl, hb⟩; refine ⟨_, rfl, ?_⟩; have n0_ := Aside0.mk (Kd.R_below (by (with_reducible repeat (first | apply Kd.R_alloc | apply Kd.R_drewN | apply Kd.R_drew)); exact HO_13.out) hb); have n1_ := Aside0.mk (blk_below (g := gb349) (o := .cells #[.int .i64 a2_0, .int .i64 a2_1] 45 (0, 0)) (by (with_reducible repeat (first | refine blk_drewN ?_ _ | refine blk_drew ?_ | refine blk_alloc ?_ _)); exact BK349.out) hb); have n2_ := Aside0.mk (blk_below (g := gb356) (o := .cells #[.int .i64 t353, .int .i64 t354] 45 (0, 0)) (by (with_reducible repeat (first | refine blk_drewN ?_ _ | refine blk_drew ?_ | refine blk_alloc ?_ _)); exact BK356.out) hb); have n3_ := Aside0.mk (below_step (by repeat (first | (with_reducible first | exact HB.out | apply below_alloc | apply pw_below_drewN | apply below_drew1 | refine below_set ?_ GE349.out | refine below_set ?_ GE356.out) | exact HB.out)) hb); clear HO_13; clear BK349; clear BK356; clear HB; have HO_13 := n0_; have BK349 := n1_; have BK356 := n2_; have HB := n3_; clear n0_ n1_ n2_ n3_; (try clear hb); (try clear hb2); (try clear hk); (try clear hi)) | ((with_reducible refine gate_callee (f := 11) rfl ?_); refine goesL_ (some 159) rfl rfl Try.func11 (by kernel_rfl) rfl #[] rfl (by (try simp only [List.map_toArray, List.map_cons, List.map_nil]); first | done | rfl | (simp only [List.length_drop, List.length_take]; rfl)) ?_; (with_reducible refine (plenumlaw44_awake.calls  true _ A69.out).mono ?_); rintro e w155 ⟨rfl, hb⟩; refine ⟨_, rfl, ?_⟩; have n0_ := Aside0.mk (Kd.R_below (by (with_reducible repeat (first | apply Kd.R_alloc | apply Kd.R_drewN | apply Kd.R_drew)); exact HO_13.out) hb); have n1_ := Aside0.mk (blk_below (g := gb349) (o := .cells #[.int .i64 a2_0, .int .i64 a2_1] 45 (0, 0)) (by (with_reducible repeat (first | refine blk_drewN ?_ _ | refine blk_drew ?_ | refine blk_alloc ?_ _)); exact BK349.out) hb); have n2_ := Aside0.mk (blk_below (g := gb356) (o := .cells #[.int .i64 t353, .int .i64 t354] 45 (0, 0)) (by (with_reducible repeat (first | refine blk_drewN ?_ _ | refine blk_drew ?_ | refine blk_alloc ?_ _)); exact BK356.out) hb); have n3_ := Aside0.mk (below_step (by repeat (first | (with_reducible first | exact HB.out | apply below_alloc | apply pw_below_drewN | apply below_drew1 | refine below_set ?_ GE349.out | refine below_set ?_ GE356.out) | exact HB.out)) hb); clear HO_13; clear BK349; clear BK356; clear HB; have HO_13 := n0_; have BK349 := n1_; have BK356 := n2_; have HB := n3_; clear n0_ n1_ n2_ n3_; (try clear hb); (try clear hb2); (try clear hk); (try clear hi)))
             go_ret
             exact ⟨by first | rfl | (simp [errW_none, errW_some] <;> rfl) | (simp [*, errW_none, errW_some] <;> rfl), by repeat (first | (with_reducible first | exact HB.out | apply below_alloc | apply pw_below_drewN | apply below_drew1 | refine below_set ?_ GE349.out | refine below_set ?_ GE356.out) | exact HB.out)⟩
           ·
            rw [if_neg c72] at H
            have c72b0 : (t383 == t385) = false := beq_eq_false_iff_ne.mpr c72
            have c72b1 : (t383 != t385) = true := bne_iff_ne.mpr c72
            obtain rfl := Option.some.inj H
            go_wp2_with (first | ((with_reducible refine gate_callee (f := 23) rfl ?_); refine goesL_ (some 117) rfl rfl Try.func23 (by kernel_rfl) rfl #[.slice A0 l0.length c0, .int .i64 a3, .int .i64 a4] rfl (by (try simp only [List.map_toArray, List.map_cons, List.map_nil]); first | done | rfl | (simp only [List.length_drop, List.length_take]; rfl)) ?_; (with_reducible refine (stats_Integral.calls kj56 _ _ l0 a3 a4 t382 t383 _ ?side1 ?side2 A63.out).mono ?_); (case side1 => repeat (first | exact (Kd.C_below HR0.out HB.out) | (with_reducible refine Kd.C_alloc ?_ _) | (with_reducible refine Kd.C_drewN ?_ _) | (with_reducible refine Kd.C_drew ?_))); (case side2 => exact HC0.out); rintro e w156 ⟨rfl, hb⟩; refine ⟨_, rfl, ?_⟩; have n0_ := Aside0.mk (Kd.R_below (by (with_reducible repeat (first | apply Kd.R_alloc | apply Kd.R_drewN | apply Kd.R_drew)); exact HO_13.out) hb); have n1_ := Aside0.mk (blk_below (g := gb349) (o := .cells #[.int .i64 a2_0, .int .i64 a2_1] 45 (0, 0)) (by (with_reducible repeat (first | refine blk_drewN ?_ _ | refine blk_drew ?_ | refine blk_alloc ?_ _)); exact BK349.out) hb); have n2_ := Aside0.mk (blk_below (g := gb356) (o := .cells #[.int .i64 t353, .int .i64 t354] 45 (0, 0)) (by (with_reducible repeat (first | refine blk_drewN ?_ _ | refine blk_drew ?_ | refine blk_alloc ?_ _)); exact BK356.out) hb); have n3_ := Aside0.mk (below_step (by repeat (first | (with_reducible first | exact HB.out | apply below_alloc | apply pw_below_drewN | apply below_drew1 | refine below_set ?_ GE349.out | refine below_set ?_ GE356.out) | exact HB.out)) hb); clear HO_13; clear BK349; clear BK356; clear HB; have HO_13 := n0_; have BK349 := n1_; have BK356 := n2_; have HB := n3_; clear n0_ n1_ n2_ n3_; (try clear hb); (try clear hb2); (try clear hk); (try clear hi); obtain ⟨Ao157, co157, eo157⟩ := Kd.R_slice HO_13.out; subst eo157) | ((with_reducible refine gate_callee (f := 23) rfl ?_); refine goesL_ (some 124) rfl rfl Try.func23 (by kernel_rfl) rfl #[.slice Ao157 x13_56.length co157, .int .i64 a3, .int .i64 a4] rfl (by (try simp only [List.map_toArray, List.map_cons, List.map_nil]); first | done | rfl | (simp only [List.length_drop, List.length_take]; rfl)) ?_; (with_reducible refine (stats_Integral.calls kj56 _ _ x13_56 a3 a4 t384 t385 _ ?side1 ?side2 A64.out).mono ?_); (case side1 => repeat (first | exact (Kd.R_reads' HO_13.out).2.2 | (with_reducible refine Kd.C_alloc ?_ _) | (with_reducible refine Kd.C_drewN ?_ _) | (with_reducible refine Kd.C_drew ?_))); (case side2 => exact (Kd.R_reads' HO_13.out).2.1); rintro e w158 ⟨rfl, hb⟩; refine ⟨_, rfl, ?_⟩; have n0_ := Aside0.mk (Kd.R_below (by (with_reducible repeat (first | apply Kd.R_alloc | apply Kd.R_drewN | apply Kd.R_drew)); exact HO_13.out) hb); have n1_ := Aside0.mk (blk_below (g := gb349) (o := .cells #[.int .i64 a2_0, .int .i64 a2_1] 45 (0, 0)) (by (with_reducible repeat (first | refine blk_drewN ?_ _ | refine blk_drew ?_ | refine blk_alloc ?_ _)); exact BK349.out) hb); have n2_ := Aside0.mk (blk_below (g := gb356) (o := .cells #[.int .i64 t353, .int .i64 t354] 45 (0, 0)) (by (with_reducible repeat (first | refine blk_drewN ?_ _ | refine blk_drew ?_ | refine blk_alloc ?_ _)); exact BK356.out) hb); have n3_ := Aside0.mk (below_step (by repeat (first | (with_reducible first | exact HB.out | apply below_alloc | apply pw_below_drewN | apply below_drew1 | refine below_set ?_ GE349.out | refine below_set ?_ GE356.out) | exact HB.out)) hb); clear HO_13; clear BK349; clear BK356; clear HB; have HO_13 := n0_; have BK349 := n1_; have BK356 := n2_; have HB := n3_; clear n0_ n1_ n2_ n3_; (try clear hb); (try clear hb2); (try clear hk); (try clear hi); have hnb159 := NB349_356.out; have hnc159 := NB356_349.out; have hcz160_0 : w158.cell? ⟨gb349, 0, none⟩ = some (.int .i64 a2_0) := (blk_cell BK349.out 0).trans rfl; have hcz160_1 : w158.cell? ⟨gb349, 1, none⟩ = some (.int .i64 a2_1) := (blk_cell BK349.out 1).trans rfl; have hfz160_0 := blk_frozen BK349.out 0; have hfz160_1 := blk_frozen BK349.out 1) | ((with_reducible refine gate_callee (f := 24) rfl ?_); refine goesL_ (some 132) rfl rfl Try.func24 (by kernel_rfl) rfl #[.slice A0 l0.length c0, .agg #[.int .i64 a2_0, .int .i64 a2_1], .int .i64 a3, .int .i64 a4] rfl (by (try simp only [List.map_toArray, List.map_cons, List.map_nil]); first | done | rfl | (simp only [List.length_drop, List.length_take]; rfl)) ?_; (with_reducible refine (stats_Seconds.calls kj56 _ _ l0 a2_0 a2_1 a3 a4 t386 t387 _ ?side1 ?side2 A65.out).mono ?_); (case side1 => repeat (first | exact (Kd.C_below HR0.out HB.out) | (with_reducible refine Kd.C_alloc ?_ _) | (with_reducible refine Kd.C_drewN ?_ _) | (with_reducible refine Kd.C_drew ?_))); (case side2 => exact HC0.out); rintro e w161 ⟨rfl, hb⟩; refine ⟨_, rfl, ?_⟩; have n0_ := Aside0.mk (Kd.R_below (by (with_reducible repeat (first | apply Kd.R_alloc | apply Kd.R_drewN | apply Kd.R_drew)); exact HO_13.out) hb); have n1_ := Aside0.mk (blk_below (g := gb349) (o := .cells #[.int .i64 a2_0, .int .i64 a2_1] 45 (0, 0)) (by (with_reducible repeat (first | refine blk_drewN ?_ _ | refine blk_drew ?_ | refine blk_alloc ?_ _)); exact BK349.out) hb); have n2_ := Aside0.mk (blk_below (g := gb356) (o := .cells #[.int .i64 t353, .int .i64 t354] 45 (0, 0)) (by (with_reducible repeat (first | refine blk_drewN ?_ _ | refine blk_drew ?_ | refine blk_alloc ?_ _)); exact BK356.out) hb); have n3_ := Aside0.mk (below_step (by repeat (first | (with_reducible first | exact HB.out | apply below_alloc | apply pw_below_drewN | apply below_drew1 | refine below_set ?_ GE349.out | refine below_set ?_ GE356.out) | exact HB.out)) hb); clear HO_13; clear BK349; clear BK356; clear HB; have HO_13 := n0_; have BK349 := n1_; have BK356 := n2_; have HB := n3_; clear n0_ n1_ n2_ n3_; (try clear hb); (try clear hb2); (try clear hk); (try clear hi); have hcz162_0 : w161.cell? ⟨gb349, 0, none⟩ = some (.int .i64 a2_0) := (blk_cell BK349.out 0).trans rfl; have hcz162_1 : w161.cell? ⟨gb349, 1, none⟩ = some (.int .i64 a2_1) := (blk_cell BK349.out 1).trans rfl; have hfz162_0 := blk_frozen BK349.out 0; have hfz162_1 := blk_frozen BK349.out 1) | ((with_reducible refine gate_callee (f := 24) rfl ?_); refine goesL_ (some 140) rfl rfl Try.func24 (by kernel_rfl) rfl #[.slice Ao157 x13_56.length co157, .agg #[.int .i64 a2_0, .int .i64 a2_1], .int .i64 a3, .int .i64 a4] rfl (by (try simp only [List.map_toArray, List.map_cons, List.map_nil]); first | done | rfl | (simp only [List.length_drop, List.length_take]; rfl)) ?_; (with_reducible refine (stats_Seconds.calls kj56 _ _ x13_56 a2_0 a2_1 a3 a4 t388 t389 _ ?side1 ?side2 A66.out).mono ?_); (case side1 => repeat (first | exact (Kd.R_reads' HO_13.out).2.2 | (with_reducible refine Kd.C_alloc ?_ _) | (with_reducible refine Kd.C_drewN ?_ _) | (with_reducible refine Kd.C_drew ?_))); (case side2 => exact (Kd.R_reads' HO_13.out).2.1); rintro e w163 ⟨rfl, hb⟩; refine ⟨_, rfl, ?_⟩; have n0_ := Aside0.mk (Kd.R_below (by (with_reducible repeat (first | apply Kd.R_alloc | apply Kd.R_drewN | apply Kd.R_drew)); exact HO_13.out) hb); have n1_ := Aside0.mk (blk_below (g := gb349) (o := .cells #[.int .i64 a2_0, .int .i64 a2_1] 45 (0, 0)) (by (with_reducible repeat (first | refine blk_drewN ?_ _ | refine blk_drew ?_ | refine blk_alloc ?_ _)); exact BK349.out) hb); have n2_ := Aside0.mk (blk_below (g := gb356) (o := .cells #[.int .i64 t353, .int .i64 t354] 45 (0, 0)) (by (with_reducible repeat (first | refine blk_drewN ?_ _ | refine blk_drew ?_ | refine blk_alloc ?_ _)); exact BK356.out) hb); have n3_ := Aside0.mk (below_step (by repeat (first | (with_reducible first | exact HB.out | apply below_alloc | apply pw_below_drewN | apply below_drew1 | refine below_set ?_ GE349.out | refine below_set ?_ GE356.out) | exact HB.out)) hb); clear HO_13; clear BK349; clear BK356; clear HB; have HO_13 := n0_; have BK349 := n1_; have BK356 := n2_; have HB := n3_; clear n0_ n1_ n2_ n3_; (try clear hb); (try clear hb2); (try clear hk); (try clear hi); have hcz164_0 : w163.cell? ⟨gb349, 0, none⟩ = some (.int .i64 a2_0) := (blk_cell BK349.out 0).trans rfl; have hcz164_1 : w163.cell? ⟨gb349, 1, none⟩ = some (.int .i64 a2_1) := (blk_cell BK349.out 1).trans rfl; have hfz164_0 := blk_frozen BK349.out 0; have hfz164_1 := blk_frozen BK349.out 1) | ((with_reducible refine gate_callee (f := 25) rfl ?_); refine goesL_ (some 148) rfl rfl Try.func25 (by kernel_rfl) rfl #[.slice A0 l0.length c0, .agg #[.int .i64 a2_0, .int .i64 a2_1], .int .i64 a3, .int .i64 a4] rfl (by (try simp only [List.map_toArray, List.map_cons, List.map_nil]); first | done | rfl | (simp only [List.length_drop, List.length_take]; rfl)) ?_; (with_reducible refine (stats_Starts.calls kj56 _ _ l0 a2_0 a2_1 a3 a4 t390 t391 _ ?side1 ?side2 A67.out).mono ?_); (case side1 => repeat (first | exact (Kd.C_below HR0.out HB.out) | (with_reducible refine Kd.C_alloc ?_ _) | (with_reducible refine Kd.C_drewN ?_ _) | (with_reducible refine Kd.C_drew ?_))); (case side2 => exact HC0.out); rintro e w165 ⟨rfl, hb⟩; refine ⟨_, rfl, ?_⟩; have n0_ := Aside0.mk (Kd.R_below (by (with_reducible repeat (first | apply Kd.R_alloc | apply Kd.R_drewN | apply Kd.R_drew)); exact HO_13.out) hb); have n1_ := Aside0.mk (blk_below (g := gb349) (o := .cells #[.int .i64 a2_0, .int .i64 a2_1] 45 (0, 0)) (by (with_reducible repeat (first | refine blk_drewN ?_ _ | refine blk_drew ?_ | refine blk_alloc ?_ _)); exact BK349.out) hb); have n2_ := Aside0.mk (blk_below (g := gb356) (o := .cells #[.int .i64 t353, .int .i64 t354] 45 (0, 0)) (by (with_reducible repeat (first | refine blk_drewN ?_ _ | refine blk_drew ?_ | refine blk_alloc ?_ _)); exact BK356.out) hb); have n3_ := Aside0.mk (below_step (by repeat (first | (with_reducible first | exact HB.out | apply below_alloc | apply pw_below_drewN | apply below_drew1 | refine below_set ?_ GE349.out | refine below_set ?_ GE356.out) | exact HB.out)) hb); clear HO_13; clear BK349; clear BK356; clear HB; have HO_13 := n0_; have BK349 := n1_; have BK356 := n2_; have HB := n3_; clear n0_ n1_ n2_ n3_; (try clear hb); (try clear hb2); (try clear hk); (try clear hi); have hcz166_0 : w165.cell? ⟨gb349, 0, none⟩ = some (.int .i64 a2_0) := (blk_cell BK349.out 0).trans rfl; have hcz166_1 : w165.cell? ⟨gb349, 1, none⟩ = some (.int .i64 a2_1) := (blk_cell BK349.out 1).trans rfl; have hfz166_0 := blk_frozen BK349.out 0; have hfz166_1 := blk_frozen BK349.out 1) | ((with_reducible refine gate_callee (f := 25) rfl ?_); refine goesL_ (some 156) rfl rfl Try.func25 (by kernel_rfl) rfl #[.slice Ao157 x13_56.length co157, .agg #[.int .i64 a2_0, .int .i64 a2_1], .int .i64 a3, .int .i64 a4] rfl (by (try simp only [List.map_toArray, List.map_cons, List.map_nil]); first | done | rfl | (simp only [List.length_drop, List.length_take]; rfl)) ?_; (with_reducible refine (stats_Starts.calls kj56 _ _ x13_56 a2_0 a2_1 a3 a4 t392 t393 _ ?side1 ?side2 A68.out).mono ?_); (case side1 => repeat (first | exact (Kd.R_reads' HO_13.out).2.2 | (with_reducible refine Kd.C_alloc ?_ _) | (with_reducible refine Kd.C_drewN ?_ _) | (with_reducible refine Kd.C_drew ?_))); (case side2 => exact (Kd.R_reads' HO_13.out).2.1); rintro e w167 ⟨rfl, hb⟩; refine ⟨_, rfl, ?_⟩; have n0_ := Aside0.mk (Kd.R_below (by (with_reducible repeat (first | apply Kd.R_alloc | apply Kd.R_drewN | apply Kd.R_drew)); exact HO_13.out) hb); have n1_ := Aside0.mk (blk_below (g := gb349) (o := .cells #[.int .i64 a2_0, .int .i64 a2_1] 45 (0, 0)) (by (with_reducible repeat (first | refine blk_drewN ?_ _ | refine blk_drew ?_ | refine blk_alloc ?_ _)); exact BK349.out) hb); have n2_ := Aside0.mk (blk_below (g := gb356) (o := .cells #[.int .i64 t353, .int .i64 t354] 45 (0, 0)) (by (with_reducible repeat (first | refine blk_drewN ?_ _ | refine blk_drew ?_ | refine blk_alloc ?_ _)); exact BK356.out) hb); have n3_ := Aside0.mk (below_step (by repeat (first | (with_reducible first | exact HB.out | apply below_alloc | apply pw_below_drewN | apply below_drew1 | refine below_set ?_ GE349.out | refine below_set ?_ GE356.out) | exact HB.out)) hb); clear HO_13; clear BK349; clear BK356; clear HB; have HO_13 := n0_; have BK349 := n1_; have BK356 := n2_; have HB := n3_; clear n0_ n1_ n2_ n3_; (try clear hb); (try clear hb2); (try clear hk); (try clear hi)) | ((with_reducible refine gate_callee (f := 11) rfl ?_); refine goesL_ (some 159) rfl rfl Try.func11 (by kernel_rfl) rfl #[] rfl (by (try simp only [List.map_toArray, List.map_cons, List.map_nil]); first | done | rfl | (simp only [List.length_drop, List.length_take]; rfl)) ?_; (with_reducible refine (plenumlaw44_awake.calls  true _ A69.out).mono ?_); rintro e w168 ⟨rfl, hb⟩; refine ⟨_, rfl, ?_⟩; have n0_ := Aside0.mk (Kd.R_below (by (with_reducible repeat (first | apply Kd.R_alloc | apply Kd.R_drewN | apply Kd.R_drew)); exact HO_13.out) hb); have n1_ := Aside0.mk (blk_below (g := gb349) (o := .cells #[.int .i64 a2_0, .int .i64 a2_1] 45 (0, 0)) (by (with_reducible repeat (first | refine blk_drewN ?_ _ | refine blk_drew ?_ | refine blk_alloc ?_ _)); exact BK349.out) hb); have n2_ := Aside0.mk (blk_below (g := gb356) (o := .cells #[.int .i64 t353, .int .i64 t354] 45 (0, 0)) (by (with_reducible repeat (first | refine blk_drewN ?_ _ | refine blk_drew ?_ | refine blk_alloc ?_ _)); exact BK356.out) hb); have n3_ := Aside0.mk (below_step (by repeat (first | (with_reducible first | exact HB.out | apply below_alloc | apply pw_below_drewN | apply below_drew1 | refine below_set ?_ GE349.out | refine below_set ?_ GE356.out) | exact HB.out)) hb); clear HO_13; clear BK349; clear BK356; clear HB; have HO_13 := n0_; have BK349 := n1_; have BK356 := n2_; have HB := n3_; clear n0_ n1_ n2_ n3_; (try clear hb); (try clear hb2); (try clear hk); (try clear hi)))
            go_ret
            exact ⟨by first | rfl | (simp [errW_none, errW_some] <;> rfl) | (simp [*, errW_none, errW_some] <;> rfl), by repeat (first | (with_reducible first | exact HB.out | apply below_alloc | apply pw_below_drewN | apply below_drew1 | refine below_set ?_ GE349.out | refine below_set ?_ GE356.out) | exact HB.out)⟩
          ·
           rw [if_neg c71] at H
           have c71b0 : (t355 == 0) = false := beq_eq_false_iff_ne.mpr c71
           have c71b1 : (t355 != 0) = true := bne_iff_ne.mpr c71
           obtain rfl := Option.some.inj H
           go_wp2_with (first | ((with_reducible refine gate_callee (f := 23) rfl ?_); refine goesL_ (some 117) rfl rfl Try.func23 (by kernel_rfl) rfl #[.slice A0 l0.length c0, .int .i64 a3, .int .i64 a4] rfl (by (try simp only [List.map_toArray, List.map_cons, List.map_nil]); first | done | rfl | (simp only [List.length_drop, List.length_take]; rfl)) ?_; (with_reducible refine (stats_Integral.calls kj56 _ _ l0 a3 a4 t382 t383 _ ?side1 ?side2 A63.out).mono ?_); (case side1 => repeat (first | exact (Kd.C_below HR0.out HB.out) | (with_reducible refine Kd.C_alloc ?_ _) | (with_reducible refine Kd.C_drewN ?_ _) | (with_reducible refine Kd.C_drew ?_))); (case side2 => exact HC0.out); rintro e w169 ⟨rfl, hb⟩; refine ⟨_, rfl, ?_⟩; have n0_ := Aside0.mk (Kd.R_below (by (with_reducible repeat (first | apply Kd.R_alloc | apply Kd.R_drewN | apply Kd.R_drew)); exact HO_13.out) hb); have n1_ := Aside0.mk (blk_below (g := gb349) (o := .cells #[.int .i64 a2_0, .int .i64 a2_1] 45 (0, 0)) (by (with_reducible repeat (first | refine blk_drewN ?_ _ | refine blk_drew ?_ | refine blk_alloc ?_ _)); exact BK349.out) hb); have n2_ := Aside0.mk (blk_below (g := gb356) (o := .cells #[.int .i64 t353, .int .i64 t354] 45 (0, 0)) (by (with_reducible repeat (first | refine blk_drewN ?_ _ | refine blk_drew ?_ | refine blk_alloc ?_ _)); exact BK356.out) hb); have n3_ := Aside0.mk (below_step (by repeat (first | (with_reducible first | exact HB.out | apply below_alloc | apply pw_below_drewN | apply below_drew1 | refine below_set ?_ GE349.out | refine below_set ?_ GE356.out) | exact HB.out)) hb); clear HO_13; clear BK349; clear BK356; clear HB; have HO_13 := n0_; have BK349 := n1_; have BK356 := n2_; have HB := n3_; clear n0_ n1_ n2_ n3_; (try clear hb); (try clear hb2); (try clear hk); (try clear hi); obtain ⟨Ao170, co170, eo170⟩ := Kd.R_slice HO_13.out; subst eo170) | ((with_reducible refine gate_callee (f := 23) rfl ?_); refine goesL_ (some 124) rfl rfl Try.func23 (by kernel_rfl) rfl #[.slice Ao170 x13_56.length co170, .int .i64 a3, .int .i64 a4] rfl (by (try simp only [List.map_toArray, List.map_cons, List.map_nil]); first | done | rfl | (simp only [List.length_drop, List.length_take]; rfl)) ?_; (with_reducible refine (stats_Integral.calls kj56 _ _ x13_56 a3 a4 t384 t385 _ ?side1 ?side2 A64.out).mono ?_); (case side1 => repeat (first | exact (Kd.R_reads' HO_13.out).2.2 | (with_reducible refine Kd.C_alloc ?_ _) | (with_reducible refine Kd.C_drewN ?_ _) | (with_reducible refine Kd.C_drew ?_))); (case side2 => exact (Kd.R_reads' HO_13.out).2.1); rintro e w171 ⟨rfl, hb⟩; refine ⟨_, rfl, ?_⟩; have n0_ := Aside0.mk (Kd.R_below (by (with_reducible repeat (first | apply Kd.R_alloc | apply Kd.R_drewN | apply Kd.R_drew)); exact HO_13.out) hb); have n1_ := Aside0.mk (blk_below (g := gb349) (o := .cells #[.int .i64 a2_0, .int .i64 a2_1] 45 (0, 0)) (by (with_reducible repeat (first | refine blk_drewN ?_ _ | refine blk_drew ?_ | refine blk_alloc ?_ _)); exact BK349.out) hb); have n2_ := Aside0.mk (blk_below (g := gb356) (o := .cells #[.int .i64 t353, .int .i64 t354] 45 (0, 0)) (by (with_reducible repeat (first | refine blk_drewN ?_ _ | refine blk_drew ?_ | refine blk_alloc ?_ _)); exact BK356.out) hb); have n3_ := Aside0.mk (below_step (by repeat (first | (with_reducible first | exact HB.out | apply below_alloc | apply pw_below_drewN | apply below_drew1 | refine below_set ?_ GE349.out | refine below_set ?_ GE356.out) | exact HB.out)) hb); clear HO_13; clear BK349; clear BK356; clear HB; have HO_13 := n0_; have BK349 := n1_; have BK356 := n2_; have HB := n3_; clear n0_ n1_ n2_ n3_; (try clear hb); (try clear hb2); (try clear hk); (try clear hi); have hnb172 := NB349_356.out; have hnc172 := NB356_349.out; have hcz173_0 : w171.cell? ⟨gb349, 0, none⟩ = some (.int .i64 a2_0) := (blk_cell BK349.out 0).trans rfl; have hcz173_1 : w171.cell? ⟨gb349, 1, none⟩ = some (.int .i64 a2_1) := (blk_cell BK349.out 1).trans rfl; have hfz173_0 := blk_frozen BK349.out 0; have hfz173_1 := blk_frozen BK349.out 1) | ((with_reducible refine gate_callee (f := 24) rfl ?_); refine goesL_ (some 132) rfl rfl Try.func24 (by kernel_rfl) rfl #[.slice A0 l0.length c0, .agg #[.int .i64 a2_0, .int .i64 a2_1], .int .i64 a3, .int .i64 a4] rfl (by (try simp only [List.map_toArray, List.map_cons, List.map_nil]); first | done | rfl | (simp only [List.length_drop, List.length_take]; rfl)) ?_; (with_reducible refine (stats_Seconds.calls kj56 _ _ l0 a2_0 a2_1 a3 a4 t386 t387 _ ?side1 ?side2 A65.out).mono ?_); (case side1 => repeat (first | exact (Kd.C_below HR0.out HB.out) | (with_reducible refine Kd.C_alloc ?_ _) | (with_reducible refine Kd.C_drewN ?_ _) | (with_reducible refine Kd.C_drew ?_))); (case side2 => exact HC0.out); rintro e w174 ⟨rfl, hb⟩; refine ⟨_, rfl, ?_⟩; have n0_ := Aside0.mk (Kd.R_below (by (with_reducible repeat (first | apply Kd.R_alloc | apply Kd.R_drewN | apply Kd.R_drew)); exact HO_13.out) hb); have n1_ := Aside0.mk (blk_below (g := gb349) (o := .cells #[.int .i64 a2_0, .int .i64 a2_1] 45 (0, 0)) (by (with_reducible repeat (first | refine blk_drewN ?_ _ | refine blk_drew ?_ | refine blk_alloc ?_ _)); exact BK349.out) hb); have n2_ := Aside0.mk (blk_below (g := gb356) (o := .cells #[.int .i64 t353, .int .i64 t354] 45 (0, 0)) (by (with_reducible repeat (first | refine blk_drewN ?_ _ | refine blk_drew ?_ | refine blk_alloc ?_ _)); exact BK356.out) hb); have n3_ := Aside0.mk (below_step (by repeat (first | (with_reducible first | exact HB.out | apply below_alloc | apply pw_below_drewN | apply below_drew1 | refine below_set ?_ GE349.out | refine below_set ?_ GE356.out) | exact HB.out)) hb); clear HO_13; clear BK349; clear BK356; clear HB; have HO_13 := n0_; have BK349 := n1_; have BK356 := n2_; have HB := n3_; clear n0_ n1_ n2_ n3_; (try clear hb); (try clear hb2); (try clear hk); (try clear hi); have hcz175_0 : w174.cell? ⟨gb349, 0, none⟩ = some (.int .i64 a2_0) := (blk_cell BK349.out 0).trans rfl; have hcz175_1 : w174.cell? ⟨gb349, 1, none⟩ = some (.int .i64 a2_1) := (blk_cell BK349.out 1).trans rfl; have hfz175_0 := blk_frozen BK349.out 0; have hfz175_1 := blk_frozen BK349.out 1) | ((with_reducible refine gate_callee (f := 24) rfl ?_); refine goesL_ (some 140) rfl rfl Try.func24 (by kernel_rfl) rfl #[.slice Ao170 x13_56.length co170, .agg #[.int .i64 a2_0, .int .i64 a2_1], .int .i64 a3, .int .i64 a4] rfl (by (try simp only [List.map_toArray, List.map_cons, List.map_nil]); first | done | rfl | (simp only [List.length_drop, List.length_take]; rfl)) ?_; (with_reducible refine (stats_Seconds.calls kj56 _ _ x13_56 a2_0 a2_1 a3 a4 t388 t389 _ ?side1 ?side2 A66.out).mono ?_); (case side1 => repeat (first | exact (Kd.R_reads' HO_13.out).2.2 | (with_reducible refine Kd.C_alloc ?_ _) | (with_reducible refine Kd.C_drewN ?_ _) | (with_reducible refine Kd.C_drew ?_))); (case side2 => exact (Kd.R_reads' HO_13.out).2.1); rintro e w176 ⟨rfl, hb⟩; refine ⟨_, rfl, ?_⟩; have n0_ := Aside0.mk (Kd.R_below (by (with_reducible repeat (first | apply Kd.R_alloc | apply Kd.R_drewN | apply Kd.R_drew)); exact HO_13.out) hb); have n1_ := Aside0.mk (blk_below (g := gb349) (o := .cells #[.int .i64 a2_0, .int .i64 a2_1] 45 (0, 0)) (by (with_reducible repeat (first | refine blk_drewN ?_ _ | refine blk_drew ?_ | refine blk_alloc ?_ _)); exact BK349.out) hb); have n2_ := Aside0.mk (blk_below (g := gb356) (o := .cells #[.int .i64 t353, .int .i64 t354] 45 (0, 0)) (by (with_reducible repeat (first | refine blk_drewN ?_ _ | refine blk_drew ?_ | refine blk_alloc ?_ _)); exact BK356.out) hb); have n3_ := Aside0.mk (below_step (by repeat (first | (with_reducible first | exact HB.out | apply below_alloc | apply pw_below_drewN | apply below_drew1 | refine below_set ?_ GE349.out | refine below_set ?_ GE356.out) | exact HB.out)) hb); clear HO_13; clear BK349; clear BK356; clear HB; have HO_13 := n0_; have BK349 := n1_; have BK356 := n2_; have HB := n3_; clear n0_ n1_ n2_ n3_; (try clear hb); (try clear hb2); (try clear hk); (try clear hi); have hcz177_0 : w176.cell? ⟨gb349, 0, none⟩ = some (.int .i64 a2_0) := (blk_cell BK349.out 0).trans rfl; have hcz177_1 : w176.cell? ⟨gb349, 1, none⟩ = some (.int .i64 a2_1) := (blk_cell BK349.out 1).trans rfl; have hfz177_0 := blk_frozen BK349.out 0; have hfz177_1 := blk_frozen BK349.out 1) | ((with_reducible refine gate_callee (f := 25) rfl ?_); refine goesL_ (some 148) rfl rfl Try.func25 (by kernel_rfl) rfl #[.slice A0 l0.length c0, .agg #[.int .i64 a2_0, .int .i64 a2_1], .int .i64 a3, .int .i64 a4] rfl (by (try simp only [List.map_toArray, List.map_cons, List.map_nil]); first | done | rfl | (simp only [List.length_drop, List.length_take]; rfl)) ?_; (with_reducible refine (stats_Starts.calls kj56 _ _ l0 a2_0 a2_1 a3 a4 t390 t391 _ ?side1 ?side2 A67.out).mono ?_); (case side1 => repeat (first | exact (Kd.C_below HR0.out HB.out) | (with_reducible refine Kd.C_alloc ?_ _) | (with_reducible refine Kd.C_drewN ?_ _) | (with_reducible refine Kd.C_drew ?_))); (case side2 => exact HC0.out); rintro e w178 ⟨rfl, hb⟩; refine ⟨_, rfl, ?_⟩; have n0_ := Aside0.mk (Kd.R_below (by (with_reducible repeat (first | apply Kd.R_alloc | apply Kd.R_drewN | apply Kd.R_drew)); exact HO_13.out) hb); have n1_ := Aside0.mk (blk_below (g := gb349) (o := .cells #[.int .i64 a2_0, .int .i64 a2_1] 45 (0, 0)) (by (with_reducible repeat (first | refine blk_drewN ?_ _ | refine blk_drew ?_ | refine blk_alloc ?_ _)); exact BK349.out) hb); have n2_ := Aside0.mk (blk_below (g := gb356) (o := .cells #[.int .i64 t353, .int .i64 t354] 45 (0, 0)) (by (with_reducible repeat (first | refine blk_drewN ?_ _ | refine blk_drew ?_ | refine blk_alloc ?_ _)); exact BK356.out) hb); have n3_ := Aside0.mk (below_step (by repeat (first | (with_reducible first | exact HB.out | apply below_alloc | apply pw_below_drewN | apply below_drew1 | refine below_set ?_ GE349.out | refine below_set ?_ GE356.out) | exact HB.out)) hb); clear HO_13; clear BK349; clear BK356; clear HB; have HO_13 := n0_; have BK349 := n1_; have BK356 := n2_; have HB := n3_; clear n0_ n1_ n2_ n3_; (try clear hb); (try clear hb2); (try clear hk); (try clear hi); have hcz179_0 : w178.cell? ⟨gb349, 0, none⟩ = some (.int .i64 a2_0) := (blk_cell BK349.out 0).trans rfl; have hcz179_1 : w178.cell? ⟨gb349, 1, none⟩ = some (.int .i64 a2_1) := (blk_cell BK349.out 1).trans rfl; have hfz179_0 := blk_frozen BK349.out 0; have hfz179_1 := blk_frozen BK349.out 1) | ((with_reducible refine gate_callee (f := 25) rfl ?_); refine goesL_ (some 156) rfl rfl Try.func25 (by kernel_rfl) rfl #[.slice Ao170 x13_56.length co170, .agg #[.int .i64 a2_0, .int .i64 a2_1], .int .i64 a3, .int .i64 a4] rfl (by (try simp only [List.map_toArray, List.map_cons, List.map_nil]); first | done | rfl | (simp only [List.length_drop, List.length_take]; rfl)) ?_; (with_reducible refine (stats_Starts.calls kj56 _ _ x13_56 a2_0 a2_1 a3 a4 t392 t393 _ ?side1 ?side2 A68.out).mono ?_); (case side1 => repeat (first | exact (Kd.R_reads' HO_13.out).2.2 | (with_reducible refine Kd.C_alloc ?_ _) | (with_reducible refine Kd.C_drewN ?_ _) | (with_reducible refine Kd.C_drew ?_))); (case side2 => exact (Kd.R_reads' HO_13.out).2.1); rintro e w180 ⟨rfl, hb⟩; refine ⟨_, rfl, ?_⟩; have n0_ := Aside0.mk (Kd.R_below (by (with_reducible repeat (first | apply Kd.R_alloc | apply Kd.R_drewN | apply Kd.R_drew)); exact HO_13.out) hb); have n1_ := Aside0.mk (blk_below (g := gb349) (o := .cells #[.int .i64 a2_0, .int .i64 a2_1] 45 (0, 0)) (by (with_reducible repeat (first | refine blk_drewN ?_ _ | refine blk_drew ?_ | refine blk_alloc ?_ _)); exact BK349.out) hb); have n2_ := Aside0.mk (blk_below (g := gb356) (o := .cells #[.int .i64 t353, .int .i64 t354] 45 (0, 0)) (by (with_reducible repeat (first | refine blk_drewN ?_ _ | refine blk_drew ?_ | refine blk_alloc ?_ _)); exact BK356.out) hb); have n3_ := Aside0.mk (below_step (by repeat (first | (with_reducible first | exact HB.out | apply below_alloc | apply pw_below_drewN | apply below_drew1 | refine below_set ?_ GE349.out | refine below_set ?_ GE356.out) | exact HB.out)) hb); clear HO_13; clear BK349; clear BK356; clear HB; have HO_13 := n0_; have BK349 := n1_; have BK356 := n2_; have HB := n3_; clear n0_ n1_ n2_ n3_; (try clear hb); (try clear hb2); (try clear hk); (try clear hi)) | ((with_reducible refine gate_callee (f := 11) rfl ?_); refine goesL_ (some 159) rfl rfl Try.func11 (by kernel_rfl) rfl #[] rfl (by (try simp only [List.map_toArray, List.map_cons, List.map_nil]); first | done | rfl | (simp only [List.length_drop, List.length_take]; rfl)) ?_; (with_reducible refine (plenumlaw44_awake.calls  true _ A69.out).mono ?_); rintro e w181 ⟨rfl, hb⟩; refine ⟨_, rfl, ?_⟩; have n0_ := Aside0.mk (Kd.R_below (by (with_reducible repeat (first | apply Kd.R_alloc | apply Kd.R_drewN | apply Kd.R_drew)); exact HO_13.out) hb); have n1_ := Aside0.mk (blk_below (g := gb349) (o := .cells #[.int .i64 a2_0, .int .i64 a2_1] 45 (0, 0)) (by (with_reducible repeat (first | refine blk_drewN ?_ _ | refine blk_drew ?_ | refine blk_alloc ?_ _)); exact BK349.out) hb); have n2_ := Aside0.mk (blk_below (g := gb356) (o := .cells #[.int .i64 t353, .int .i64 t354] 45 (0, 0)) (by (with_reducible repeat (first | refine blk_drewN ?_ _ | refine blk_drew ?_ | refine blk_alloc ?_ _)); exact BK356.out) hb); have n3_ := Aside0.mk (below_step (by repeat (first | (with_reducible first | exact HB.out | apply below_alloc | apply pw_below_drewN | apply below_drew1 | refine below_set ?_ GE349.out | refine below_set ?_ GE356.out) | exact HB.out)) hb); clear HO_13; clear BK349; clear BK356; clear HB; have HO_13 := n0_; have BK349 := n1_; have BK356 := n2_; have HB := n3_; clear n0_ n1_ n2_ n3_; (try clear hb); (try clear hb2); (try clear hk); (try clear hi)))
           go_ret
           exact ⟨by first | rfl | (simp [errW_none, errW_some] <;> rfl) | (simp [*, errW_none, errW_some] <;> rfl), by repeat (first | (with_reducible first | exact HB.out | apply below_alloc | apply pw_below_drewN | apply below_drew1 | refine below_set ?_ GE349.out | refine below_set ?_ GE356.out) | exact HB.out)⟩
         ·
          replace c70 := Bool.eq_false_iff.mpr c70
          subst c70
          have H1 : (some false) = some r := by rw [if_neg (show ¬ (false = true) by decide)] at H; exact H
          clear H
          have H := H1
          clear H1
          obtain rfl := Option.some.inj H
          go_wp2_with (first | ((with_reducible refine gate_callee (f := 23) rfl ?_); refine goesL_ (some 117) rfl rfl Try.func23 (by kernel_rfl) rfl #[.slice A0 l0.length c0, .int .i64 a3, .int .i64 a4] rfl (by (try simp only [List.map_toArray, List.map_cons, List.map_nil]); first | done | rfl | (simp only [List.length_drop, List.length_take]; rfl)) ?_; (with_reducible refine (stats_Integral.calls kj56 _ _ l0 a3 a4 t382 t383 _ ?side1 ?side2 A63.out).mono ?_); (case side1 => repeat (first | exact (Kd.C_below HR0.out HB.out) | (with_reducible refine Kd.C_alloc ?_ _) | (with_reducible refine Kd.C_drewN ?_ _) | (with_reducible refine Kd.C_drew ?_))); (case side2 => exact HC0.out); rintro e w182 ⟨rfl, hb⟩; refine ⟨_, rfl, ?_⟩; have n0_ := Aside0.mk (Kd.R_below (by (with_reducible repeat (first | apply Kd.R_alloc | apply Kd.R_drewN | apply Kd.R_drew)); exact HO_13.out) hb); have n1_ := Aside0.mk (blk_below (g := gb349) (o := .cells #[.int .i64 a2_0, .int .i64 a2_1] 45 (0, 0)) (by (with_reducible repeat (first | refine blk_drewN ?_ _ | refine blk_drew ?_ | refine blk_alloc ?_ _)); exact BK349.out) hb); have n2_ := Aside0.mk (blk_below (g := gb356) (o := .cells #[.int .i64 t353, .int .i64 t354] 45 (0, 0)) (by (with_reducible repeat (first | refine blk_drewN ?_ _ | refine blk_drew ?_ | refine blk_alloc ?_ _)); exact BK356.out) hb); have n3_ := Aside0.mk (below_step (by repeat (first | (with_reducible first | exact HB.out | apply below_alloc | apply pw_below_drewN | apply below_drew1 | refine below_set ?_ GE349.out | refine below_set ?_ GE356.out) | exact HB.out)) hb); clear HO_13; clear BK349; clear BK356; clear HB; have HO_13 := n0_; have BK349 := n1_; have BK356 := n2_; have HB := n3_; clear n0_ n1_ n2_ n3_; (try clear hb); (try clear hb2); (try clear hk); (try clear hi); obtain ⟨Ao183, co183, eo183⟩ := Kd.R_slice HO_13.out; subst eo183) | ((with_reducible refine gate_callee (f := 23) rfl ?_); refine goesL_ (some 124) rfl rfl Try.func23 (by kernel_rfl) rfl #[.slice Ao183 x13_56.length co183, .int .i64 a3, .int .i64 a4] rfl (by (try simp only [List.map_toArray, List.map_cons, List.map_nil]); first | done | rfl | (simp only [List.length_drop, List.length_take]; rfl)) ?_; (with_reducible refine (stats_Integral.calls kj56 _ _ x13_56 a3 a4 t384 t385 _ ?side1 ?side2 A64.out).mono ?_); (case side1 => repeat (first | exact (Kd.R_reads' HO_13.out).2.2 | (with_reducible refine Kd.C_alloc ?_ _) | (with_reducible refine Kd.C_drewN ?_ _) | (with_reducible refine Kd.C_drew ?_))); (case side2 => exact (Kd.R_reads' HO_13.out).2.1); rintro e w184 ⟨rfl, hb⟩; refine ⟨_, rfl, ?_⟩; have n0_ := Aside0.mk (Kd.R_below (by (with_reducible repeat (first | apply Kd.R_alloc | apply Kd.R_drewN | apply Kd.R_drew)); exact HO_13.out) hb); have n1_ := Aside0.mk (blk_below (g := gb349) (o := .cells #[.int .i64 a2_0, .int .i64 a2_1] 45 (0, 0)) (by (with_reducible repeat (first | refine blk_drewN ?_ _ | refine blk_drew ?_ | refine blk_alloc ?_ _)); exact BK349.out) hb); have n2_ := Aside0.mk (blk_below (g := gb356) (o := .cells #[.int .i64 t353, .int .i64 t354] 45 (0, 0)) (by (with_reducible repeat (first | refine blk_drewN ?_ _ | refine blk_drew ?_ | refine blk_alloc ?_ _)); exact BK356.out) hb); have n3_ := Aside0.mk (below_step (by repeat (first | (with_reducible first | exact HB.out | apply below_alloc | apply pw_below_drewN | apply below_drew1 | refine below_set ?_ GE349.out | refine below_set ?_ GE356.out) | exact HB.out)) hb); clear HO_13; clear BK349; clear BK356; clear HB; have HO_13 := n0_; have BK349 := n1_; have BK356 := n2_; have HB := n3_; clear n0_ n1_ n2_ n3_; (try clear hb); (try clear hb2); (try clear hk); (try clear hi); have hnb185 := NB349_356.out; have hnc185 := NB356_349.out; have hcz186_0 : w184.cell? ⟨gb349, 0, none⟩ = some (.int .i64 a2_0) := (blk_cell BK349.out 0).trans rfl; have hcz186_1 : w184.cell? ⟨gb349, 1, none⟩ = some (.int .i64 a2_1) := (blk_cell BK349.out 1).trans rfl; have hfz186_0 := blk_frozen BK349.out 0; have hfz186_1 := blk_frozen BK349.out 1) | ((with_reducible refine gate_callee (f := 24) rfl ?_); refine goesL_ (some 132) rfl rfl Try.func24 (by kernel_rfl) rfl #[.slice A0 l0.length c0, .agg #[.int .i64 a2_0, .int .i64 a2_1], .int .i64 a3, .int .i64 a4] rfl (by (try simp only [List.map_toArray, List.map_cons, List.map_nil]); first | done | rfl | (simp only [List.length_drop, List.length_take]; rfl)) ?_; (with_reducible refine (stats_Seconds.calls kj56 _ _ l0 a2_0 a2_1 a3 a4 t386 t387 _ ?side1 ?side2 A65.out).mono ?_); (case side1 => repeat (first | exact (Kd.C_below HR0.out HB.out) | (with_reducible refine Kd.C_alloc ?_ _) | (with_reducible refine Kd.C_drewN ?_ _) | (with_reducible refine Kd.C_drew ?_))); (case side2 => exact HC0.out); rintro e w187 ⟨rfl, hb⟩; refine ⟨_, rfl, ?_⟩; have n0_ := Aside0.mk (Kd.R_below (by (with_reducible repeat (first | apply Kd.R_alloc | apply Kd.R_drewN | apply Kd.R_drew)); exact HO_13.out) hb); have n1_ := Aside0.mk (blk_below (g := gb349) (o := .cells #[.int .i64 a2_0, .int .i64 a2_1] 45 (0, 0)) (by (with_reducible repeat (first | refine blk_drewN ?_ _ | refine blk_drew ?_ | refine blk_alloc ?_ _)); exact BK349.out) hb); have n2_ := Aside0.mk (blk_below (g := gb356) (o := .cells #[.int .i64 t353, .int .i64 t354] 45 (0, 0)) (by (with_reducible repeat (first | refine blk_drewN ?_ _ | refine blk_drew ?_ | refine blk_alloc ?_ _)); exact BK356.out) hb); have n3_ := Aside0.mk (below_step (by repeat (first | (with_reducible first | exact HB.out | apply below_alloc | apply pw_below_drewN | apply below_drew1 | refine below_set ?_ GE349.out | refine below_set ?_ GE356.out) | exact HB.out)) hb); clear HO_13; clear BK349; clear BK356; clear HB; have HO_13 := n0_; have BK349 := n1_; have BK356 := n2_; have HB := n3_; clear n0_ n1_ n2_ n3_; (try clear hb); (try clear hb2); (try clear hk); (try clear hi); have hcz188_0 : w187.cell? ⟨gb349, 0, none⟩ = some (.int .i64 a2_0) := (blk_cell BK349.out 0).trans rfl; have hcz188_1 : w187.cell? ⟨gb349, 1, none⟩ = some (.int .i64 a2_1) := (blk_cell BK349.out 1).trans rfl; have hfz188_0 := blk_frozen BK349.out 0; have hfz188_1 := blk_frozen BK349.out 1) | ((with_reducible refine gate_callee (f := 24) rfl ?_); refine goesL_ (some 140) rfl rfl Try.func24 (by kernel_rfl) rfl #[.slice Ao183 x13_56.length co183, .agg #[.int .i64 a2_0, .int .i64 a2_1], .int .i64 a3, .int .i64 a4] rfl (by (try simp only [List.map_toArray, List.map_cons, List.map_nil]); first | done | rfl | (simp only [List.length_drop, List.length_take]; rfl)) ?_; (with_reducible refine (stats_Seconds.calls kj56 _ _ x13_56 a2_0 a2_1 a3 a4 t388 t389 _ ?side1 ?side2 A66.out).mono ?_); (case side1 => repeat (first | exact (Kd.R_reads' HO_13.out).2.2 | (with_reducible refine Kd.C_alloc ?_ _) | (with_reducible refine Kd.C_drewN ?_ _) | (with_reducible refine Kd.C_drew ?_))); (case side2 => exact (Kd.R_reads' HO_13.out).2.1); rintro e w189 ⟨rfl, hb⟩; refine ⟨_, rfl, ?_⟩; have n0_ := Aside0.mk (Kd.R_below (by (with_reducible repeat (first | apply Kd.R_alloc | apply Kd.R_drewN | apply Kd.R_drew)); exact HO_13.out) hb); have n1_ := Aside0.mk (blk_below (g := gb349) (o := .cells #[.int .i64 a2_0, .int .i64 a2_1] 45 (0, 0)) (by (with_reducible repeat (first | refine blk_drewN ?_ _ | refine blk_drew ?_ | refine blk_alloc ?_ _)); exact BK349.out) hb); have n2_ := Aside0.mk (blk_below (g := gb356) (o := .cells #[.int .i64 t353, .int .i64 t354] 45 (0, 0)) (by (with_reducible repeat (first | refine blk_drewN ?_ _ | refine blk_drew ?_ | refine blk_alloc ?_ _)); exact BK356.out) hb); have n3_ := Aside0.mk (below_step (by repeat (first | (with_reducible first | exact HB.out | apply below_alloc | apply pw_below_drewN | apply below_drew1 | refine below_set ?_ GE349.out | refine below_set ?_ GE356.out) | exact HB.out)) hb); clear HO_13; clear BK349; clear BK356; clear HB; have HO_13 := n0_; have BK349 := n1_; have BK356 := n2_; have HB := n3_; clear n0_ n1_ n2_ n3_; (try clear hb); (try clear hb2); (try clear hk); (try clear hi); have hcz190_0 : w189.cell? ⟨gb349, 0, none⟩ = some (.int .i64 a2_0) := (blk_cell BK349.out 0).trans rfl; have hcz190_1 : w189.cell? ⟨gb349, 1, none⟩ = some (.int .i64 a2_1) := (blk_cell BK349.out 1).trans rfl; have hfz190_0 := blk_frozen BK349.out 0; have hfz190_1 := blk_frozen BK349.out 1) | ((with_reducible refine gate_callee (f := 25) rfl ?_); refine goesL_ (some 148) rfl rfl Try.func25 (by kernel_rfl) rfl #[.slice A0 l0.length c0, .agg #[.int .i64 a2_0, .int .i64 a2_1], .int .i64 a3, .int .i64 a4] rfl (by (try simp only [List.map_toArray, List.map_cons, List.map_nil]); first | done | rfl | (simp only [List.length_drop, List.length_take]; rfl)) ?_; (with_reducible refine (stats_Starts.calls kj56 _ _ l0 a2_0 a2_1 a3 a4 t390 t391 _ ?side1 ?side2 A67.out).mono ?_); (case side1 => repeat (first | exact (Kd.C_below HR0.out HB.out) | (with_reducible refine Kd.C_alloc ?_ _) | (with_reducible refine Kd.C_drewN ?_ _) | (with_reducible refine Kd.C_drew ?_))); (case side2 => exact HC0.out); rintro e w191 ⟨rfl, hb⟩; refine ⟨_, rfl, ?_⟩; have n0_ := Aside0.mk (Kd.R_below (by (with_reducible repeat (first | apply Kd.R_alloc | apply Kd.R_drewN | apply Kd.R_drew)); exact HO_13.out) hb); have n1_ := Aside0.mk (blk_below (g := gb349) (o := .cells #[.int .i64 a2_0, .int .i64 a2_1] 45 (0, 0)) (by (with_reducible repeat (first | refine blk_drewN ?_ _ | refine blk_drew ?_ | refine blk_alloc ?_ _)); exact BK349.out) hb); have n2_ := Aside0.mk (blk_below (g := gb356) (o := .cells #[.int .i64 t353, .int .i64 t354] 45 (0, 0)) (by (with_reducible repeat (first | refine blk_drewN ?_ _ | refine blk_drew ?_ | refine blk_alloc ?_ _)); exact BK356.out) hb); have n3_ := Aside0.mk (below_step (by repeat (first | (with_reducible first | exact HB.out | apply below_alloc | apply pw_below_drewN | apply below_drew1 | refine below_set ?_ GE349.out | refine below_set ?_ GE356.out) | exact HB.out)) hb); clear HO_13; clear BK349; clear BK356; clear HB; have HO_13 := n0_; have BK349 := n1_; have BK356 := n2_; have HB := n3_; clear n0_ n1_ n2_ n3_; (try clear hb); (try clear hb2); (try clear hk); (try clear hi); have hcz192_0 : w191.cell? ⟨gb349, 0, none⟩ = some (.int .i64 a2_0) := (blk_cell BK349.out 0).trans rfl; have hcz192_1 : w191.cell? ⟨gb349, 1, none⟩ = some (.int .i64 a2_1) := (blk_cell BK349.out 1).trans rfl; have hfz192_0 := blk_frozen BK349.out 0; have hfz192_1 := blk_frozen BK349.out 1) | ((with_reducible refine gate_callee (f := 25) rfl ?_); refine goesL_ (some 156) rfl rfl Try.func25 (by kernel_rfl) rfl #[.slice Ao183 x13_56.length co183, .agg #[.int .i64 a2_0, .int .i64 a2_1], .int .i64 a3, .int .i64 a4] rfl (by (try simp only [List.map_toArray, List.map_cons, List.map_nil]); first | done | rfl | (simp only [List.length_drop, List.length_take]; rfl)) ?_; (with_reducible refine (stats_Starts.calls kj56 _ _ x13_56 a2_0 a2_1 a3 a4 t392 t393 _ ?side1 ?side2 A68.out).mono ?_); (case side1 => repeat (first | exact (Kd.R_reads' HO_13.out).2.2 | (with_reducible refine Kd.C_alloc ?_ _) | (with_reducible refine Kd.C_drewN ?_ _) | (with_reducible refine Kd.C_drew ?_))); (case side2 => exact (Kd.R_reads' HO_13.out).2.1); rintro e w193 ⟨rfl, hb⟩; refine ⟨_, rfl, ?_⟩; have n0_ := Aside0.mk (Kd.R_below (by (with_reducible repeat (first | apply Kd.R_alloc | apply Kd.R_drewN | apply Kd.R_drew)); exact HO_13.out) hb); have n1_ := Aside0.mk (blk_below (g := gb349) (o := .cells #[.int .i64 a2_0, .int .i64 a2_1] 45 (0, 0)) (by (with_reducible repeat (first | refine blk_drewN ?_ _ | refine blk_drew ?_ | refine blk_alloc ?_ _)); exact BK349.out) hb); have n2_ := Aside0.mk (blk_below (g := gb356) (o := .cells #[.int .i64 t353, .int .i64 t354] 45 (0, 0)) (by (with_reducible repeat (first | refine blk_drewN ?_ _ | refine blk_drew ?_ | refine blk_alloc ?_ _)); exact BK356.out) hb); have n3_ := Aside0.mk (below_step (by repeat (first | (with_reducible first | exact HB.out | apply below_alloc | apply pw_below_drewN | apply below_drew1 | refine below_set ?_ GE349.out | refine below_set ?_ GE356.out) | exact HB.out)) hb); clear HO_13; clear BK349; clear BK356; clear HB; have HO_13 := n0_; have BK349 := n1_; have BK356 := n2_; have HB := n3_; clear n0_ n1_ n2_ n3_; (try clear hb); (try clear hb2); (try clear hk); (try clear hi)) | ((with_reducible refine gate_callee (f := 11) rfl ?_); refine goesL_ (some 159) rfl rfl Try.func11 (by kernel_rfl) rfl #[] rfl (by (try simp only [List.map_toArray, List.map_cons, List.map_nil]); first | done | rfl | (simp only [List.length_drop, List.length_take]; rfl)) ?_; (with_reducible refine (plenumlaw44_awake.calls  false _ A69.out).mono ?_); rintro e w194 ⟨rfl, hb⟩; refine ⟨_, rfl, ?_⟩; have n0_ := Aside0.mk (Kd.R_below (by (with_reducible repeat (first | apply Kd.R_alloc | apply Kd.R_drewN | apply Kd.R_drew)); exact HO_13.out) hb); have n1_ := Aside0.mk (blk_below (g := gb349) (o := .cells #[.int .i64 a2_0, .int .i64 a2_1] 45 (0, 0)) (by (with_reducible repeat (first | refine blk_drewN ?_ _ | refine blk_drew ?_ | refine blk_alloc ?_ _)); exact BK349.out) hb); have n2_ := Aside0.mk (blk_below (g := gb356) (o := .cells #[.int .i64 t353, .int .i64 t354] 45 (0, 0)) (by (with_reducible repeat (first | refine blk_drewN ?_ _ | refine blk_drew ?_ | refine blk_alloc ?_ _)); exact BK356.out) hb); have n3_ := Aside0.mk (below_step (by repeat (first | (with_reducible first | exact HB.out | apply below_alloc | apply pw_below_drewN | apply below_drew1 | refine below_set ?_ GE349.out | refine below_set ?_ GE356.out) | exact HB.out)) hb); clear HO_13; clear BK349; clear BK356; clear HB; have HO_13 := n0_; have BK349 := n1_; have BK356 := n2_; have HB := n3_; clear n0_ n1_ n2_ n3_; (try clear hb); (try clear hb2); (try clear hk); (try clear hi)))
          go_ret
          exact ⟨by first | rfl | (simp [errW_none, errW_some] <;> rfl) | (simp [*, errW_none, errW_some] <;> rfl), by repeat (first | (with_reducible first | exact HB.out | apply below_alloc | apply pw_below_drewN | apply below_drew1 | refine below_set ?_ GE349.out | refine below_set ?_ GE356.out) | exact HB.out)⟩
/-- THE ONE PURE STATEMENT of plenumlaw44_StatsRepeats. -/
def plenumlaw44_StatsRepeats.Pure : Prop := ∀ (l0 : List (S57)) (a1 : Int) (a2_0 : Int) (a2_1 : Int) (a3 : Int) (a4 : Int), l0.length ≤ maxLen → l0.length * 24 ≤ 140737488351232 → (∀ x ∈ l0, (Lit.int .i64 x.f0).wf = true ∧ (Lit.int .i64 x.f1.f0).wf = true ∧ (Lit.int .i64 x.f1.f1).wf = true) → (Lit.int .i64 a1).wf = true → (Lit.int .i64 a2_0).wf = true → (Lit.int .i64 a2_1).wf = true → (Lit.int .i64 a3).wf = true → (Lit.int .i64 a4).wf = true → ∃ k, plenumlaw44_StatsRepeats.f k l0 a1 a2_0 a2_1 a3 a4 = some true
theorem plenumlaw44_StatsRepeats.walk (P : plenumlaw44_StatsRepeats.Pure) (A0 : Option Addr) (c0 : Nat) (l0 : List (S57)) (a1 : Int) (a2_0 : Int) (a2_1 : Int) (a3 : Int) (a4 : Int) (w : World) (hr0 : Kd.C k57 w A0 l0.length l0) (hc0 : l0.length ≤ c0) (hm0 : l0.length ≤ maxLen) (y0 : l0.length * 24 ≤ 140737488351232) (hw0 : ∀ x ∈ l0, (Lit.int .i64 x.f0).wf = true ∧ (Lit.int .i64 x.f1.f0).wf = true ∧ (Lit.int .i64 x.f1.f1).wf = true) (wa1 : (Lit.int .i64 a1).wf = true) (wa2_0 : (Lit.int .i64 a2_0).wf = true) (wa2_1 : (Lit.int .i64 a2_1).wf = true) (wa3 : (Lit.int .i64 a3).wf = true) (wa4 : (Lit.int .i64 a4).wf = true) :
 Calls Try.prog 8 #[.slice A0 l0.length c0, .int .i64 a1, .agg #[.int .i64 a2_0, .int .i64 a2_1], .int .i64 a3, .int .i64 a4] w fun e w' => e = .returned (.bool true) ∧ Below w.heap.size w w' := by
 obtain ⟨k, h⟩ := P l0 a1 a2_0 a2_1 a3 a4 hm0 y0 hw0 wa1 wa2_0 wa2_1 wa3 wa4
 refine (plenumlaw44_StatsRepeats.calls k A0 c0 l0 a1 a2_0 a2_1 a3 a4 true w hr0 hc0 h).mono ?_
 rintro e w' ⟨rfl, hd⟩
 exact ⟨rfl, hd⟩
end Go.Proofs.Ytnfcbhoaebcndaa.PT
