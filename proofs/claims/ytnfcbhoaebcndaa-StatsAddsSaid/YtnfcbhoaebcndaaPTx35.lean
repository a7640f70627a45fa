-- Laid by hp.py (a program of this session's) through the kit's printer. (squeezed)
import Derived.Test.YtnfcbhoaebcndaaPTx0
import Derived.Test.YtnfcbhoaebcndaaPTx7
import Derived.Test.YtnfcbhoaebcndaaPTx8
import Derived.Test.YtnfcbhoaebcndaaPTx14
import Derived.Test.YtnfcbhoaebcndaaPTx16
import Derived.Test.YtnfcbhoaebcndaaPTx17
import Derived.Test.YtnfcbhoaebcndaaPTx18
import Derived.Test.YtnfcbhoaebcndaaPTx19
import Derived.Test.YtnfcbhoaebcndaaPTx22
import Derived.Test.YtnfcbhoaebcndaaPTx23
import Derived.Test.YtnfcbhoaebcndaaPTx31
namespace Go.Proofs.Ytnfcbhoaebcndaa.PT
open Go.RowKit Go.Proofs.YtnfcbhoaebcndaaW.PrintWords Go.Proofs.YtnfcbhoaebcndaaW.PrintLast Go.Proofs.YtnfcbhoaebcndaaW.PrintMore
attribute [local go_sem] max2_int min2_int max_two min_two max_three min_three max_four min_four   -- for this text's walks alone
set_option linter.unusedVariables false
set_option linter.unusedSimpArgs false
/-! ### plenumlaw44_StatsAdds: function 6 -/
mutual
def plenumlaw44_StatsAdds.j0 : Nat → List (S57) → Int → Int → Int → Int → Bool → Int → Int → Option (Bool)
 | 0, _, _, _, _, _, _, _, _ => none
 | k + 1, x0, x2, x3, x4, x5, x75, x288000, x288001 => if x75 = true then ((plenumlaw44_awake.f).bind fun t292 => (some t292)) else ((stats_Integral.f k x0 x3 x4).bind fun bt293 => ((stats_Integral.f k x0 x4 x5).bind fun bt295 => ((stats_Integral.f k x0 x3 x5).bind fun bt297 => ((stats_Seconds.f k x0 x288000 x288001 x3 x4).bind fun bt299 => ((stats_Seconds.f k x0 x288000 x288001 x4 x5).bind fun bt301 => ((stats_Seconds.f k x0 x288000 x288001 x3 x5).bind fun bt303 => ((stats_Starts.f k x0 x288000 x288001 x3 x4).bind fun bt305 => ((stats_Starts.f k x0 x288000 x288001 x4 x5).bind fun bt307 => ((stats_Starts.f k x0 x288000 x288001 x3 x5).bind fun bt309 => (if bt293.2 = 0 then (if bt295.2 = 0 then (if bt297.2 = 0 then (if bt299.2 = 0 then (if bt301.2 = 0 then (if bt303.2 = 0 then (if bt305.2 = 0 then (if bt307.2 = 0 then (if bt309.2 = 0 then (if (wrap64 (bt293.1 + bt295.1)) = bt297.1 then (if (wrap64 (bt299.1 + bt301.1)) = bt303.1 then (plenumlaw44_StatsAdds.j1 k x0 x2 x3 x4 x5 ((wrap64 (bt305.1 + bt307.1)) != bt309.1)) else (plenumlaw44_StatsAdds.j1 k x0 x2 x3 x4 x5 true)) else (plenumlaw44_StatsAdds.j1 k x0 x2 x3 x4 x5 true)) else (plenumlaw44_StatsAdds.j1 k x0 x2 x3 x4 x5 true)) else (plenumlaw44_StatsAdds.j1 k x0 x2 x3 x4 x5 true)) else (plenumlaw44_StatsAdds.j1 k x0 x2 x3 x4 x5 true)) else (plenumlaw44_StatsAdds.j1 k x0 x2 x3 x4 x5 true)) else (plenumlaw44_StatsAdds.j1 k x0 x2 x3 x4 x5 true)) else (plenumlaw44_StatsAdds.j1 k x0 x2 x3 x4 x5 true)) else (plenumlaw44_StatsAdds.j1 k x0 x2 x3 x4 x5 true)) else (plenumlaw44_StatsAdds.j1 k x0 x2 x3 x4 x5 true)) else (plenumlaw44_StatsAdds.j1 k x0 x2 x3 x4 x5 true)))))))))))
def plenumlaw44_StatsAdds.j1 : Nat → List (S57) → Int → Int → Int → Int → Bool → Option (Bool)
 | 0, _, _, _, _, _, _ => none
 | k + 1, x0, x2, x3, x4, x5, x200 => if x200 = true then (some false) else ((stats_Exceeded.f k x0 x2 x3 x4).bind fun bt311 => ((stats_Exceeded.f k x0 x2 x4 x5).bind fun bt313 => ((stats_Histogram.f k x0 (([x2] : List Int)) x3 x5).bind fun bt318 => ((plenumlaw44_analog.f x2).bind fun bt322 => ((stats_Seconds.f k x0 bt322.1 bt322.2 x3 x5).bind fun bt324 => (if bt311.2 = 0 then (if bt313.2 = 0 then (if bt318.2 = 0 then (if (bt318.1.length : Int) = 2 then ((plenumlaw44_awake.f).bind fun t326 => (if t326 = true then (if bt324.2 = 0 then (if 1 < (bt318.1.length : Int) then (some ((rd bt318.1 1) == (wrap64 ((wrap64 (bt311.1 + bt313.1)) + bt324.1)))) else (none)) else (some true)) else (some false))) else (some false)) else (some false)) else (some false)) else (some false)))))))
end
def plenumlaw44_StatsAdds.f (k : Nat) (l0 : List (S57)) (a1_0 : Int) (a1_1 : Int) (a2 : Int) (a3 : Int) (a4 : Int) (a5 : Int) : Option (Bool) := if (l0.length : Int) > 60 then (plenumlaw44_StatsAdds.j0 k l0 a2 a3 a4 a5 true a1_0 a1_1) else ((plenumref12_Valid.f a1_0 a1_1).bind fun t288 => (if t288 = true then (if a3 ≥ a4 then (plenumlaw44_StatsAdds.j0 k l0 a2 a3 a4 a5 true a1_0 a1_1) else (if a4 ≥ a5 then (plenumlaw44_StatsAdds.j0 k l0 a2 a3 a4 a5 true a1_0 a1_1) else ((plenumlaw44_first.f k l0 a3 a5).bind fun t289 => (if t289 = 0 then ((plenumref44_Span.f k a3 a4).bind fun t290 => (if t290 = 0 then ((plenumref44_Span.f k a4 a5).bind fun t291 => (plenumlaw44_StatsAdds.j0 k l0 a2 a3 a4 a5 (t291 != 0) a1_0 a1_1)) else (plenumlaw44_StatsAdds.j0 k l0 a2 a3 a4 a5 true a1_0 a1_1))) else (plenumlaw44_StatsAdds.j0 k l0 a2 a3 a4 a5 true a1_0 a1_1))))) else (plenumlaw44_StatsAdds.j0 k l0 a2 a3 a4 a5 true a1_0 a1_1)))
theorem plenumlaw44_StatsAdds.mono_l : ∀ k, (∀ y0 y1 y2 y3 y4 y5 y6 y7, LeO (plenumlaw44_StatsAdds.j0 k y0 y1 y2 y3 y4 y5 y6 y7) (plenumlaw44_StatsAdds.j0 (k + 1) y0 y1 y2 y3 y4 y5 y6 y7)) ∧ (∀ y0 y1 y2 y3 y4 y5, LeO (plenumlaw44_StatsAdds.j1 k y0 y1 y2 y3 y4 y5) (plenumlaw44_StatsAdds.j1 (k + 1) y0 y1 y2 y3 y4 y5))
 | 0 => ⟨fun _ _ _ _ _ _ _ _ r h => by simp [plenumlaw44_StatsAdds.j0] at h, fun _ _ _ _ _ _ r h => by simp [plenumlaw44_StatsAdds.j1] at h⟩
 | k + 1 => by
  obtain ⟨ih0, ih1⟩ := plenumlaw44_StatsAdds.mono_l k
  refine ⟨?_, ?_⟩
  ·
   intro y0 y1 y2 y3 y4 y5 y6 y7
   unfold plenumlaw44_StatsAdds.j0
   repeat' first
   | (with_reducible exact ih0 _ _ _ _ _ _ _ _)
   | (with_reducible exact ih1 _ _ _ _ _ _)
   | (with_reducible exact plenumlaw44_first.mono _ _ _ _)
   | (with_reducible exact plenumref44_Span.mono _ _ _)
   | (with_reducible exact stats_Exceeded.mono _ _ _ _ _)
   | (with_reducible exact stats_Histogram.mono _ _ _ _ _)
   | (with_reducible exact stats_Integral.mono _ _ _ _)
   | (with_reducible exact stats_Seconds.mono _ _ _ _ _ _)
   | (with_reducible exact stats_Starts.mono _ _ _ _ _ _)
   | (with_reducible exact LeO.refl _)
   | (with_reducible exact LeO.none _)
   | (with_reducible refine LeO.ite ?_ ?_)
   | (with_reducible refine LeO.bind ?_ (fun _ => ?_))
   | exact ih0 _ _ _ _ _ _ _ _
   | exact ih1 _ _ _ _ _ _
   | exact plenumlaw44_first.mono _ _ _ _
   | exact plenumref44_Span.mono _ _ _
   | exact stats_Exceeded.mono _ _ _ _ _
   | exact stats_Histogram.mono _ _ _ _ _
   | exact stats_Integral.mono _ _ _ _
   | exact stats_Seconds.mono _ _ _ _ _ _
   | exact stats_Starts.mono _ _ _ _ _ _
   | exact LeO.none _
   | refine LeO.ite ?_ ?_
   | refine LeO.bind ?_ (fun _ => ?_)
  ·
   intro y0 y1 y2 y3 y4 y5
   unfold plenumlaw44_StatsAdds.j1
   repeat' first
   | (with_reducible exact ih0 _ _ _ _ _ _ _ _)
   | (with_reducible exact ih1 _ _ _ _ _ _)
   | (with_reducible exact plenumlaw44_first.mono _ _ _ _)
   | (with_reducible exact plenumref44_Span.mono _ _ _)
   | (with_reducible exact stats_Exceeded.mono _ _ _ _ _)
   | (with_reducible exact stats_Histogram.mono _ _ _ _ _)
   | (with_reducible exact stats_Integral.mono _ _ _ _)
   | (with_reducible exact stats_Seconds.mono _ _ _ _ _ _)
   | (with_reducible exact stats_Starts.mono _ _ _ _ _ _)
   | (with_reducible exact LeO.refl _)
   | (with_reducible exact LeO.none _)
   | (with_reducible refine LeO.ite ?_ ?_)
   | (with_reducible refine LeO.bind ?_ (fun _ => ?_))
   | exact ih0 _ _ _ _ _ _ _ _
   | exact ih1 _ _ _ _ _ _
   | exact plenumlaw44_first.mono _ _ _ _
   | exact plenumref44_Span.mono _ _ _
   | exact stats_Exceeded.mono _ _ _ _ _
   | exact stats_Histogram.mono _ _ _ _ _
   | exact stats_Integral.mono _ _ _ _
   | exact stats_Seconds.mono _ _ _ _ _ _
   | exact stats_Starts.mono _ _ _ _ _ _
   | exact LeO.none _
   | refine LeO.ite ?_ ?_
   | refine LeO.bind ?_ (fun _ => ?_)
theorem plenumlaw44_StatsAdds.mono : ∀ a0 a1 a2 a3 a4 a5 a6 k, LeO (plenumlaw44_StatsAdds.f k a0 a1 a2 a3 a4 a5 a6) (plenumlaw44_StatsAdds.f (k + 1) a0 a1 a2 a3 a4 a5 a6) := by
 intro a0 a1 a2 a3 a4 a5 a6 k
 obtain ⟨ih0, ih1⟩ := plenumlaw44_StatsAdds.mono_l k
 unfold plenumlaw44_StatsAdds.f
 repeat' first
  | (with_reducible exact ih0 _ _ _ _ _ _ _ _)
  | (with_reducible exact ih1 _ _ _ _ _ _)
  | (with_reducible exact plenumlaw44_first.mono _ _ _ _)
  | (with_reducible exact plenumref44_Span.mono _ _ _)
  | (with_reducible exact stats_Exceeded.mono _ _ _ _ _)
  | (with_reducible exact stats_Histogram.mono _ _ _ _ _)
  | (with_reducible exact stats_Integral.mono _ _ _ _)
  | (with_reducible exact stats_Seconds.mono _ _ _ _ _ _)
  | (with_reducible exact stats_Starts.mono _ _ _ _ _ _)
  | (with_reducible exact LeO.refl _)
  | (with_reducible exact LeO.none _)
  | (with_reducible refine LeO.ite ?_ ?_)
  | (with_reducible refine LeO.bind ?_ (fun _ => ?_))
  | exact ih0 _ _ _ _ _ _ _ _
  | exact ih1 _ _ _ _ _ _
  | exact plenumlaw44_first.mono _ _ _ _
  | exact plenumref44_Span.mono _ _ _
  | exact stats_Exceeded.mono _ _ _ _ _
  | exact stats_Histogram.mono _ _ _ _ _
  | exact stats_Integral.mono _ _ _ _
  | exact stats_Seconds.mono _ _ _ _ _ _
  | exact stats_Starts.mono _ _ _ _ _ _
  | exact LeO.none _
  | refine LeO.ite ?_ ?_
  | refine LeO.bind ?_ (fun _ => ?_)
set_option maxHeartbeats 8000000 in
set_option maxRecDepth 100000 in
theorem plenumlaw44_StatsAdds.calls (k : Nat) (A0 : Option Addr) (c0 : Nat) (l0 : List (S57)) (a1_0 : Int) (a1_1 : Int) (a2 : Int) (a3 : Int) (a4 : Int) (a5 : Int) (r : Bool) (w : World) (hr0 : Kd.C k57 w A0 l0.length l0) (hc0 : l0.length ≤ c0) (h : plenumlaw44_StatsAdds.f k l0 a1_0 a1_1 a2 a3 a4 a5 = some r) :
 Calls Try.prog 6 #[.slice A0 l0.length c0, .agg #[.int .i64 a1_0, .int .i64 a1_1], .int .i64 a2, .int .i64 a3, .int .i64 a4, .int .i64 a5] w fun e w' => e = .returned (.bool r) ∧ Below w.heap.size w w' := by
 have hu45 := Try.underlying45
 have HR0 := Aside0.mk hr0
 have HC0 := Aside0.mk hc0
 clear hr0 hc0
 have HB := Aside0.mk (Below.refl w.heap.size w)
 have H : (if (l0.length : Int) > 60 then (plenumlaw44_StatsAdds.j0 k l0 a2 a3 a4 a5 true a1_0 a1_1) else ((plenumref12_Valid.f a1_0 a1_1).bind fun t288 => (if t288 = true then (if a3 ≥ a4 then (plenumlaw44_StatsAdds.j0 k l0 a2 a3 a4 a5 true a1_0 a1_1) else (if a4 ≥ a5 then (plenumlaw44_StatsAdds.j0 k l0 a2 a3 a4 a5 true a1_0 a1_1) else ((plenumlaw44_first.f k l0 a3 a5).bind fun t289 => (if t289 = 0 then ((plenumref44_Span.f k a3 a4).bind fun t290 => (if t290 = 0 then ((plenumref44_Span.f k a4 a5).bind fun t291 => (plenumlaw44_StatsAdds.j0 k l0 a2 a3 a4 a5 (t291 != 0) a1_0 a1_1)) else (plenumlaw44_StatsAdds.j0 k l0 a2 a3 a4 a5 true a1_0 a1_1))) else (plenumlaw44_StatsAdds.j0 k l0 a2 a3 a4 a5 true a1_0 a1_1))))) else (plenumlaw44_StatsAdds.j0 k l0 a2 a3 a4 a5 true a1_0 a1_1)))) = some r := h
 clear h
 have HC7 := Aside0.mk H
 clear H
 go_enter Try.func6, Try.ntmps6
 go_upto_region 1 with (first | ((with_reducible refine gate_dst (N := 7) rfl ?_); (try (refine gate_guard (by rfl) ?_; dsimp only)); refine box_event ?hg (N := 7) ?hd (cs := #[.int .i64 a1_0, .int .i64 a1_1]) (t := 45) ?hr ?_; (case hd => rfl); (case hg => rfl); (case hr => first | (go_simp; done) | (go_simp; rfl)); intro gb287 hg w8 hbox hb; have n0_ := Aside0.mk (below_step (by repeat (first | (with_reducible first | exact HB.out | apply below_alloc | apply pw_below_drewN | apply below_drew1) | exact HB.out)) hb); have n1_ := Aside0.mk (hbox); have n2_ := Aside0.mk ((by rw [hg]; exact (below_size (by repeat (first | (with_reducible first | exact HB.out | apply below_alloc | apply pw_below_drewN | apply below_drew1) | exact HB.out))) : w.heap.size ≤ gb287)); have n3_ := Aside0.mk ((by rw [hg]; exact (below_size (by repeat (first | (with_reducible first | exact HB.out | apply below_alloc | apply pw_below_drewN | apply below_drew1) | exact HB.out))) : w.heap.size ≤ gb287)); clear HB; have HB := n0_; have BK287 := n1_; have GW287 := n2_; have GE287 := n3_; clear n0_ n1_ n2_ n3_; clear hb hbox hg))
 (try simp only [Act.put, List.setIfInBounds_toArray, List.set_cons_zero, List.set_cons_succ])
 go_cut [75] (fun v75 wc => ∃ (kq : Nat) (x75_6 : Bool), v75 = .bool x75_6 ∧ Aside0 (plenumlaw44_StatsAdds.j0 kq l0 a2 a3 a4 a5 x75_6 a1_0 a1_1 = some r) ∧ Aside0 (kq ≤ k) ∧ Aside0 (wc.heap[gb287]? = some (.cells #[.int .i64 a1_0, .int .i64 a1_1] 45 (0, 0))) ∧ Aside0 (Below w.heap.size w wc))
 case first =>
  have H := HC7.out
  clear HC7
  by_cases c9 : (l0.length : Int) > 60
  ·
   rw [if_pos c9] at H
   have c9b0 : decide (60 < (l0.length : Int)) = true := decide_eq_true c9
   have c9b1 : decide (60 < l0.length) = true := decide_eq_true (by omega)
   clear c9
   (first | rw [c9b0] | (simp only [i64_w, i32_w]; rw [c9b0]) | skip)
   have H' := Aside0.mk H
   clear H
   go_wp2
   go_meet
   case rel => exact ⟨_, (true), (by first | rfl | (simp; done) | (simp [*]; done)), H', ⟨by first | omega | exact Nat.le_refl _⟩, ⟨by (with_reducible repeat (first | refine blk_drewN ?_ _ | refine blk_drew ?_ | refine blk_alloc ?_ _)); exact BK287.out⟩, ⟨by repeat (first | (with_reducible first | exact HB.out | apply below_alloc | apply pw_below_drewN | apply below_drew1 | refine below_set ?_ GE287.out) | exact HB.out)⟩⟩
  ·
   rw [if_neg c9] at H
   have c9b0 : decide (60 < (l0.length : Int)) = false := decide_eq_false c9
   have c9b1 : decide (60 < l0.length) = false := decide_eq_false (by omega)
   clear c9
   (first | rw [c9b0] | (simp only [i64_w, i32_w]; rw [c9b0]) | skip)
   replace H := Option.bind_eq_some_iff.mp H
   obtain ⟨t288, A100, H⟩ := H
   replace H : (if t288 = true then (if a3 ≥ a4 then (plenumlaw44_StatsAdds.j0 k l0 a2 a3 a4 a5 true a1_0 a1_1) else (if a4 ≥ a5 then (plenumlaw44_StatsAdds.j0 k l0 a2 a3 a4 a5 true a1_0 a1_1) else ((plenumlaw44_first.f k l0 a3 a5).bind fun t289 => (if t289 = 0 then ((plenumref44_Span.f k a3 a4).bind fun t290 => (if t290 = 0 then ((plenumref44_Span.f k a4 a5).bind fun t291 => (plenumlaw44_StatsAdds.j0 k l0 a2 a3 a4 a5 (t291 != 0) a1_0 a1_1)) else (plenumlaw44_StatsAdds.j0 k l0 a2 a3 a4 a5 true a1_0 a1_1))) else (plenumlaw44_StatsAdds.j0 k l0 a2 a3 a4 a5 true a1_0 a1_1))))) else (plenumlaw44_StatsAdds.j0 k l0 a2 a3 a4 a5 true a1_0 a1_1)) = some r := H
   have A10 := Aside0.mk A100
   clear A100
   by_cases c11 : t288 = true
   ·
    as_aux_lemma =>
      subst c11
      have H1 : (if a3 ≥ a4 then (plenumlaw44_StatsAdds.j0 k l0 a2 a3 a4 a5 true a1_0 a1_1) else (if a4 ≥ a5 then (plenumlaw44_StatsAdds.j0 k l0 a2 a3 a4 a5 true a1_0 a1_1) else ((plenumlaw44_first.f k l0 a3 a5).bind fun t289 => (if t289 = 0 then ((plenumref44_Span.f k a3 a4).bind fun t290 => (if t290 = 0 then ((plenumref44_Span.f k a4 a5).bind fun t291 => (plenumlaw44_StatsAdds.j0 k l0 a2 a3 a4 a5 (t291 != 0) a1_0 a1_1)) else (plenumlaw44_StatsAdds.j0 k l0 a2 a3 a4 a5 true a1_0 a1_1))) else (plenumlaw44_StatsAdds.j0 k l0 a2 a3 a4 a5 true a1_0 a1_1))))) = some r := by rw [if_pos rfl] at H; exact H
      clear H
      have H := H1
      clear H1
      by_cases c12 : a3 ≥ a4
      ·
       rw [if_pos c12] at H
       have c12b0 : decide (a4 ≤ a3) = true := decide_eq_true c12
       clear c12
       have H' := Aside0.mk H
       clear H
       have hcz13_0 : w8.cell? ⟨gb287, 0, none⟩ = some (.int .i64 a1_0) := (blk_cell BK287.out 0).trans rfl
       have hcz13_1 : w8.cell? ⟨gb287, 1, none⟩ = some (.int .i64 a1_1) := (blk_cell BK287.out 1).trans rfl
       have hfz13_0 := blk_frozen BK287.out 0
       have hfz13_1 := blk_frozen BK287.out 1
       go_wp2_with (first | (go_at_call 26; (with_reducible refine (plenumref12_Valid.calls a1_0 a1_1 true _ A10.out).mono ?_); rintro e w14 ⟨rfl, hb⟩; have n0_ := Aside0.mk (blk_below (g := gb287) (o := .cells #[.int .i64 a1_0, .int .i64 a1_1] 45 (0, 0)) (by (with_reducible repeat (first | refine blk_drewN ?_ _ | refine blk_drew ?_ | refine blk_alloc ?_ _)); exact BK287.out) hb); have n1_ := Aside0.mk (below_step (by repeat (first | (with_reducible first | exact HB.out | apply below_alloc | apply pw_below_drewN | apply below_drew1 | refine below_set ?_ GE287.out) | exact HB.out)) hb); clear BK287; clear HB; have BK287 := n0_; have HB := n1_; clear n0_ n1_; (try clear hb); (try clear hb2); (try clear hk); (try clear hi)))
       go_meet
       case rel => exact ⟨_, (true), (by first | rfl | (simp; done) | (simp [*]; done)), H', ⟨by first | omega | exact Nat.le_refl _⟩, ⟨by (with_reducible repeat (first | refine blk_drewN ?_ _ | refine blk_drew ?_ | refine blk_alloc ?_ _)); exact BK287.out⟩, ⟨by repeat (first | (with_reducible first | exact HB.out | apply below_alloc | apply pw_below_drewN | apply below_drew1 | refine below_set ?_ GE287.out) | exact HB.out)⟩⟩
      ·
       rw [if_neg c12] at H
       have c12b0 : decide (a4 ≤ a3) = false := decide_eq_false c12
       clear c12
       by_cases c15 : a4 ≥ a5
       ·
        rw [if_pos c15] at H
        have c15b0 : decide (a5 ≤ a4) = true := decide_eq_true c15
        clear c15
        have H' := Aside0.mk H
        clear H
        have hcz16_0 : w8.cell? ⟨gb287, 0, none⟩ = some (.int .i64 a1_0) := (blk_cell BK287.out 0).trans rfl
        have hcz16_1 : w8.cell? ⟨gb287, 1, none⟩ = some (.int .i64 a1_1) := (blk_cell BK287.out 1).trans rfl
        have hfz16_0 := blk_frozen BK287.out 0
        have hfz16_1 := blk_frozen BK287.out 1
        go_wp2_with (first | (go_at_call 26; (with_reducible refine (plenumref12_Valid.calls a1_0 a1_1 true _ A10.out).mono ?_); rintro e w17 ⟨rfl, hb⟩; have n0_ := Aside0.mk (blk_below (g := gb287) (o := .cells #[.int .i64 a1_0, .int .i64 a1_1] 45 (0, 0)) (by (with_reducible repeat (first | refine blk_drewN ?_ _ | refine blk_drew ?_ | refine blk_alloc ?_ _)); exact BK287.out) hb); have n1_ := Aside0.mk (below_step (by repeat (first | (with_reducible first | exact HB.out | apply below_alloc | apply pw_below_drewN | apply below_drew1 | refine below_set ?_ GE287.out) | exact HB.out)) hb); clear BK287; clear HB; have BK287 := n0_; have HB := n1_; clear n0_ n1_; (try clear hb); (try clear hb2); (try clear hk); (try clear hi)))
        go_meet
        case rel => exact ⟨_, (true), (by first | rfl | (simp; done) | (simp [*]; done)), H', ⟨by first | omega | exact Nat.le_refl _⟩, ⟨by (with_reducible repeat (first | refine blk_drewN ?_ _ | refine blk_drew ?_ | refine blk_alloc ?_ _)); exact BK287.out⟩, ⟨by repeat (first | (with_reducible first | exact HB.out | apply below_alloc | apply pw_below_drewN | apply below_drew1 | refine below_set ?_ GE287.out) | exact HB.out)⟩⟩
       ·
        rw [if_neg c15] at H
        have c15b0 : decide (a5 ≤ a4) = false := decide_eq_false c15
        clear c15
        replace H := Option.bind_eq_some_iff.mp H
        obtain ⟨t289, A180, H⟩ := H
        replace H : (if t289 = 0 then ((plenumref44_Span.f k a3 a4).bind fun t290 => (if t290 = 0 then ((plenumref44_Span.f k a4 a5).bind fun t291 => (plenumlaw44_StatsAdds.j0 k l0 a2 a3 a4 a5 (t291 != 0) a1_0 a1_1)) else (plenumlaw44_StatsAdds.j0 k l0 a2 a3 a4 a5 true a1_0 a1_1))) else (plenumlaw44_StatsAdds.j0 k l0 a2 a3 a4 a5 true a1_0 a1_1)) = some r := H
        have A18 := Aside0.mk A180
        clear A180
        by_cases c19 : t289 = 0
        ·
         rw [if_pos c19] at H
         have c19b0 : (t289 == 0) = true := beq_iff_eq.mpr c19
         have c19b1 : (t289 != 0) = false := bne_eq_false_iff_eq.mpr c19
         clear c19
         replace H := Option.bind_eq_some_iff.mp H
         obtain ⟨t290, A200, H⟩ := H
         replace H : (if t290 = 0 then ((plenumref44_Span.f k a4 a5).bind fun t291 => (plenumlaw44_StatsAdds.j0 k l0 a2 a3 a4 a5 (t291 != 0) a1_0 a1_1)) else (plenumlaw44_StatsAdds.j0 k l0 a2 a3 a4 a5 true a1_0 a1_1)) = some r := H
         have A20 := Aside0.mk A200
         clear A200
         by_cases c21 : t290 = 0
         ·
          rw [if_pos c21] at H
          have c21b0 : (t290 == 0) = true := beq_iff_eq.mpr c21
          have c21b1 : (t290 != 0) = false := bne_eq_false_iff_eq.mpr c21
          clear c21
          replace H := Option.bind_eq_some_iff.mp H
          obtain ⟨t291, A220, H⟩ := H
          replace H : (plenumlaw44_StatsAdds.j0 k l0 a2 a3 a4 a5 (t291 != 0) a1_0 a1_1) = some r := H
          have A22 := Aside0.mk A220
          clear A220
          have H' := Aside0.mk H
          clear H
          have hcz23_0 : w8.cell? ⟨gb287, 0, none⟩ = some (.int .i64 a1_0) := (blk_cell BK287.out 0).trans rfl
          have hcz23_1 : w8.cell? ⟨gb287, 1, none⟩ = some (.int .i64 a1_1) := (blk_cell BK287.out 1).trans rfl
          have hfz23_0 := blk_frozen BK287.out 0
          have hfz23_1 := blk_frozen BK287.out 1
          go_wp2_with (first | (go_at_call 26; (with_reducible refine (plenumref12_Valid.calls a1_0 a1_1 true _ A10.out).mono ?_); rintro e w24 ⟨rfl, hb⟩; have n0_ := Aside0.mk (blk_below (g := gb287) (o := .cells #[.int .i64 a1_0, .int .i64 a1_1] 45 (0, 0)) (by (with_reducible repeat (first | refine blk_drewN ?_ _ | refine blk_drew ?_ | refine blk_alloc ?_ _)); exact BK287.out) hb); have n1_ := Aside0.mk (below_step (by repeat (first | (with_reducible first | exact HB.out | apply below_alloc | apply pw_below_drewN | apply below_drew1 | refine below_set ?_ GE287.out) | exact HB.out)) hb); clear BK287; clear HB; have BK287 := n0_; have HB := n1_; clear n0_ n1_; (try clear hb); (try clear hb2); (try clear hk); (try clear hi)) | (go_at_call 14; (with_reducible refine (plenumlaw44_first.calls k _ _ l0 a3 a5 t289 _ ?side1 ?side2 A18.out).mono ?_); (case side1 => repeat (first | exact (Kd.C_below HR0.out HB.out) | (with_reducible refine Kd.C_alloc ?_ _) | (with_reducible refine Kd.C_drewN ?_ _) | (with_reducible refine Kd.C_drew ?_))); (case side2 => exact HC0.out); rintro e w25 ⟨rfl, hb⟩; have n0_ := Aside0.mk (blk_below (g := gb287) (o := .cells #[.int .i64 a1_0, .int .i64 a1_1] 45 (0, 0)) (by (with_reducible repeat (first | refine blk_drewN ?_ _ | refine blk_drew ?_ | refine blk_alloc ?_ _)); exact BK287.out) hb); have n1_ := Aside0.mk (below_step (by repeat (first | (with_reducible first | exact HB.out | apply below_alloc | apply pw_below_drewN | apply below_drew1 | refine below_set ?_ GE287.out) | exact HB.out)) hb); clear BK287; clear HB; have BK287 := n0_; have HB := n1_; clear n0_ n1_; (try clear hb); (try clear hb2); (try clear hk); (try clear hi)) | (go_at_call 17; (with_reducible refine (plenumref44_Span.calls k a3 a4 t290 _ A20.out).mono ?_); rintro e w' ⟨rfl, ⟨nd, rfl⟩⟩) | (go_at_call 17; (with_reducible refine (plenumref44_Span.calls k a4 a5 t291 _ A22.out).mono ?_); rintro e w' ⟨rfl, ⟨nd, rfl⟩⟩))
          go_meet
          case rel => exact ⟨_, ((t291 != 0)), (by first | rfl | (simp; done) | (simp [*]; done)), H', ⟨by first | omega | exact Nat.le_refl _⟩, ⟨by (with_reducible repeat (first | refine blk_drewN ?_ _ | refine blk_drew ?_ | refine blk_alloc ?_ _)); exact BK287.out⟩, ⟨by repeat (first | (with_reducible first | exact HB.out | apply below_alloc | apply pw_below_drewN | apply below_drew1 | refine below_set ?_ GE287.out) | exact HB.out)⟩⟩
         ·
          rw [if_neg c21] at H
          have c21b0 : (t290 == 0) = false := beq_eq_false_iff_ne.mpr c21
          have c21b1 : (t290 != 0) = true := bne_iff_ne.mpr c21
          have H' := Aside0.mk H
          clear H
          have hcz26_0 : w8.cell? ⟨gb287, 0, none⟩ = some (.int .i64 a1_0) := (blk_cell BK287.out 0).trans rfl
          have hcz26_1 : w8.cell? ⟨gb287, 1, none⟩ = some (.int .i64 a1_1) := (blk_cell BK287.out 1).trans rfl
          have hfz26_0 := blk_frozen BK287.out 0
          have hfz26_1 := blk_frozen BK287.out 1
          go_wp2_with (first | (go_at_call 26; (with_reducible refine (plenumref12_Valid.calls a1_0 a1_1 true _ A10.out).mono ?_); rintro e w27 ⟨rfl, hb⟩; have n0_ := Aside0.mk (blk_below (g := gb287) (o := .cells #[.int .i64 a1_0, .int .i64 a1_1] 45 (0, 0)) (by (with_reducible repeat (first | refine blk_drewN ?_ _ | refine blk_drew ?_ | refine blk_alloc ?_ _)); exact BK287.out) hb); have n1_ := Aside0.mk (below_step (by repeat (first | (with_reducible first | exact HB.out | apply below_alloc | apply pw_below_drewN | apply below_drew1 | refine below_set ?_ GE287.out) | exact HB.out)) hb); clear BK287; clear HB; have BK287 := n0_; have HB := n1_; clear n0_ n1_; (try clear hb); (try clear hb2); (try clear hk); (try clear hi)) | (go_at_call 14; (with_reducible refine (plenumlaw44_first.calls k _ _ l0 a3 a5 t289 _ ?side1 ?side2 A18.out).mono ?_); (case side1 => repeat (first | exact (Kd.C_below HR0.out HB.out) | (with_reducible refine Kd.C_alloc ?_ _) | (with_reducible refine Kd.C_drewN ?_ _) | (with_reducible refine Kd.C_drew ?_))); (case side2 => exact HC0.out); rintro e w28 ⟨rfl, hb⟩; have n0_ := Aside0.mk (blk_below (g := gb287) (o := .cells #[.int .i64 a1_0, .int .i64 a1_1] 45 (0, 0)) (by (with_reducible repeat (first | refine blk_drewN ?_ _ | refine blk_drew ?_ | refine blk_alloc ?_ _)); exact BK287.out) hb); have n1_ := Aside0.mk (below_step (by repeat (first | (with_reducible first | exact HB.out | apply below_alloc | apply pw_below_drewN | apply below_drew1 | refine below_set ?_ GE287.out) | exact HB.out)) hb); clear BK287; clear HB; have BK287 := n0_; have HB := n1_; clear n0_ n1_; (try clear hb); (try clear hb2); (try clear hk); (try clear hi)) | (go_at_call 17; (with_reducible refine (plenumref44_Span.calls k a3 a4 t290 _ A20.out).mono ?_); rintro e w' ⟨rfl, ⟨nd, rfl⟩⟩))
          go_meet
          case rel => exact ⟨_, (true), (by first | rfl | (simp; done) | (simp [*]; done)), H', ⟨by first | omega | exact Nat.le_refl _⟩, ⟨by (with_reducible repeat (first | refine blk_drewN ?_ _ | refine blk_drew ?_ | refine blk_alloc ?_ _)); exact BK287.out⟩, ⟨by repeat (first | (with_reducible first | exact HB.out | apply below_alloc | apply pw_below_drewN | apply below_drew1 | refine below_set ?_ GE287.out) | exact HB.out)⟩⟩
        ·
         rw [if_neg c19] at H
         have c19b0 : (t289 == 0) = false := beq_eq_false_iff_ne.mpr c19
         have c19b1 : (t289 != 0) = true := bne_iff_ne.mpr c19
         have H' := Aside0.mk H
         clear H
         have hcz29_0 : w8.cell? ⟨gb287, 0, none⟩ = some (.int .i64 a1_0) := (blk_cell BK287.out 0).trans rfl
         have hcz29_1 : w8.cell? ⟨gb287, 1, none⟩ = some (.int .i64 a1_1) := (blk_cell BK287.out 1).trans rfl
         have hfz29_0 := blk_frozen BK287.out 0
         have hfz29_1 := blk_frozen BK287.out 1
         go_wp2_with (first | (go_at_call 26; (with_reducible refine (plenumref12_Valid.calls a1_0 a1_1 true _ A10.out).mono ?_); rintro e w30 ⟨rfl, hb⟩; have n0_ := Aside0.mk (blk_below (g := gb287) (o := .cells #[.int .i64 a1_0, .int .i64 a1_1] 45 (0, 0)) (by (with_reducible repeat (first | refine blk_drewN ?_ _ | refine blk_drew ?_ | refine blk_alloc ?_ _)); exact BK287.out) hb); have n1_ := Aside0.mk (below_step (by repeat (first | (with_reducible first | exact HB.out | apply below_alloc | apply pw_below_drewN | apply below_drew1 | refine below_set ?_ GE287.out) | exact HB.out)) hb); clear BK287; clear HB; have BK287 := n0_; have HB := n1_; clear n0_ n1_; (try clear hb); (try clear hb2); (try clear hk); (try clear hi)) | (go_at_call 14; (with_reducible refine (plenumlaw44_first.calls k _ _ l0 a3 a5 t289 _ ?side1 ?side2 A18.out).mono ?_); (case side1 => repeat (first | exact (Kd.C_below HR0.out HB.out) | (with_reducible refine Kd.C_alloc ?_ _) | (with_reducible refine Kd.C_drewN ?_ _) | (with_reducible refine Kd.C_drew ?_))); (case side2 => exact HC0.out); rintro e w31 ⟨rfl, hb⟩; have n0_ := Aside0.mk (blk_below (g := gb287) (o := .cells #[.int .i64 a1_0, .int .i64 a1_1] 45 (0, 0)) (by (with_reducible repeat (first | refine blk_drewN ?_ _ | refine blk_drew ?_ | refine blk_alloc ?_ _)); exact BK287.out) hb); have n1_ := Aside0.mk (below_step (by repeat (first | (with_reducible first | exact HB.out | apply below_alloc | apply pw_below_drewN | apply below_drew1 | refine below_set ?_ GE287.out) | exact HB.out)) hb); clear BK287; clear HB; have BK287 := n0_; have HB := n1_; clear n0_ n1_; (try clear hb); (try clear hb2); (try clear hk); (try clear hi)))
         go_meet
         case rel => exact ⟨_, (true), (by first | rfl | (simp; done) | (simp [*]; done)), H', ⟨by first | omega | exact Nat.le_refl _⟩, ⟨by (with_reducible repeat (first | refine blk_drewN ?_ _ | refine blk_drew ?_ | refine blk_alloc ?_ _)); exact BK287.out⟩, ⟨by repeat (first | (with_reducible first | exact HB.out | apply below_alloc | apply pw_below_drewN | apply below_drew1 | refine below_set ?_ GE287.out) | exact HB.out)⟩⟩
   ·
    as_aux_lemma =>
      replace c11 := Bool.eq_false_iff.mpr c11
      subst c11
      have H1 : (plenumlaw44_StatsAdds.j0 k l0 a2 a3 a4 a5 true a1_0 a1_1) = some r := by rw [if_neg (show ¬ (false = true) by decide)] at H; exact H
      clear H
      have H := H1
      clear H1
      have H' := Aside0.mk H
      clear H
      have hcz32_0 : w8.cell? ⟨gb287, 0, none⟩ = some (.int .i64 a1_0) := (blk_cell BK287.out 0).trans rfl
      have hcz32_1 : w8.cell? ⟨gb287, 1, none⟩ = some (.int .i64 a1_1) := (blk_cell BK287.out 1).trans rfl
      have hfz32_0 := blk_frozen BK287.out 0
      have hfz32_1 := blk_frozen BK287.out 1
      go_wp2_with (first | (go_at_call 26; (with_reducible refine (plenumref12_Valid.calls a1_0 a1_1 false _ A10.out).mono ?_); rintro e w33 ⟨rfl, hb⟩; have n0_ := Aside0.mk (blk_below (g := gb287) (o := .cells #[.int .i64 a1_0, .int .i64 a1_1] 45 (0, 0)) (by (with_reducible repeat (first | refine blk_drewN ?_ _ | refine blk_drew ?_ | refine blk_alloc ?_ _)); exact BK287.out) hb); have n1_ := Aside0.mk (below_step (by repeat (first | (with_reducible first | exact HB.out | apply below_alloc | apply pw_below_drewN | apply below_drew1 | refine below_set ?_ GE287.out) | exact HB.out)) hb); clear BK287; clear HB; have BK287 := n0_; have HB := n1_; clear n0_ n1_; (try clear hb); (try clear hb2); (try clear hk); (try clear hi)))
      go_meet
      case rel => exact ⟨_, (true), (by first | rfl | (simp; done) | (simp [*]; done)), H', ⟨by first | omega | exact Nat.le_refl _⟩, ⟨by (with_reducible repeat (first | refine blk_drewN ?_ _ | refine blk_drew ?_ | refine blk_alloc ?_ _)); exact BK287.out⟩, ⟨by repeat (first | (with_reducible first | exact HB.out | apply below_alloc | apply pw_below_drewN | apply below_drew1 | refine below_set ?_ GE287.out) | exact HB.out)⟩⟩
 case rest =>
  clear HC7
  try clear c1
  try clear c2
  try clear p2
  try clear c6
  try clear c9
  try clear c9b0
  try clear c9b1
  try clear c11
  try clear c12
  try clear c12b0
  try clear c15
  try clear c15b0
  try clear c19
  try clear c19b0
  try clear c19b1
  try clear c21
  try clear c21b0
  try clear c21b1
  try clear hcz13_0
  try clear hcz13_1
  try clear hcz16_0
  try clear hcz16_1
  try clear hcz23_0
  try clear hcz23_1
  try clear hcz26_0
  try clear hcz26_1
  try clear hcz29_0
  try clear hcz29_1
  try clear hcz32_0
  try clear hcz32_1
  try clear hfz13_0
  try clear hfz13_1
  try clear hfz16_0
  try clear hfz16_1
  try clear hfz23_0
  try clear hfz23_1
  try clear hfz26_0
  try clear hfz26_1
  try clear hfz29_0
  try clear hfz29_1
  try clear hfz32_0
  try clear hfz32_1
  obtain ⟨kq, x75_6, rfl, HA, HJ6, BK287, HB⟩ := hcut
  cases kq with
  | zero => exact absurd HA.out (by simp [plenumlaw44_StatsAdds.j0])
  | succ kj6 =>
   have H := HA.out
   clear HA
   simp only [plenumlaw44_StatsAdds.j0] at H
   by_cases c34 : x75_6 = true
   ·
    as_aux_lemma =>
      subst c34
      have H1 : ((plenumlaw44_awake.f).bind fun t292 => (some t292)) = some r := by rw [if_pos rfl] at H; exact H
      clear H
      have H := H1
      clear H1
      replace H := Option.bind_eq_some_iff.mp H
      obtain ⟨t292, A350, H⟩ := H
      replace H : (some t292) = some r := H
      have A35 := Aside0.mk A350
      clear A350
      obtain rfl := Option.some.inj H
      go_wp2_with (first | ((with_reducible refine gate_callee (f := 11) rfl ?_); refine goesL_ (some 76) rfl rfl Try.func11 (by kernel_rfl) rfl #[] rfl (by (try simp only [List.map_toArray, List.map_cons, List.map_nil]); first | done | rfl | (simp only [List.length_drop, List.length_take]; rfl)) ?_; (with_reducible refine (plenumlaw44_awake.calls  t292 _ A35.out).mono ?_); rintro e w36 ⟨rfl, hb⟩; refine ⟨_, rfl, ?_⟩; have n0_ := Aside0.mk (blk_below (g := gb287) (o := .cells #[.int .i64 a1_0, .int .i64 a1_1] 45 (0, 0)) (by (with_reducible repeat (first | refine blk_drewN ?_ _ | refine blk_drew ?_ | refine blk_alloc ?_ _)); exact BK287.out) hb); have n1_ := Aside0.mk (below_step (by repeat (first | (with_reducible first | exact HB.out | apply below_alloc | apply pw_below_drewN | apply below_drew1 | refine below_set ?_ GE287.out) | exact HB.out)) hb); clear BK287; clear HB; have BK287 := n0_; have HB := n1_; clear n0_ n1_; (try clear hb); (try clear hb2); (try clear hk); (try clear hi)))
      go_ret
      exact ⟨by first | rfl | (simp [errW_none, errW_some] <;> rfl) | (simp [*, errW_none, errW_some] <;> rfl), by repeat (first | (with_reducible first | exact HB.out | apply below_alloc | apply pw_below_drewN | apply below_drew1 | refine below_set ?_ GE287.out) | exact HB.out)⟩
   ·
    as_aux_lemma =>
      replace c34 := Bool.eq_false_iff.mpr c34
      subst c34
      have H1 : ((stats_Integral.f kj6 l0 a3 a4).bind fun bt293 => ((stats_Integral.f kj6 l0 a4 a5).bind fun bt295 => ((stats_Integral.f kj6 l0 a3 a5).bind fun bt297 => ((stats_Seconds.f kj6 l0 a1_0 a1_1 a3 a4).bind fun bt299 => ((stats_Seconds.f kj6 l0 a1_0 a1_1 a4 a5).bind fun bt301 => ((stats_Seconds.f kj6 l0 a1_0 a1_1 a3 a5).bind fun bt303 => ((stats_Starts.f kj6 l0 a1_0 a1_1 a3 a4).bind fun bt305 => ((stats_Starts.f kj6 l0 a1_0 a1_1 a4 a5).bind fun bt307 => ((stats_Starts.f kj6 l0 a1_0 a1_1 a3 a5).bind fun bt309 => (if bt293.2 = 0 then (if bt295.2 = 0 then (if bt297.2 = 0 then (if bt299.2 = 0 then (if bt301.2 = 0 then (if bt303.2 = 0 then (if bt305.2 = 0 then (if bt307.2 = 0 then (if bt309.2 = 0 then (if (wrap64 (bt293.1 + bt295.1)) = bt297.1 then (if (wrap64 (bt299.1 + bt301.1)) = bt303.1 then (plenumlaw44_StatsAdds.j1 kj6 l0 a2 a3 a4 a5 ((wrap64 (bt305.1 + bt307.1)) != bt309.1)) else (plenumlaw44_StatsAdds.j1 kj6 l0 a2 a3 a4 a5 true)) else (plenumlaw44_StatsAdds.j1 kj6 l0 a2 a3 a4 a5 true)) else (plenumlaw44_StatsAdds.j1 kj6 l0 a2 a3 a4 a5 true)) else (plenumlaw44_StatsAdds.j1 kj6 l0 a2 a3 a4 a5 true)) else (plenumlaw44_StatsAdds.j1 kj6 l0 a2 a3 a4 a5 true)) else (plenumlaw44_StatsAdds.j1 kj6 l0 a2 a3 a4 a5 true)) else (plenumlaw44_StatsAdds.j1 kj6 l0 a2 a3 a4 a5 true)) else (plenumlaw44_StatsAdds.j1 kj6 l0 a2 a3 a4 a5 true)) else (plenumlaw44_StatsAdds.j1 kj6 l0 a2 a3 a4 a5 true)) else (plenumlaw44_StatsAdds.j1 kj6 l0 a2 a3 a4 a5 true)) else (plenumlaw44_StatsAdds.j1 kj6 l0 a2 a3 a4 a5 true))))))))))) = some r := by rw [if_neg (show ¬ (false = true) by decide)] at H; exact H
      clear H
      have H := H1
      clear H1
      replace H := Option.bind_eq_some_iff.mp H
      obtain ⟨⟨t293, t294⟩, A370, H⟩ := H
      replace H : ((stats_Integral.f kj6 l0 a4 a5).bind fun bt295 => ((stats_Integral.f kj6 l0 a3 a5).bind fun bt297 => ((stats_Seconds.f kj6 l0 a1_0 a1_1 a3 a4).bind fun bt299 => ((stats_Seconds.f kj6 l0 a1_0 a1_1 a4 a5).bind fun bt301 => ((stats_Seconds.f kj6 l0 a1_0 a1_1 a3 a5).bind fun bt303 => ((stats_Starts.f kj6 l0 a1_0 a1_1 a3 a4).bind fun bt305 => ((stats_Starts.f kj6 l0 a1_0 a1_1 a4 a5).bind fun bt307 => ((stats_Starts.f kj6 l0 a1_0 a1_1 a3 a5).bind fun bt309 => (if t294 = 0 then (if bt295.2 = 0 then (if bt297.2 = 0 then (if bt299.2 = 0 then (if bt301.2 = 0 then (if bt303.2 = 0 then (if bt305.2 = 0 then (if bt307.2 = 0 then (if bt309.2 = 0 then (if (wrap64 (t293 + bt295.1)) = bt297.1 then (if (wrap64 (bt299.1 + bt301.1)) = bt303.1 then (plenumlaw44_StatsAdds.j1 kj6 l0 a2 a3 a4 a5 ((wrap64 (bt305.1 + bt307.1)) != bt309.1)) else (plenumlaw44_StatsAdds.j1 kj6 l0 a2 a3 a4 a5 true)) else (plenumlaw44_StatsAdds.j1 kj6 l0 a2 a3 a4 a5 true)) else (plenumlaw44_StatsAdds.j1 kj6 l0 a2 a3 a4 a5 true)) else (plenumlaw44_StatsAdds.j1 kj6 l0 a2 a3 a4 a5 true)) else (plenumlaw44_StatsAdds.j1 kj6 l0 a2 a3 a4 a5 true)) else (plenumlaw44_StatsAdds.j1 kj6 l0 a2 a3 a4 a5 true)) else (plenumlaw44_StatsAdds.j1 kj6 l0 a2 a3 a4 a5 true)) else (plenumlaw44_StatsAdds.j1 kj6 l0 a2 a3 a4 a5 true)) else (plenumlaw44_StatsAdds.j1 kj6 l0 a2 a3 a4 a5 true)) else (plenumlaw44_StatsAdds.j1 kj6 l0 a2 a3 a4 a5 true)) else (plenumlaw44_StatsAdds.j1 kj6 l0 a2 a3 a4 a5 true)))))))))) = some r := H
      have A37 := Aside0.mk A370
      clear A370
      replace H := Option.bind_eq_some_iff.mp H
      obtain ⟨⟨t295, t296⟩, A380, H⟩ := H
      replace H : ((stats_Integral.f kj6 l0 a3 a5).bind fun bt297 => ((stats_Seconds.f kj6 l0 a1_0 a1_1 a3 a4).bind fun bt299 => ((stats_Seconds.f kj6 l0 a1_0 a1_1 a4 a5).bind fun bt301 => ((stats_Seconds.f kj6 l0 a1_0 a1_1 a3 a5).bind fun bt303 => ((stats_Starts.f kj6 l0 a1_0 a1_1 a3 a4).bind fun bt305 => ((stats_Starts.f kj6 l0 a1_0 a1_1 a4 a5).bind fun bt307 => ((stats_Starts.f kj6 l0 a1_0 a1_1 a3 a5).bind fun bt309 => (if t294 = 0 then (if t296 = 0 then (if bt297.2 = 0 then (if bt299.2 = 0 then (if bt301.2 = 0 then (if bt303.2 = 0 then (if bt305.2 = 0 then (if bt307.2 = 0 then (if bt309.2 = 0 then (if (wrap64 (t293 + t295)) = bt297.1 then (if (wrap64 (bt299.1 + bt301.1)) = bt303.1 then (plenumlaw44_StatsAdds.j1 kj6 l0 a2 a3 a4 a5 ((wrap64 (bt305.1 + bt307.1)) != bt309.1)) else (plenumlaw44_StatsAdds.j1 kj6 l0 a2 a3 a4 a5 true)) else (plenumlaw44_StatsAdds.j1 kj6 l0 a2 a3 a4 a5 true)) else (plenumlaw44_StatsAdds.j1 kj6 l0 a2 a3 a4 a5 true)) else (plenumlaw44_StatsAdds.j1 kj6 l0 a2 a3 a4 a5 true)) else (plenumlaw44_StatsAdds.j1 kj6 l0 a2 a3 a4 a5 true)) else (plenumlaw44_StatsAdds.j1 kj6 l0 a2 a3 a4 a5 true)) else (plenumlaw44_StatsAdds.j1 kj6 l0 a2 a3 a4 a5 true)) else (plenumlaw44_StatsAdds.j1 kj6 l0 a2 a3 a4 a5 true)) else (plenumlaw44_StatsAdds.j1 kj6 l0 a2 a3 a4 a5 true)) else (plenumlaw44_StatsAdds.j1 kj6 l0 a2 a3 a4 a5 true)) else (plenumlaw44_StatsAdds.j1 kj6 l0 a2 a3 a4 a5 true))))))))) = some r := H
      have A38 := Aside0.mk A380
      clear A380
      replace H := Option.bind_eq_some_iff.mp H
      obtain ⟨⟨t297, t298⟩, A390, H⟩ := H
      replace H : ((stats_Seconds.f kj6 l0 a1_0 a1_1 a3 a4).bind fun bt299 => ((stats_Seconds.f kj6 l0 a1_0 a1_1 a4 a5).bind fun bt301 => ((stats_Seconds.f kj6 l0 a1_0 a1_1 a3 a5).bind fun bt303 => ((stats_Starts.f kj6 l0 a1_0 a1_1 a3 a4).bind fun bt305 => ((stats_Starts.f kj6 l0 a1_0 a1_1 a4 a5).bind fun bt307 => ((stats_Starts.f kj6 l0 a1_0 a1_1 a3 a5).bind fun bt309 => (if t294 = 0 then (if t296 = 0 then (if t298 = 0 then (if bt299.2 = 0 then (if bt301.2 = 0 then (if bt303.2 = 0 then (if bt305.2 = 0 then (if bt307.2 = 0 then (if bt309.2 = 0 then (if (wrap64 (t293 + t295)) = t297 then (if (wrap64 (bt299.1 + bt301.1)) = bt303.1 then (plenumlaw44_StatsAdds.j1 kj6 l0 a2 a3 a4 a5 ((wrap64 (bt305.1 + bt307.1)) != bt309.1)) else (plenumlaw44_StatsAdds.j1 kj6 l0 a2 a3 a4 a5 true)) else (plenumlaw44_StatsAdds.j1 kj6 l0 a2 a3 a4 a5 true)) else (plenumlaw44_StatsAdds.j1 kj6 l0 a2 a3 a4 a5 true)) else (plenumlaw44_StatsAdds.j1 kj6 l0 a2 a3 a4 a5 true)) else (plenumlaw44_StatsAdds.j1 kj6 l0 a2 a3 a4 a5 true)) else (plenumlaw44_StatsAdds.j1 kj6 l0 a2 a3 a4 a5 true)) else (plenumlaw44_StatsAdds.j1 kj6 l0 a2 a3 a4 a5 true)) else (plenumlaw44_StatsAdds.j1 kj6 l0 a2 a3 a4 a5 true)) else (plenumlaw44_StatsAdds.j1 kj6 l0 a2 a3 a4 a5 true)) else (plenumlaw44_StatsAdds.j1 kj6 l0 a2 a3 a4 a5 true)) else (plenumlaw44_StatsAdds.j1 kj6 l0 a2 a3 a4 a5 true)))))))) = some r := H
      have A39 := Aside0.mk A390
      clear A390
      replace H := Option.bind_eq_some_iff.mp H
      obtain ⟨⟨t299, t300⟩, A400, H⟩ := H
      replace H : ((stats_Seconds.f kj6 l0 a1_0 a1_1 a4 a5).bind fun bt301 => ((stats_Seconds.f kj6 l0 a1_0 a1_1 a3 a5).bind fun bt303 => ((stats_Starts.f kj6 l0 a1_0 a1_1 a3 a4).bind fun bt305 => ((stats_Starts.f kj6 l0 a1_0 a1_1 a4 a5).bind fun bt307 => ((stats_Starts.f kj6 l0 a1_0 a1_1 a3 a5).bind fun bt309 => (if t294 = 0 then (if t296 = 0 then (if t298 = 0 then (if t300 = 0 then (if bt301.2 = 0 then (if bt303.2 = 0 then (if bt305.2 = 0 then (if bt307.2 = 0 then (if bt309.2 = 0 then (if (wrap64 (t293 + t295)) = t297 then (if (wrap64 (t299 + bt301.1)) = bt303.1 then (plenumlaw44_StatsAdds.j1 kj6 l0 a2 a3 a4 a5 ((wrap64 (bt305.1 + bt307.1)) != bt309.1)) else (plenumlaw44_StatsAdds.j1 kj6 l0 a2 a3 a4 a5 true)) else (plenumlaw44_StatsAdds.j1 kj6 l0 a2 a3 a4 a5 true)) else (plenumlaw44_StatsAdds.j1 kj6 l0 a2 a3 a4 a5 true)) else (plenumlaw44_StatsAdds.j1 kj6 l0 a2 a3 a4 a5 true)) else (plenumlaw44_StatsAdds.j1 kj6 l0 a2 a3 a4 a5 true)) else (plenumlaw44_StatsAdds.j1 kj6 l0 a2 a3 a4 a5 true)) else (plenumlaw44_StatsAdds.j1 kj6 l0 a2 a3 a4 a5 true)) else (plenumlaw44_StatsAdds.j1 kj6 l0 a2 a3 a4 a5 true)) else (plenumlaw44_StatsAdds.j1 kj6 l0 a2 a3 a4 a5 true)) else (plenumlaw44_StatsAdds.j1 kj6 l0 a2 a3 a4 a5 true)) else (plenumlaw44_StatsAdds.j1 kj6 l0 a2 a3 a4 a5 true))))))) = some r := H
      have A40 := Aside0.mk A400
      clear A400
      replace H := Option.bind_eq_some_iff.mp H
      obtain ⟨⟨t301, t302⟩, A410, H⟩ := H
      replace H : ((stats_Seconds.f kj6 l0 a1_0 a1_1 a3 a5).bind fun bt303 => ((stats_Starts.f kj6 l0 a1_0 a1_1 a3 a4).bind fun bt305 => ((stats_Starts.f kj6 l0 a1_0 a1_1 a4 a5).bind fun bt307 => ((stats_Starts.f kj6 l0 a1_0 a1_1 a3 a5).bind fun bt309 => (if t294 = 0 then (if t296 = 0 then (if t298 = 0 then (if t300 = 0 then (if t302 = 0 then (if bt303.2 = 0 then (if bt305.2 = 0 then (if bt307.2 = 0 then (if bt309.2 = 0 then (if (wrap64 (t293 + t295)) = t297 then (if (wrap64 (t299 + t301)) = bt303.1 then (plenumlaw44_StatsAdds.j1 kj6 l0 a2 a3 a4 a5 ((wrap64 (bt305.1 + bt307.1)) != bt309.1)) else (plenumlaw44_StatsAdds.j1 kj6 l0 a2 a3 a4 a5 true)) else (plenumlaw44_StatsAdds.j1 kj6 l0 a2 a3 a4 a5 true)) else (plenumlaw44_StatsAdds.j1 kj6 l0 a2 a3 a4 a5 true)) else (plenumlaw44_StatsAdds.j1 kj6 l0 a2 a3 a4 a5 true)) else (plenumlaw44_StatsAdds.j1 kj6 l0 a2 a3 a4 a5 true)) else (plenumlaw44_StatsAdds.j1 kj6 l0 a2 a3 a4 a5 true)) else (plenumlaw44_StatsAdds.j1 kj6 l0 a2 a3 a4 a5 true)) else (plenumlaw44_StatsAdds.j1 kj6 l0 a2 a3 a4 a5 true)) else (plenumlaw44_StatsAdds.j1 kj6 l0 a2 a3 a4 a5 true)) else (plenumlaw44_StatsAdds.j1 kj6 l0 a2 a3 a4 a5 true)) else (plenumlaw44_StatsAdds.j1 kj6 l0 a2 a3 a4 a5 true)))))) = some r := H
      have A41 := Aside0.mk A410
      clear A410
      replace H := Option.bind_eq_some_iff.mp H
      obtain ⟨⟨t303, t304⟩, A420, H⟩ := H
      replace H : ((stats_Starts.f kj6 l0 a1_0 a1_1 a3 a4).bind fun bt305 => ((stats_Starts.f kj6 l0 a1_0 a1_1 a4 a5).bind fun bt307 => ((stats_Starts.f kj6 l0 a1_0 a1_1 a3 a5).bind fun bt309 => (if t294 = 0 then (if t296 = 0 then (if t298 = 0 then (if t300 = 0 then (if t302 = 0 then (if t304 = 0 then (if bt305.2 = 0 then (if bt307.2 = 0 then (if bt309.2 = 0 then (if (wrap64 (t293 + t295)) = t297 then (if (wrap64 (t299 + t301)) = t303 then (plenumlaw44_StatsAdds.j1 kj6 l0 a2 a3 a4 a5 ((wrap64 (bt305.1 + bt307.1)) != bt309.1)) else (plenumlaw44_StatsAdds.j1 kj6 l0 a2 a3 a4 a5 true)) else (plenumlaw44_StatsAdds.j1 kj6 l0 a2 a3 a4 a5 true)) else (plenumlaw44_StatsAdds.j1 kj6 l0 a2 a3 a4 a5 true)) else (plenumlaw44_StatsAdds.j1 kj6 l0 a2 a3 a4 a5 true)) else (plenumlaw44_StatsAdds.j1 kj6 l0 a2 a3 a4 a5 true)) else (plenumlaw44_StatsAdds.j1 kj6 l0 a2 a3 a4 a5 true)) else (plenumlaw44_StatsAdds.j1 kj6 l0 a2 a3 a4 a5 true)) else (plenumlaw44_StatsAdds.j1 kj6 l0 a2 a3 a4 a5 true)) else (plenumlaw44_StatsAdds.j1 kj6 l0 a2 a3 a4 a5 true)) else (plenumlaw44_StatsAdds.j1 kj6 l0 a2 a3 a4 a5 true)) else (plenumlaw44_StatsAdds.j1 kj6 l0 a2 a3 a4 a5 true))))) = some r := H
      have A42 := Aside0.mk A420
      clear A420
      replace H := Option.bind_eq_some_iff.mp H
      obtain ⟨⟨t305, t306⟩, A430, H⟩ := H
      replace H : ((stats_Starts.f kj6 l0 a1_0 a1_1 a4 a5).bind fun bt307 => ((stats_Starts.f kj6 l0 a1_0 a1_1 a3 a5).bind fun bt309 => (if t294 = 0 then (if t296 = 0 then (if t298 = 0 then (if t300 = 0 then (if t302 = 0 then (if t304 = 0 then (if t306 = 0 then (if bt307.2 = 0 then (if bt309.2 = 0 then (if (wrap64 (t293 + t295)) = t297 then (if (wrap64 (t299 + t301)) = t303 then (plenumlaw44_StatsAdds.j1 kj6 l0 a2 a3 a4 a5 ((wrap64 (t305 + bt307.1)) != bt309.1)) else (plenumlaw44_StatsAdds.j1 kj6 l0 a2 a3 a4 a5 true)) else (plenumlaw44_StatsAdds.j1 kj6 l0 a2 a3 a4 a5 true)) else (plenumlaw44_StatsAdds.j1 kj6 l0 a2 a3 a4 a5 true)) else (plenumlaw44_StatsAdds.j1 kj6 l0 a2 a3 a4 a5 true)) else (plenumlaw44_StatsAdds.j1 kj6 l0 a2 a3 a4 a5 true)) else (plenumlaw44_StatsAdds.j1 kj6 l0 a2 a3 a4 a5 true)) else (plenumlaw44_StatsAdds.j1 kj6 l0 a2 a3 a4 a5 true)) else (plenumlaw44_StatsAdds.j1 kj6 l0 a2 a3 a4 a5 true)) else (plenumlaw44_StatsAdds.j1 kj6 l0 a2 a3 a4 a5 true)) else (plenumlaw44_StatsAdds.j1 kj6 l0 a2 a3 a4 a5 true)) else (plenumlaw44_StatsAdds.j1 kj6 l0 a2 a3 a4 a5 true)))) = some r := H
      have A43 := Aside0.mk A430
      clear A430
      replace H := Option.bind_eq_some_iff.mp H
      obtain ⟨⟨t307, t308⟩, A440, H⟩ := H
      replace H : ((stats_Starts.f kj6 l0 a1_0 a1_1 a3 a5).bind fun bt309 => (if t294 = 0 then (if t296 = 0 then (if t298 = 0 then (if t300 = 0 then (if t302 = 0 then (if t304 = 0 then (if t306 = 0 then (if t308 = 0 then (if bt309.2 = 0 then (if (wrap64 (t293 + t295)) = t297 then (if (wrap64 (t299 + t301)) = t303 then (plenumlaw44_StatsAdds.j1 kj6 l0 a2 a3 a4 a5 ((wrap64 (t305 + t307)) != bt309.1)) else (plenumlaw44_StatsAdds.j1 kj6 l0 a2 a3 a4 a5 true)) else (plenumlaw44_StatsAdds.j1 kj6 l0 a2 a3 a4 a5 true)) else (plenumlaw44_StatsAdds.j1 kj6 l0 a2 a3 a4 a5 true)) else (plenumlaw44_StatsAdds.j1 kj6 l0 a2 a3 a4 a5 true)) else (plenumlaw44_StatsAdds.j1 kj6 l0 a2 a3 a4 a5 true)) else (plenumlaw44_StatsAdds.j1 kj6 l0 a2 a3 a4 a5 true)) else (plenumlaw44_StatsAdds.j1 kj6 l0 a2 a3 a4 a5 true)) else (plenumlaw44_StatsAdds.j1 kj6 l0 a2 a3 a4 a5 true)) else (plenumlaw44_StatsAdds.j1 kj6 l0 a2 a3 a4 a5 true)) else (plenumlaw44_StatsAdds.j1 kj6 l0 a2 a3 a4 a5 true)) else (plenumlaw44_StatsAdds.j1 kj6 l0 a2 a3 a4 a5 true))) = some r := H
      have A44 := Aside0.mk A440
      clear A440
      replace H := Option.bind_eq_some_iff.mp H
      obtain ⟨⟨t309, t310⟩, A450, H⟩ := H
      replace H : (if t294 = 0 then (if t296 = 0 then (if t298 = 0 then (if t300 = 0 then (if t302 = 0 then (if t304 = 0 then (if t306 = 0 then (if t308 = 0 then (if t310 = 0 then (if (wrap64 (t293 + t295)) = t297 then (if (wrap64 (t299 + t301)) = t303 then (plenumlaw44_StatsAdds.j1 kj6 l0 a2 a3 a4 a5 ((wrap64 (t305 + t307)) != t309)) else (plenumlaw44_StatsAdds.j1 kj6 l0 a2 a3 a4 a5 true)) else (plenumlaw44_StatsAdds.j1 kj6 l0 a2 a3 a4 a5 true)) else (plenumlaw44_StatsAdds.j1 kj6 l0 a2 a3 a4 a5 true)) else (plenumlaw44_StatsAdds.j1 kj6 l0 a2 a3 a4 a5 true)) else (plenumlaw44_StatsAdds.j1 kj6 l0 a2 a3 a4 a5 true)) else (plenumlaw44_StatsAdds.j1 kj6 l0 a2 a3 a4 a5 true)) else (plenumlaw44_StatsAdds.j1 kj6 l0 a2 a3 a4 a5 true)) else (plenumlaw44_StatsAdds.j1 kj6 l0 a2 a3 a4 a5 true)) else (plenumlaw44_StatsAdds.j1 kj6 l0 a2 a3 a4 a5 true)) else (plenumlaw44_StatsAdds.j1 kj6 l0 a2 a3 a4 a5 true)) else (plenumlaw44_StatsAdds.j1 kj6 l0 a2 a3 a4 a5 true)) = some r := H
      have A45 := Aside0.mk A450
      clear A450
      have HC46 := Aside0.mk H
      clear H
      go_upto_region 12 with (first | ((with_reducible refine gate_callee (f := 23) rfl ?_); refine goesL_ (some 81) rfl rfl Try.func23 (by kernel_rfl) rfl #[.slice A0 l0.length c0, .int .i64 a3, .int .i64 a4] rfl (by (try simp only [List.map_toArray, List.map_cons, List.map_nil]); first | done | rfl | (simp only [List.length_drop, List.length_take]; rfl)) ?_; (with_reducible refine (stats_Integral.calls kj6 _ _ l0 a3 a4 t293 t294 _ ?side1 ?side2 A37.out).mono ?_); (case side1 => repeat (first | exact (Kd.C_below HR0.out HB.out) | (with_reducible refine Kd.C_alloc ?_ _) | (with_reducible refine Kd.C_drewN ?_ _) | (with_reducible refine Kd.C_drew ?_))); (case side2 => exact HC0.out); rintro e w47 ⟨rfl, hb⟩; refine ⟨_, rfl, ?_⟩; have n0_ := Aside0.mk (blk_below (g := gb287) (o := .cells #[.int .i64 a1_0, .int .i64 a1_1] 45 (0, 0)) (by (with_reducible repeat (first | refine blk_drewN ?_ _ | refine blk_drew ?_ | refine blk_alloc ?_ _)); exact BK287.out) hb); have n1_ := Aside0.mk (below_step (by repeat (first | (with_reducible first | exact HB.out | apply below_alloc | apply pw_below_drewN | apply below_drew1 | refine below_set ?_ GE287.out) | exact HB.out)) hb); clear BK287; clear HB; have BK287 := n0_; have HB := n1_; clear n0_ n1_; (try clear hb); (try clear hb2); (try clear hk); (try clear hi)) | ((with_reducible refine gate_callee (f := 23) rfl ?_); refine goesL_ (some 88) rfl rfl Try.func23 (by kernel_rfl) rfl #[.slice A0 l0.length c0, .int .i64 a4, .int .i64 a5] rfl (by (try simp only [List.map_toArray, List.map_cons, List.map_nil]); first | done | rfl | (simp only [List.length_drop, List.length_take]; rfl)) ?_; (with_reducible refine (stats_Integral.calls kj6 _ _ l0 a4 a5 t295 t296 _ ?side1 ?side2 A38.out).mono ?_); (case side1 => repeat (first | exact (Kd.C_below HR0.out HB.out) | (with_reducible refine Kd.C_alloc ?_ _) | (with_reducible refine Kd.C_drewN ?_ _) | (with_reducible refine Kd.C_drew ?_))); (case side2 => exact HC0.out); rintro e w48 ⟨rfl, hb⟩; refine ⟨_, rfl, ?_⟩; have n0_ := Aside0.mk (blk_below (g := gb287) (o := .cells #[.int .i64 a1_0, .int .i64 a1_1] 45 (0, 0)) (by (with_reducible repeat (first | refine blk_drewN ?_ _ | refine blk_drew ?_ | refine blk_alloc ?_ _)); exact BK287.out) hb); have n1_ := Aside0.mk (below_step (by repeat (first | (with_reducible first | exact HB.out | apply below_alloc | apply pw_below_drewN | apply below_drew1 | refine below_set ?_ GE287.out) | exact HB.out)) hb); clear BK287; clear HB; have BK287 := n0_; have HB := n1_; clear n0_ n1_; (try clear hb); (try clear hb2); (try clear hk); (try clear hi)) | ((with_reducible refine gate_callee (f := 23) rfl ?_); refine goesL_ (some 95) rfl rfl Try.func23 (by kernel_rfl) rfl #[.slice A0 l0.length c0, .int .i64 a3, .int .i64 a5] rfl (by (try simp only [List.map_toArray, List.map_cons, List.map_nil]); first | done | rfl | (simp only [List.length_drop, List.length_take]; rfl)) ?_; (with_reducible refine (stats_Integral.calls kj6 _ _ l0 a3 a5 t297 t298 _ ?side1 ?side2 A39.out).mono ?_); (case side1 => repeat (first | exact (Kd.C_below HR0.out HB.out) | (with_reducible refine Kd.C_alloc ?_ _) | (with_reducible refine Kd.C_drewN ?_ _) | (with_reducible refine Kd.C_drew ?_))); (case side2 => exact HC0.out); rintro e w49 ⟨rfl, hb⟩; refine ⟨_, rfl, ?_⟩; have n0_ := Aside0.mk (blk_below (g := gb287) (o := .cells #[.int .i64 a1_0, .int .i64 a1_1] 45 (0, 0)) (by (with_reducible repeat (first | refine blk_drewN ?_ _ | refine blk_drew ?_ | refine blk_alloc ?_ _)); exact BK287.out) hb); have n1_ := Aside0.mk (below_step (by repeat (first | (with_reducible first | exact HB.out | apply below_alloc | apply pw_below_drewN | apply below_drew1 | refine below_set ?_ GE287.out) | exact HB.out)) hb); clear BK287; clear HB; have BK287 := n0_; have HB := n1_; clear n0_ n1_; (try clear hb); (try clear hb2); (try clear hk); (try clear hi); have hcz50_0 : w49.cell? ⟨gb287, 0, none⟩ = some (.int .i64 a1_0) := (blk_cell BK287.out 0).trans rfl; have hcz50_1 : w49.cell? ⟨gb287, 1, none⟩ = some (.int .i64 a1_1) := (blk_cell BK287.out 1).trans rfl; have hfz50_0 := blk_frozen BK287.out 0; have hfz50_1 := blk_frozen BK287.out 1) | ((with_reducible refine gate_callee (f := 24) rfl ?_); refine goesL_ (some 103) rfl rfl Try.func24 (by kernel_rfl) rfl #[.slice A0 l0.length c0, .agg #[.int .i64 a1_0, .int .i64 a1_1], .int .i64 a3, .int .i64 a4] rfl (by (try simp only [List.map_toArray, List.map_cons, List.map_nil]); first | done | rfl | (simp only [List.length_drop, List.length_take]; rfl)) ?_; (with_reducible refine (stats_Seconds.calls kj6 _ _ l0 a1_0 a1_1 a3 a4 t299 t300 _ ?side1 ?side2 A40.out).mono ?_); (case side1 => repeat (first | exact (Kd.C_below HR0.out HB.out) | (with_reducible refine Kd.C_alloc ?_ _) | (with_reducible refine Kd.C_drewN ?_ _) | (with_reducible refine Kd.C_drew ?_))); (case side2 => exact HC0.out); rintro e w51 ⟨rfl, hb⟩; refine ⟨_, rfl, ?_⟩; have n0_ := Aside0.mk (blk_below (g := gb287) (o := .cells #[.int .i64 a1_0, .int .i64 a1_1] 45 (0, 0)) (by (with_reducible repeat (first | refine blk_drewN ?_ _ | refine blk_drew ?_ | refine blk_alloc ?_ _)); exact BK287.out) hb); have n1_ := Aside0.mk (below_step (by repeat (first | (with_reducible first | exact HB.out | apply below_alloc | apply pw_below_drewN | apply below_drew1 | refine below_set ?_ GE287.out) | exact HB.out)) hb); clear BK287; clear HB; have BK287 := n0_; have HB := n1_; clear n0_ n1_; (try clear hb); (try clear hb2); (try clear hk); (try clear hi); have hcz52_0 : w51.cell? ⟨gb287, 0, none⟩ = some (.int .i64 a1_0) := (blk_cell BK287.out 0).trans rfl; have hcz52_1 : w51.cell? ⟨gb287, 1, none⟩ = some (.int .i64 a1_1) := (blk_cell BK287.out 1).trans rfl; have hfz52_0 := blk_frozen BK287.out 0; have hfz52_1 := blk_frozen BK287.out 1) | ((with_reducible refine gate_callee (f := 24) rfl ?_); refine goesL_ (some 111) rfl rfl Try.func24 (by kernel_rfl) rfl #[.slice A0 l0.length c0, .agg #[.int .i64 a1_0, .int .i64 a1_1], .int .i64 a4, .int .i64 a5] rfl (by (try simp only [List.map_toArray, List.map_cons, List.map_nil]); first | done | rfl | (simp only [List.length_drop, List.length_take]; rfl)) ?_; (with_reducible refine (stats_Seconds.calls kj6 _ _ l0 a1_0 a1_1 a4 a5 t301 t302 _ ?side1 ?side2 A41.out).mono ?_); (case side1 => repeat (first | exact (Kd.C_below HR0.out HB.out) | (with_reducible refine Kd.C_alloc ?_ _) | (with_reducible refine Kd.C_drewN ?_ _) | (with_reducible refine Kd.C_drew ?_))); (case side2 => exact HC0.out); rintro e w53 ⟨rfl, hb⟩; refine ⟨_, rfl, ?_⟩; have n0_ := Aside0.mk (blk_below (g := gb287) (o := .cells #[.int .i64 a1_0, .int .i64 a1_1] 45 (0, 0)) (by (with_reducible repeat (first | refine blk_drewN ?_ _ | refine blk_drew ?_ | refine blk_alloc ?_ _)); exact BK287.out) hb); have n1_ := Aside0.mk (below_step (by repeat (first | (with_reducible first | exact HB.out | apply below_alloc | apply pw_below_drewN | apply below_drew1 | refine below_set ?_ GE287.out) | exact HB.out)) hb); clear BK287; clear HB; have BK287 := n0_; have HB := n1_; clear n0_ n1_; (try clear hb); (try clear hb2); (try clear hk); (try clear hi); have hcz54_0 : w53.cell? ⟨gb287, 0, none⟩ = some (.int .i64 a1_0) := (blk_cell BK287.out 0).trans rfl; have hcz54_1 : w53.cell? ⟨gb287, 1, none⟩ = some (.int .i64 a1_1) := (blk_cell BK287.out 1).trans rfl; have hfz54_0 := blk_frozen BK287.out 0; have hfz54_1 := blk_frozen BK287.out 1) | ((with_reducible refine gate_callee (f := 24) rfl ?_); refine goesL_ (some 119) rfl rfl Try.func24 (by kernel_rfl) rfl #[.slice A0 l0.length c0, .agg #[.int .i64 a1_0, .int .i64 a1_1], .int .i64 a3, .int .i64 a5] rfl (by (try simp only [List.map_toArray, List.map_cons, List.map_nil]); first | done | rfl | (simp only [List.length_drop, List.length_take]; rfl)) ?_; (with_reducible refine (stats_Seconds.calls kj6 _ _ l0 a1_0 a1_1 a3 a5 t303 t304 _ ?side1 ?side2 A42.out).mono ?_); (case side1 => repeat (first | exact (Kd.C_below HR0.out HB.out) | (with_reducible refine Kd.C_alloc ?_ _) | (with_reducible refine Kd.C_drewN ?_ _) | (with_reducible refine Kd.C_drew ?_))); (case side2 => exact HC0.out); rintro e w55 ⟨rfl, hb⟩; refine ⟨_, rfl, ?_⟩; have n0_ := Aside0.mk (blk_below (g := gb287) (o := .cells #[.int .i64 a1_0, .int .i64 a1_1] 45 (0, 0)) (by (with_reducible repeat (first | refine blk_drewN ?_ _ | refine blk_drew ?_ | refine blk_alloc ?_ _)); exact BK287.out) hb); have n1_ := Aside0.mk (below_step (by repeat (first | (with_reducible first | exact HB.out | apply below_alloc | apply pw_below_drewN | apply below_drew1 | refine below_set ?_ GE287.out) | exact HB.out)) hb); clear BK287; clear HB; have BK287 := n0_; have HB := n1_; clear n0_ n1_; (try clear hb); (try clear hb2); (try clear hk); (try clear hi); have hcz56_0 : w55.cell? ⟨gb287, 0, none⟩ = some (.int .i64 a1_0) := (blk_cell BK287.out 0).trans rfl; have hcz56_1 : w55.cell? ⟨gb287, 1, none⟩ = some (.int .i64 a1_1) := (blk_cell BK287.out 1).trans rfl; have hfz56_0 := blk_frozen BK287.out 0; have hfz56_1 := blk_frozen BK287.out 1) | ((with_reducible refine gate_callee (f := 25) rfl ?_); refine goesL_ (some 127) rfl rfl Try.func25 (by kernel_rfl) rfl #[.slice A0 l0.length c0, .agg #[.int .i64 a1_0, .int .i64 a1_1], .int .i64 a3, .int .i64 a4] rfl (by (try simp only [List.map_toArray, List.map_cons, List.map_nil]); first | done | rfl | (simp only [List.length_drop, List.length_take]; rfl)) ?_; (with_reducible refine (stats_Starts.calls kj6 _ _ l0 a1_0 a1_1 a3 a4 t305 t306 _ ?side1 ?side2 A43.out).mono ?_); (case side1 => repeat (first | exact (Kd.C_below HR0.out HB.out) | (with_reducible refine Kd.C_alloc ?_ _) | (with_reducible refine Kd.C_drewN ?_ _) | (with_reducible refine Kd.C_drew ?_))); (case side2 => exact HC0.out); rintro e w57 ⟨rfl, hb⟩; refine ⟨_, rfl, ?_⟩; have n0_ := Aside0.mk (blk_below (g := gb287) (o := .cells #[.int .i64 a1_0, .int .i64 a1_1] 45 (0, 0)) (by (with_reducible repeat (first | refine blk_drewN ?_ _ | refine blk_drew ?_ | refine blk_alloc ?_ _)); exact BK287.out) hb); have n1_ := Aside0.mk (below_step (by repeat (first | (with_reducible first | exact HB.out | apply below_alloc | apply pw_below_drewN | apply below_drew1 | refine below_set ?_ GE287.out) | exact HB.out)) hb); clear BK287; clear HB; have BK287 := n0_; have HB := n1_; clear n0_ n1_; (try clear hb); (try clear hb2); (try clear hk); (try clear hi); have hcz58_0 : w57.cell? ⟨gb287, 0, none⟩ = some (.int .i64 a1_0) := (blk_cell BK287.out 0).trans rfl; have hcz58_1 : w57.cell? ⟨gb287, 1, none⟩ = some (.int .i64 a1_1) := (blk_cell BK287.out 1).trans rfl; have hfz58_0 := blk_frozen BK287.out 0; have hfz58_1 := blk_frozen BK287.out 1) | ((with_reducible refine gate_callee (f := 25) rfl ?_); refine goesL_ (some 135) rfl rfl Try.func25 (by kernel_rfl) rfl #[.slice A0 l0.length c0, .agg #[.int .i64 a1_0, .int .i64 a1_1], .int .i64 a4, .int .i64 a5] rfl (by (try simp only [List.map_toArray, List.map_cons, List.map_nil]); first | done | rfl | (simp only [List.length_drop, List.length_take]; rfl)) ?_; (with_reducible refine (stats_Starts.calls kj6 _ _ l0 a1_0 a1_1 a4 a5 t307 t308 _ ?side1 ?side2 A44.out).mono ?_); (case side1 => repeat (first | exact (Kd.C_below HR0.out HB.out) | (with_reducible refine Kd.C_alloc ?_ _) | (with_reducible refine Kd.C_drewN ?_ _) | (with_reducible refine Kd.C_drew ?_))); (case side2 => exact HC0.out); rintro e w59 ⟨rfl, hb⟩; refine ⟨_, rfl, ?_⟩; have n0_ := Aside0.mk (blk_below (g := gb287) (o := .cells #[.int .i64 a1_0, .int .i64 a1_1] 45 (0, 0)) (by (with_reducible repeat (first | refine blk_drewN ?_ _ | refine blk_drew ?_ | refine blk_alloc ?_ _)); exact BK287.out) hb); have n1_ := Aside0.mk (below_step (by repeat (first | (with_reducible first | exact HB.out | apply below_alloc | apply pw_below_drewN | apply below_drew1 | refine below_set ?_ GE287.out) | exact HB.out)) hb); clear BK287; clear HB; have BK287 := n0_; have HB := n1_; clear n0_ n1_; (try clear hb); (try clear hb2); (try clear hk); (try clear hi); have hcz60_0 : w59.cell? ⟨gb287, 0, none⟩ = some (.int .i64 a1_0) := (blk_cell BK287.out 0).trans rfl; have hcz60_1 : w59.cell? ⟨gb287, 1, none⟩ = some (.int .i64 a1_1) := (blk_cell BK287.out 1).trans rfl; have hfz60_0 := blk_frozen BK287.out 0; have hfz60_1 := blk_frozen BK287.out 1) | ((with_reducible refine gate_callee (f := 25) rfl ?_); refine goesL_ (some 143) rfl rfl Try.func25 (by kernel_rfl) rfl #[.slice A0 l0.length c0, .agg #[.int .i64 a1_0, .int .i64 a1_1], .int .i64 a3, .int .i64 a5] rfl (by (try simp only [List.map_toArray, List.map_cons, List.map_nil]); first | done | rfl | (simp only [List.length_drop, List.length_take]; rfl)) ?_; (with_reducible refine (stats_Starts.calls kj6 _ _ l0 a1_0 a1_1 a3 a5 t309 t310 _ ?side1 ?side2 A45.out).mono ?_); (case side1 => repeat (first | exact (Kd.C_below HR0.out HB.out) | (with_reducible refine Kd.C_alloc ?_ _) | (with_reducible refine Kd.C_drewN ?_ _) | (with_reducible refine Kd.C_drew ?_))); (case side2 => exact HC0.out); rintro e w61 ⟨rfl, hb⟩; refine ⟨_, rfl, ?_⟩; have n0_ := Aside0.mk (blk_below (g := gb287) (o := .cells #[.int .i64 a1_0, .int .i64 a1_1] 45 (0, 0)) (by (with_reducible repeat (first | refine blk_drewN ?_ _ | refine blk_drew ?_ | refine blk_alloc ?_ _)); exact BK287.out) hb); have n1_ := Aside0.mk (below_step (by repeat (first | (with_reducible first | exact HB.out | apply below_alloc | apply pw_below_drewN | apply below_drew1 | refine below_set ?_ GE287.out) | exact HB.out)) hb); clear BK287; clear HB; have BK287 := n0_; have HB := n1_; clear n0_ n1_; (try clear hb); (try clear hb2); (try clear hk); (try clear hi)))
      (try simp only [Act.put, List.setIfInBounds_toArray, List.set_cons_zero, List.set_cons_succ])
      go_cut [200] (fun v200 wc => ∃ (kq : Nat) (x200_45 : Bool), v200 = .bool x200_45 ∧ Aside0 (plenumlaw44_StatsAdds.j1 kq l0 a2 a3 a4 a5 x200_45 = some r) ∧ Aside0 (kq ≤ kj6) ∧ Aside0 (wc.heap[gb287]? = some (.cells #[.int .i64 a1_0, .int .i64 a1_1] 45 (0, 0))) ∧ Aside0 (Below w.heap.size w wc))
      case first =>
       have H := HC46.out
       clear HC46
       by_cases c62 : t294 = 0
       ·
        as_aux_lemma =>
          rw [if_pos c62] at H
          have c62b0 : (t294 == 0) = true := beq_iff_eq.mpr c62
          have c62b1 : (t294 != 0) = false := bne_eq_false_iff_eq.mpr c62
          clear c62
          (first | rw [c62b0] | (simp only [i64_w, i32_w]; rw [c62b0]) | skip)
          by_cases c63 : t296 = 0
          ·
           rw [if_pos c63] at H
           have c63b0 : (t296 == 0) = true := beq_iff_eq.mpr c63
           have c63b1 : (t296 != 0) = false := bne_eq_false_iff_eq.mpr c63
           clear c63
           by_cases c64 : t298 = 0
           ·
            rw [if_pos c64] at H
            have c64b0 : (t298 == 0) = true := beq_iff_eq.mpr c64
            have c64b1 : (t298 != 0) = false := bne_eq_false_iff_eq.mpr c64
            clear c64
            by_cases c65 : t300 = 0
            ·
             rw [if_pos c65] at H
             have c65b0 : (t300 == 0) = true := beq_iff_eq.mpr c65
             have c65b1 : (t300 != 0) = false := bne_eq_false_iff_eq.mpr c65
             clear c65
             by_cases c66 : t302 = 0
             ·
              as_aux_lemma =>
                rw [if_pos c66] at H
                have c66b0 : (t302 == 0) = true := beq_iff_eq.mpr c66
                have c66b1 : (t302 != 0) = false := bne_eq_false_iff_eq.mpr c66
                clear c66
                by_cases c67 : t304 = 0
                ·
                 rw [if_pos c67] at H
                 have c67b0 : (t304 == 0) = true := beq_iff_eq.mpr c67
                 have c67b1 : (t304 != 0) = false := bne_eq_false_iff_eq.mpr c67
                 clear c67
                 by_cases c68 : t306 = 0
                 ·
                  rw [if_pos c68] at H
                  have c68b0 : (t306 == 0) = true := beq_iff_eq.mpr c68
                  have c68b1 : (t306 != 0) = false := bne_eq_false_iff_eq.mpr c68
                  clear c68
                  by_cases c69 : t308 = 0
                  ·
                   rw [if_pos c69] at H
                   have c69b0 : (t308 == 0) = true := beq_iff_eq.mpr c69
                   have c69b1 : (t308 != 0) = false := bne_eq_false_iff_eq.mpr c69
                   clear c69
                   by_cases c70 : t310 = 0
                   ·
                    as_aux_lemma =>
                      rw [if_pos c70] at H
                      have c70b0 : (t310 == 0) = true := beq_iff_eq.mpr c70
                      have c70b1 : (t310 != 0) = false := bne_eq_false_iff_eq.mpr c70
                      clear c70
                      by_cases c71 : (wrap64 (t293 + t295)) = t297
                      ·
                       rw [if_pos c71] at H
                       have c71b0 : ((wrap64 (t293 + t295)) == t297) = true := beq_iff_eq.mpr c71
                       have c71b1 : ((wrap64 (t293 + t295)) != t297) = false := bne_eq_false_iff_eq.mpr c71
                       clear c71
                       by_cases c72 : (wrap64 (t299 + t301)) = t303
                       ·
                        rw [if_pos c72] at H
                        have c72b0 : ((wrap64 (t299 + t301)) == t303) = true := beq_iff_eq.mpr c72
                        have c72b1 : ((wrap64 (t299 + t301)) != t303) = false := bne_eq_false_iff_eq.mpr c72
                        clear c72
                        have H' := Aside0.mk H
                        clear H
                        go_wp2
                        go_meet
                        case rel => exact ⟨_, (((wrap64 (t305 + t307)) != t309)), (by first | rfl | (simp; done) | (simp [*]; done)), H', ⟨by have := HJ6.out; first | omega | exact Nat.le_refl _⟩, ⟨by (with_reducible repeat (first | refine blk_drewN ?_ _ | refine blk_drew ?_ | refine blk_alloc ?_ _)); exact BK287.out⟩, ⟨by repeat (first | (with_reducible first | exact HB.out | apply below_alloc | apply pw_below_drewN | apply below_drew1 | refine below_set ?_ GE287.out) | exact HB.out)⟩⟩
                       ·
                        rw [if_neg c72] at H
                        have c72b0 : ((wrap64 (t299 + t301)) == t303) = false := beq_eq_false_iff_ne.mpr c72
                        have c72b1 : ((wrap64 (t299 + t301)) != t303) = true := bne_iff_ne.mpr c72
                        have H' := Aside0.mk H
                        clear H
                        go_wp2
                        go_meet
                        case rel => exact ⟨_, (true), (by first | rfl | (simp; done) | (simp [*]; done)), H', ⟨by have := HJ6.out; first | omega | exact Nat.le_refl _⟩, ⟨by (with_reducible repeat (first | refine blk_drewN ?_ _ | refine blk_drew ?_ | refine blk_alloc ?_ _)); exact BK287.out⟩, ⟨by repeat (first | (with_reducible first | exact HB.out | apply below_alloc | apply pw_below_drewN | apply below_drew1 | refine below_set ?_ GE287.out) | exact HB.out)⟩⟩
                      ·
                       rw [if_neg c71] at H
                       have c71b0 : ((wrap64 (t293 + t295)) == t297) = false := beq_eq_false_iff_ne.mpr c71
                       have c71b1 : ((wrap64 (t293 + t295)) != t297) = true := bne_iff_ne.mpr c71
                       have H' := Aside0.mk H
                       clear H
                       go_wp2
                       go_meet
                       case rel => exact ⟨_, (true), (by first | rfl | (simp; done) | (simp [*]; done)), H', ⟨by have := HJ6.out; first | omega | exact Nat.le_refl _⟩, ⟨by (with_reducible repeat (first | refine blk_drewN ?_ _ | refine blk_drew ?_ | refine blk_alloc ?_ _)); exact BK287.out⟩, ⟨by repeat (first | (with_reducible first | exact HB.out | apply below_alloc | apply pw_below_drewN | apply below_drew1 | refine below_set ?_ GE287.out) | exact HB.out)⟩⟩
                   ·
                    as_aux_lemma =>
                      rw [if_neg c70] at H
                      have c70b0 : (t310 == 0) = false := beq_eq_false_iff_ne.mpr c70
                      have c70b1 : (t310 != 0) = true := bne_iff_ne.mpr c70
                      have H' := Aside0.mk H
                      clear H
                      go_wp2
                      go_meet
                      case rel => exact ⟨_, (true), (by first | rfl | (simp; done) | (simp [*]; done)), H', ⟨by have := HJ6.out; first | omega | exact Nat.le_refl _⟩, ⟨by (with_reducible repeat (first | refine blk_drewN ?_ _ | refine blk_drew ?_ | refine blk_alloc ?_ _)); exact BK287.out⟩, ⟨by repeat (first | (with_reducible first | exact HB.out | apply below_alloc | apply pw_below_drewN | apply below_drew1 | refine below_set ?_ GE287.out) | exact HB.out)⟩⟩
                  ·
                   rw [if_neg c69] at H
                   have c69b0 : (t308 == 0) = false := beq_eq_false_iff_ne.mpr c69
                   have c69b1 : (t308 != 0) = true := bne_iff_ne.mpr c69
                   have H' := Aside0.mk H
                   clear H
                   go_wp2
                   go_meet
                   case rel => exact ⟨_, (true), (by first | rfl | (simp; done) | (simp [*]; done)), H', ⟨by have := HJ6.out; first | omega | exact Nat.le_refl _⟩, ⟨by (with_reducible repeat (first | refine blk_drewN ?_ _ | refine blk_drew ?_ | refine blk_alloc ?_ _)); exact BK287.out⟩, ⟨by repeat (first | (with_reducible first | exact HB.out | apply below_alloc | apply pw_below_drewN | apply below_drew1 | refine below_set ?_ GE287.out) | exact HB.out)⟩⟩
                 ·
                  rw [if_neg c68] at H
                  have c68b0 : (t306 == 0) = false := beq_eq_false_iff_ne.mpr c68
                  have c68b1 : (t306 != 0) = true := bne_iff_ne.mpr c68
                  have H' := Aside0.mk H
                  clear H
                  go_wp2
                  go_meet
                  case rel => exact ⟨_, (true), (by first | rfl | (simp; done) | (simp [*]; done)), H', ⟨by have := HJ6.out; first | omega | exact Nat.le_refl _⟩, ⟨by (with_reducible repeat (first | refine blk_drewN ?_ _ | refine blk_drew ?_ | refine blk_alloc ?_ _)); exact BK287.out⟩, ⟨by repeat (first | (with_reducible first | exact HB.out | apply below_alloc | apply pw_below_drewN | apply below_drew1 | refine below_set ?_ GE287.out) | exact HB.out)⟩⟩
                ·
                 rw [if_neg c67] at H
                 have c67b0 : (t304 == 0) = false := beq_eq_false_iff_ne.mpr c67
                 have c67b1 : (t304 != 0) = true := bne_iff_ne.mpr c67
                 have H' := Aside0.mk H
                 clear H
                 go_wp2
                 go_meet
                 case rel => exact ⟨_, (true), (by first | rfl | (simp; done) | (simp [*]; done)), H', ⟨by have := HJ6.out; first | omega | exact Nat.le_refl _⟩, ⟨by (with_reducible repeat (first | refine blk_drewN ?_ _ | refine blk_drew ?_ | refine blk_alloc ?_ _)); exact BK287.out⟩, ⟨by repeat (first | (with_reducible first | exact HB.out | apply below_alloc | apply pw_below_drewN | apply below_drew1 | refine below_set ?_ GE287.out) | exact HB.out)⟩⟩
             ·
              as_aux_lemma =>
                rw [if_neg c66] at H
                have c66b0 : (t302 == 0) = false := beq_eq_false_iff_ne.mpr c66
                have c66b1 : (t302 != 0) = true := bne_iff_ne.mpr c66
                have H' := Aside0.mk H
                clear H
                go_wp2
                go_meet
                case rel => exact ⟨_, (true), (by first | rfl | (simp; done) | (simp [*]; done)), H', ⟨by have := HJ6.out; first | omega | exact Nat.le_refl _⟩, ⟨by (with_reducible repeat (first | refine blk_drewN ?_ _ | refine blk_drew ?_ | refine blk_alloc ?_ _)); exact BK287.out⟩, ⟨by repeat (first | (with_reducible first | exact HB.out | apply below_alloc | apply pw_below_drewN | apply below_drew1 | refine below_set ?_ GE287.out) | exact HB.out)⟩⟩
            ·
             rw [if_neg c65] at H
             have c65b0 : (t300 == 0) = false := beq_eq_false_iff_ne.mpr c65
             have c65b1 : (t300 != 0) = true := bne_iff_ne.mpr c65
             have H' := Aside0.mk H
             clear H
             go_wp2
             go_meet
             case rel => exact ⟨_, (true), (by first | rfl | (simp; done) | (simp [*]; done)), H', ⟨by have := HJ6.out; first | omega | exact Nat.le_refl _⟩, ⟨by (with_reducible repeat (first | refine blk_drewN ?_ _ | refine blk_drew ?_ | refine blk_alloc ?_ _)); exact BK287.out⟩, ⟨by repeat (first | (with_reducible first | exact HB.out | apply below_alloc | apply pw_below_drewN | apply below_drew1 | refine below_set ?_ GE287.out) | exact HB.out)⟩⟩
           ·
            rw [if_neg c64] at H
            have c64b0 : (t298 == 0) = false := beq_eq_false_iff_ne.mpr c64
            have c64b1 : (t298 != 0) = true := bne_iff_ne.mpr c64
            have H' := Aside0.mk H
            clear H
            go_wp2
            go_meet
            case rel => exact ⟨_, (true), (by first | rfl | (simp; done) | (simp [*]; done)), H', ⟨by have := HJ6.out; first | omega | exact Nat.le_refl _⟩, ⟨by (with_reducible repeat (first | refine blk_drewN ?_ _ | refine blk_drew ?_ | refine blk_alloc ?_ _)); exact BK287.out⟩, ⟨by repeat (first | (with_reducible first | exact HB.out | apply below_alloc | apply pw_below_drewN | apply below_drew1 | refine below_set ?_ GE287.out) | exact HB.out)⟩⟩
          ·
           rw [if_neg c63] at H
           have c63b0 : (t296 == 0) = false := beq_eq_false_iff_ne.mpr c63
           have c63b1 : (t296 != 0) = true := bne_iff_ne.mpr c63
           have H' := Aside0.mk H
           clear H
           go_wp2
           go_meet
           case rel => exact ⟨_, (true), (by first | rfl | (simp; done) | (simp [*]; done)), H', ⟨by have := HJ6.out; first | omega | exact Nat.le_refl _⟩, ⟨by (with_reducible repeat (first | refine blk_drewN ?_ _ | refine blk_drew ?_ | refine blk_alloc ?_ _)); exact BK287.out⟩, ⟨by repeat (first | (with_reducible first | exact HB.out | apply below_alloc | apply pw_below_drewN | apply below_drew1 | refine below_set ?_ GE287.out) | exact HB.out)⟩⟩
       ·
        as_aux_lemma =>
          rw [if_neg c62] at H
          have c62b0 : (t294 == 0) = false := beq_eq_false_iff_ne.mpr c62
          have c62b1 : (t294 != 0) = true := bne_iff_ne.mpr c62
          (first | rw [c62b0] | (simp only [i64_w, i32_w]; rw [c62b0]) | skip)
          have H' := Aside0.mk H
          clear H
          go_wp2
          go_meet
          case rel => exact ⟨_, (true), (by first | rfl | (simp; done) | (simp [*]; done)), H', ⟨by have := HJ6.out; first | omega | exact Nat.le_refl _⟩, ⟨by (with_reducible repeat (first | refine blk_drewN ?_ _ | refine blk_drew ?_ | refine blk_alloc ?_ _)); exact BK287.out⟩, ⟨by repeat (first | (with_reducible first | exact HB.out | apply below_alloc | apply pw_below_drewN | apply below_drew1 | refine below_set ?_ GE287.out) | exact HB.out)⟩⟩
      case rest =>
       clear HC46
       try clear c1
       try clear c2
       try clear p2
       try clear c3
       try clear c6
       try clear p6
       try clear c7
       try clear c9
       try clear c9b0
       try clear c9b1
       try clear c11
       try clear c12
       try clear c12b0
       try clear c15
       try clear c15b0
       try clear c19
       try clear c19b0
       try clear c19b1
       try clear c21
       try clear c21b0
       try clear c21b1
       try clear c23
       try clear c24
       try clear c25
       try clear c34
       try clear c62
       try clear c62b0
       try clear c62b1
       try clear c63
       try clear c63b0
       try clear c63b1
       try clear c64
       try clear c64b0
       try clear c64b1
       try clear p64
       try clear c65
       try clear c65b0
       try clear c65b1
       try clear c66
       try clear c66b0
       try clear c66b1
       try clear c67
       try clear c67b0
       try clear c67b1
       try clear c68
       try clear c68b0
       try clear c68b1
       try clear c69
       try clear c69b0
       try clear c69b1
       try clear c70
       try clear c70b0
       try clear c70b1
       try clear c71
       try clear c71b0
       try clear c71b1
       try clear c72
       try clear c72b0
       try clear c72b1
       try clear hcz13_0
       try clear hcz13_1
       try clear hcz16_0
       try clear hcz16_1
       try clear hcz23_0
       try clear hcz23_1
       try clear hcz26_0
       try clear hcz26_1
       try clear hcz29_0
       try clear hcz29_1
       try clear hcz32_0
       try clear hcz32_1
       try clear hcz50_0
       try clear hcz50_1
       try clear hcz52_0
       try clear hcz52_1
       try clear hcz54_0
       try clear hcz54_1
       try clear hcz56_0
       try clear hcz56_1
       try clear hcz58_0
       try clear hcz58_1
       try clear hcz60_0
       try clear hcz60_1
       try clear hfz13_0
       try clear hfz13_1
       try clear hfz16_0
       try clear hfz16_1
       try clear hfz23_0
       try clear hfz23_1
       try clear hfz26_0
       try clear hfz26_1
       try clear hfz29_0
       try clear hfz29_1
       try clear hfz32_0
       try clear hfz32_1
       try clear hfz50_0
       try clear hfz50_1
       try clear hfz52_0
       try clear hfz52_1
       try clear hfz54_0
       try clear hfz54_1
       try clear hfz56_0
       try clear hfz56_1
       try clear hfz58_0
       try clear hfz58_1
       try clear hfz60_0
       try clear hfz60_1
       try clear p2
       obtain ⟨kq, x200_45, rfl, HA, HJ45, BK287, HB⟩ := hcut
       cases kq with
       | zero => exact absurd HA.out (by simp [plenumlaw44_StatsAdds.j1])
       | succ kj45 =>
        have H := HA.out
        clear HA
        simp only [plenumlaw44_StatsAdds.j1] at H
        by_cases c73 : x200_45 = true
        ·
         as_aux_lemma =>
           subst c73
           have H1 : (some false) = some r := by rw [if_pos rfl] at H; exact H
           clear H
           have H := H1
           clear H1
           obtain rfl := Option.some.inj H
           go_wp2
           go_ret
           exact ⟨by first | rfl | (simp [errW_none, errW_some] <;> rfl) | (simp [*, errW_none, errW_some] <;> rfl), by repeat (first | (with_reducible first | exact HB.out | apply below_alloc | apply pw_below_drewN | apply below_drew1 | refine below_set ?_ GE287.out) | exact HB.out)⟩
        ·
         as_aux_lemma =>
           replace c73 := Bool.eq_false_iff.mpr c73
           subst c73
           have H1 : ((stats_Exceeded.f kj45 l0 a2 a3 a4).bind fun bt311 => ((stats_Exceeded.f kj45 l0 a2 a4 a5).bind fun bt313 => ((stats_Histogram.f kj45 l0 (([a2] : List Int)) a3 a5).bind fun bt318 => ((plenumlaw44_analog.f a2).bind fun bt322 => ((stats_Seconds.f kj45 l0 bt322.1 bt322.2 a3 a5).bind fun bt324 => (if bt311.2 = 0 then (if bt313.2 = 0 then (if bt318.2 = 0 then (if (bt318.1.length : Int) = 2 then ((plenumlaw44_awake.f).bind fun t326 => (if t326 = true then (if bt324.2 = 0 then (if 1 < (bt318.1.length : Int) then (some ((rd bt318.1 1) == (wrap64 ((wrap64 (bt311.1 + bt313.1)) + bt324.1)))) else (none)) else (some true)) else (some false))) else (some false)) else (some false)) else (some false)) else (some false))))))) = some r := by rw [if_neg (show ¬ (false = true) by decide)] at H; exact H
           clear H
           have H := H1
           clear H1
           replace H := Option.bind_eq_some_iff.mp H
           obtain ⟨⟨t311, t312⟩, A740, H⟩ := H
           replace H : ((stats_Exceeded.f kj45 l0 a2 a4 a5).bind fun bt313 => ((stats_Histogram.f kj45 l0 (([a2] : List Int)) a3 a5).bind fun bt318 => ((plenumlaw44_analog.f a2).bind fun bt322 => ((stats_Seconds.f kj45 l0 bt322.1 bt322.2 a3 a5).bind fun bt324 => (if t312 = 0 then (if bt313.2 = 0 then (if bt318.2 = 0 then (if (bt318.1.length : Int) = 2 then ((plenumlaw44_awake.f).bind fun t326 => (if t326 = true then (if bt324.2 = 0 then (if 1 < (bt318.1.length : Int) then (some ((rd bt318.1 1) == (wrap64 ((wrap64 (t311 + bt313.1)) + bt324.1)))) else (none)) else (some true)) else (some false))) else (some false)) else (some false)) else (some false)) else (some false)))))) = some r := H
           have A74 := Aside0.mk A740
           clear A740
           replace H := Option.bind_eq_some_iff.mp H
           obtain ⟨⟨t313, t314⟩, A750, H⟩ := H
           replace H : ((stats_Histogram.f kj45 l0 (([a2] : List Int)) a3 a5).bind fun bt318 => ((plenumlaw44_analog.f a2).bind fun bt322 => ((stats_Seconds.f kj45 l0 bt322.1 bt322.2 a3 a5).bind fun bt324 => (if t312 = 0 then (if t314 = 0 then (if bt318.2 = 0 then (if (bt318.1.length : Int) = 2 then ((plenumlaw44_awake.f).bind fun t326 => (if t326 = true then (if bt324.2 = 0 then (if 1 < (bt318.1.length : Int) then (some ((rd bt318.1 1) == (wrap64 ((wrap64 (t311 + t313)) + bt324.1)))) else (none)) else (some true)) else (some false))) else (some false)) else (some false)) else (some false)) else (some false))))) = some r := H
           have A75 := Aside0.mk A750
           clear A750
           obtain ⟨y315, hy315⟩ : ∃ y_ : List Int, y_ = (([a2] : List Int)) := ⟨_, rfl⟩
           replace H : ((stats_Histogram.f kj45 l0 y315 a3 a5).bind fun bt318 => ((plenumlaw44_analog.f a2).bind fun bt322 => ((stats_Seconds.f kj45 l0 bt322.1 bt322.2 a3 a5).bind fun bt324 => (if t312 = 0 then (if t314 = 0 then (if bt318.2 = 0 then (if (bt318.1.length : Int) = 2 then ((plenumlaw44_awake.f).bind fun t326 => (if t326 = true then (if bt324.2 = 0 then (if 1 < (bt318.1.length : Int) then (some ((rd bt318.1 1) == (wrap64 ((wrap64 (t311 + t313)) + bt324.1)))) else (none)) else (some true)) else (some false))) else (some false)) else (some false)) else (some false)) else (some false))))) = some r := by first | (rw [hy315]; with_reducible exact H) | (have H2_ := (Option.bind_some _ _).symm.trans H; rw [hy315]; with_reducible exact H2_) | (have H2_ := (Option.bind_some _ _).symm.trans H; with_reducible exact H2_) | with_reducible exact H | (rw [hy315]; exact H) | exact H
           have Ny315 := Aside0.mk hy315
           clear hy315
           replace H := Option.bind_eq_some_iff.mp H
           obtain ⟨⟨t318, t319⟩, A760, H⟩ := H
           replace H : ((plenumlaw44_analog.f a2).bind fun bt322 => ((stats_Seconds.f kj45 l0 bt322.1 bt322.2 a3 a5).bind fun bt324 => (if t312 = 0 then (if t314 = 0 then (if t319 = 0 then (if (t318.length : Int) = 2 then ((plenumlaw44_awake.f).bind fun t326 => (if t326 = true then (if bt324.2 = 0 then (if 1 < (t318.length : Int) then (some ((rd t318 1) == (wrap64 ((wrap64 (t311 + t313)) + bt324.1)))) else (none)) else (some true)) else (some false))) else (some false)) else (some false)) else (some false)) else (some false)))) = some r := H
           have A76 := Aside0.mk A760
           clear A760
           replace H := Option.bind_eq_some_iff.mp H
           obtain ⟨⟨t322, t323⟩, A770, H⟩ := H
           replace H : ((stats_Seconds.f kj45 l0 t322 t323 a3 a5).bind fun bt324 => (if t312 = 0 then (if t314 = 0 then (if t319 = 0 then (if (t318.length : Int) = 2 then ((plenumlaw44_awake.f).bind fun t326 => (if t326 = true then (if bt324.2 = 0 then (if 1 < (t318.length : Int) then (some ((rd t318 1) == (wrap64 ((wrap64 (t311 + t313)) + bt324.1)))) else (none)) else (some true)) else (some false))) else (some false)) else (some false)) else (some false)) else (some false))) = some r := H
           have A77 := Aside0.mk A770
           clear A770
           replace H := Option.bind_eq_some_iff.mp H
           obtain ⟨⟨t324, t325⟩, A780, H⟩ := H
           replace H : (if t312 = 0 then (if t314 = 0 then (if t319 = 0 then (if (t318.length : Int) = 2 then ((plenumlaw44_awake.f).bind fun t326 => (if t326 = true then (if t325 = 0 then (if 1 < (t318.length : Int) then (some ((rd t318 1) == (wrap64 ((wrap64 (t311 + t313)) + t324)))) else (none)) else (some true)) else (some false))) else (some false)) else (some false)) else (some false)) else (some false)) = some r := H
           have A78 := Aside0.mk A780
           clear A780
           by_cases c79 : t312 = 0
           ·
            as_aux_lemma =>
              rw [if_pos c79] at H
              have c79b0 : (t312 == 0) = true := beq_iff_eq.mpr c79
              have c79b1 : (t312 != 0) = false := bne_eq_false_iff_eq.mpr c79
              clear c79
              by_cases c80 : t314 = 0
              ·
               rw [if_pos c80] at H
               have c80b0 : (t314 == 0) = true := beq_iff_eq.mpr c80
               have c80b1 : (t314 != 0) = false := bne_eq_false_iff_eq.mpr c80
               clear c80
               by_cases c81 : t319 = 0
               ·
                rw [if_pos c81] at H
                have c81b0 : (t319 == 0) = true := beq_iff_eq.mpr c81
                have c81b1 : (t319 != 0) = false := bne_eq_false_iff_eq.mpr c81
                clear c81
                by_cases c82 : (t318.length : Int) = 2
                ·
                 rw [if_pos c82] at H
                 have c82b0 : ((t318.length : Int) == 2) = true := beq_iff_eq.mpr c82
                 have c82b1 : ((t318.length : Int) != 2) = false := bne_eq_false_iff_eq.mpr c82
                 clear c82
                 replace H := Option.bind_eq_some_iff.mp H
                 obtain ⟨t326, A830, H⟩ := H
                 replace H : (if t326 = true then (if t325 = 0 then (if 1 < (t318.length : Int) then (some ((rd t318 1) == (wrap64 ((wrap64 (t311 + t313)) + t324)))) else (none)) else (some true)) else (some false)) = some r := H
                 have A83 := Aside0.mk A830
                 clear A830
                 by_cases c84 : t326 = true
                 ·
                  subst c84
                  have H1 : (if t325 = 0 then (if 1 < (t318.length : Int) then (some ((rd t318 1) == (wrap64 ((wrap64 (t311 + t313)) + t324)))) else (none)) else (some true)) = some r := by rw [if_pos rfl] at H; exact H
                  clear H
                  have H := H1
                  clear H1
                  by_cases c85 : t325 = 0
                  ·
                   rw [if_pos c85] at H
                   have c85b0 : (t325 == 0) = true := beq_iff_eq.mpr c85
                   have c85b1 : (t325 != 0) = false := bne_eq_false_iff_eq.mpr c85
                   clear c85
                   by_cases c86 : 1 < (t318.length : Int)
                   ·
                    rw [if_pos c86] at H
                    have c86b0 : decide (1 < (t318.length : Int)) = true := decide_eq_true c86
                    have c86b1 : decide (1 < t318.length) = true := decide_eq_true (by omega)
                    clear c86
                    obtain rfl := Option.some.inj H
                    go_wp2_with (first | ((with_reducible refine gate_callee (f := 12) rfl ?_); refine goesL_ (some 206) rfl rfl Try.func12 (by kernel_rfl) rfl #[.slice A0 l0.length c0, .int .i64 a2, .int .i64 a3, .int .i64 a4] rfl (by (try simp only [List.map_toArray, List.map_cons, List.map_nil]); first | done | rfl | (simp only [List.length_drop, List.length_take]; rfl)) ?_; (with_reducible refine (stats_Exceeded.calls kj45 _ _ l0 a2 a3 a4 t311 t312 _ ?side1 ?side2 A74.out).mono ?_); (case side1 => repeat (first | exact (Kd.C_below HR0.out HB.out) | (with_reducible refine Kd.C_alloc ?_ _) | (with_reducible refine Kd.C_drewN ?_ _) | (with_reducible refine Kd.C_drew ?_))); (case side2 => exact HC0.out); rintro e w87 ⟨rfl, hb⟩; refine ⟨_, rfl, ?_⟩; have n0_ := Aside0.mk (blk_below (g := gb287) (o := .cells #[.int .i64 a1_0, .int .i64 a1_1] 45 (0, 0)) (by (with_reducible repeat (first | refine blk_drewN ?_ _ | refine blk_drew ?_ | refine blk_alloc ?_ _)); exact BK287.out) hb); have n1_ := Aside0.mk (below_step (by repeat (first | (with_reducible first | exact HB.out | apply below_alloc | apply pw_below_drewN | apply below_drew1 | refine below_set ?_ GE287.out) | exact HB.out)) hb); clear BK287; clear HB; have BK287 := n0_; have HB := n1_; clear n0_ n1_; (try clear hb); (try clear hb2); (try clear hk); (try clear hi)) | ((with_reducible refine gate_callee (f := 12) rfl ?_); refine goesL_ (some 214) rfl rfl Try.func12 (by kernel_rfl) rfl #[.slice A0 l0.length c0, .int .i64 a2, .int .i64 a4, .int .i64 a5] rfl (by (try simp only [List.map_toArray, List.map_cons, List.map_nil]); first | done | rfl | (simp only [List.length_drop, List.length_take]; rfl)) ?_; (with_reducible refine (stats_Exceeded.calls kj45 _ _ l0 a2 a4 a5 t313 t314 _ ?side1 ?side2 A75.out).mono ?_); (case side1 => repeat (first | exact (Kd.C_below HR0.out HB.out) | (with_reducible refine Kd.C_alloc ?_ _) | (with_reducible refine Kd.C_drewN ?_ _) | (with_reducible refine Kd.C_drew ?_))); (case side2 => exact HC0.out); rintro e w88 ⟨rfl, hb⟩; refine ⟨_, rfl, ?_⟩; have n0_ := Aside0.mk (blk_below (g := gb287) (o := .cells #[.int .i64 a1_0, .int .i64 a1_1] 45 (0, 0)) (by (with_reducible repeat (first | refine blk_drewN ?_ _ | refine blk_drew ?_ | refine blk_alloc ?_ _)); exact BK287.out) hb); have n1_ := Aside0.mk (below_step (by repeat (first | (with_reducible first | exact HB.out | apply below_alloc | apply pw_below_drewN | apply below_drew1 | refine below_set ?_ GE287.out) | exact HB.out)) hb); clear BK287; clear HB; have BK287 := n0_; have HB := n1_; clear n0_ n1_; (try clear hb); (try clear hb2); (try clear hk); (try clear hi)) | ((with_reducible refine gate_dst (N := 220) rfl ?_); (try (refine gate_guard (by rfl) ?_; dsimp only)); refine Kd.R_lit (Kd.int .i64) _ 2 ?hg (N := 220) ?hd (xs := ([a2] : List Int)) (inner := [.int .i64 a2]) (ok := fun _ => True) (okp := fun _ => True) ?hr ?hp (fun _ hk => hk) trivial (Below.refl _ _) (Nat.le_refl _) (by simp) ?_; (case hd => rfl); (case hg => rfl); (case hr => first | (go_simp; done) | (go_simp; rfl)); (case hp => exact (Reps.one (show Kd.M (Kd.int .i64) _ _ _ a2 [.int .i64 a2] from rfl) (Reps.none _ _))); intro v316 w89 ho90 hb hg_ hnew_; clear hg_ hnew_; (first | rw [← Ny315.out] at ho90 | (simp only [Int.reduceToNat] at ho90; rw [← Ny315.out] at ho90)); have n0_ := Aside0.mk (Kd.R_lower ho90 (below_size (by repeat (first | (with_reducible first | exact HB.out | apply below_alloc | apply pw_below_drewN | apply below_drew1 | refine below_set ?_ GE287.out) | exact HB.out)))); have n1_ := Aside0.mk (blk_below (g := gb287) (o := .cells #[.int .i64 a1_0, .int .i64 a1_1] 45 (0, 0)) (by (with_reducible repeat (first | refine blk_drewN ?_ _ | refine blk_drew ?_ | refine blk_alloc ?_ _)); exact BK287.out) hb); have n2_ := Aside0.mk (below_step (by repeat (first | (with_reducible first | exact HB.out | apply below_alloc | apply pw_below_drewN | apply below_drew1 | refine below_set ?_ GE287.out) | exact HB.out)) hb); clear BK287; clear HB; have HO317 := n0_; have BK287 := n1_; have HB := n2_; clear n0_ n1_ n2_; clear hb ho90; obtain ⟨Ao91, co91, eo91⟩ := Kd.R_slice HO317.out; subst eo91) | ((with_reducible refine gate_callee (f := 13) rfl ?_); refine goesL_ (some 223) rfl rfl Try.func13 (by kernel_rfl) rfl #[.slice A0 l0.length c0, .slice Ao91 y315.length co91, .int .i64 a3, .int .i64 a5] rfl (by (try simp only [List.map_toArray, List.map_cons, List.map_nil]); first | done | rfl | (simp only [List.length_drop, List.length_take]; rfl)) ?_; (with_reducible refine (stats_Histogram.calls kj45 _ _ l0 _ _ y315 a3 a5 t318 t319 _ ?side1 ?side2 ?side3 ?side4 A76.out).mono ?_); (case side1 => repeat (first | exact (Kd.C_below HR0.out HB.out) | (with_reducible refine Kd.C_alloc ?_ _) | (with_reducible refine Kd.C_drewN ?_ _) | (with_reducible refine Kd.C_drew ?_))); (case side2 => exact HC0.out); (case side3 => repeat (first | exact (Kd.R_reads' HO317.out).2.2 | (with_reducible refine Kd.C_alloc ?_ _) | (with_reducible refine Kd.C_drewN ?_ _) | (with_reducible refine Kd.C_drew ?_))); (case side4 => exact (Kd.R_reads' HO317.out).2.1); rintro e w92 ⟨v320, rfl, ho0, hb⟩; refine ⟨_, rfl, ?_⟩; have n0_ := Aside0.mk (Kd.R_below (by (with_reducible repeat (first | apply Kd.R_alloc | apply Kd.R_drewN | apply Kd.R_drew)); exact HO317.out) hb); have n1_ := Aside0.mk (Kd.R_lower ho0 (below_size (by repeat (first | (with_reducible first | exact HB.out | apply below_alloc | apply pw_below_drewN | apply below_drew1 | refine below_set ?_ GE287.out) | exact HB.out)))); have n2_ := Aside0.mk (blk_below (g := gb287) (o := .cells #[.int .i64 a1_0, .int .i64 a1_1] 45 (0, 0)) (by (with_reducible repeat (first | refine blk_drewN ?_ _ | refine blk_drew ?_ | refine blk_alloc ?_ _)); exact BK287.out) hb); have n3_ := Aside0.mk (below_step (by repeat (first | (with_reducible first | exact HB.out | apply below_alloc | apply pw_below_drewN | apply below_drew1 | refine below_set ?_ GE287.out) | exact HB.out)) hb); clear HO317; clear BK287; clear HB; have HO317 := n0_; have HO321 := n1_; have BK287 := n2_; have HB := n3_; clear n0_ n1_ n2_ n3_; (try clear hb); (try clear hb2); (try clear hk); (try clear hi); (try clear ho0)) | ((with_reducible refine gate_callee (f := 29) rfl ?_); refine goesL_ (some 229) rfl rfl Try.func29 (by kernel_rfl) rfl #[.int .i64 a2] rfl (by (try simp only [List.map_toArray, List.map_cons, List.map_nil]); first | done | rfl | (simp only [List.length_drop, List.length_take]; rfl)) ?_; (with_reducible refine (plenumlaw44_analog.calls a2 t322 t323 _ A77.out).mono ?_); rintro e w93 ⟨rfl, hb⟩; refine ⟨_, rfl, ?_⟩; have n0_ := Aside0.mk (Kd.R_below (by (with_reducible repeat (first | apply Kd.R_alloc | apply Kd.R_drewN | apply Kd.R_drew)); exact HO317.out) hb); have n1_ := Aside0.mk (Kd.R_below (by (with_reducible repeat (first | apply Kd.R_alloc | apply Kd.R_drewN | apply Kd.R_drew)); exact HO321.out) hb); have n2_ := Aside0.mk (blk_below (g := gb287) (o := .cells #[.int .i64 a1_0, .int .i64 a1_1] 45 (0, 0)) (by (with_reducible repeat (first | refine blk_drewN ?_ _ | refine blk_drew ?_ | refine blk_alloc ?_ _)); exact BK287.out) hb); have n3_ := Aside0.mk (below_step (by repeat (first | (with_reducible first | exact HB.out | apply below_alloc | apply pw_below_drewN | apply below_drew1 | refine below_set ?_ GE287.out) | exact HB.out)) hb); clear HO317; clear HO321; clear BK287; clear HB; have HO317 := n0_; have HO321 := n1_; have BK287 := n2_; have HB := n3_; clear n0_ n1_ n2_ n3_; (try clear hb); (try clear hb2); (try clear hk); (try clear hi)) | ((with_reducible refine gate_callee (f := 24) rfl ?_); refine goesL_ (some 232) rfl rfl Try.func24 (by kernel_rfl) rfl #[.slice A0 l0.length c0, .agg #[.int .i64 t322, .int .i64 t323], .int .i64 a3, .int .i64 a5] rfl (by (try simp only [List.map_toArray, List.map_cons, List.map_nil]); first | done | rfl | (simp only [List.length_drop, List.length_take]; rfl)) ?_; (with_reducible refine (stats_Seconds.calls kj45 _ _ l0 t322 t323 a3 a5 t324 t325 _ ?side1 ?side2 A78.out).mono ?_); (case side1 => repeat (first | exact (Kd.C_below HR0.out HB.out) | (with_reducible refine Kd.C_alloc ?_ _) | (with_reducible refine Kd.C_drewN ?_ _) | (with_reducible refine Kd.C_drew ?_))); (case side2 => exact HC0.out); rintro e w94 ⟨rfl, hb⟩; refine ⟨_, rfl, ?_⟩; have n0_ := Aside0.mk (Kd.R_below (by (with_reducible repeat (first | apply Kd.R_alloc | apply Kd.R_drewN | apply Kd.R_drew)); exact HO317.out) hb); have n1_ := Aside0.mk (Kd.R_below (by (with_reducible repeat (first | apply Kd.R_alloc | apply Kd.R_drewN | apply Kd.R_drew)); exact HO321.out) hb); have n2_ := Aside0.mk (blk_below (g := gb287) (o := .cells #[.int .i64 a1_0, .int .i64 a1_1] 45 (0, 0)) (by (with_reducible repeat (first | refine blk_drewN ?_ _ | refine blk_drew ?_ | refine blk_alloc ?_ _)); exact BK287.out) hb); have n3_ := Aside0.mk (below_step (by repeat (first | (with_reducible first | exact HB.out | apply below_alloc | apply pw_below_drewN | apply below_drew1 | refine below_set ?_ GE287.out) | exact HB.out)) hb); clear HO317; clear HO321; clear BK287; clear HB; have HO317 := n0_; have HO321 := n1_; have BK287 := n2_; have HB := n3_; clear n0_ n1_ n2_ n3_; (try clear hb); (try clear hb2); (try clear hk); (try clear hi); obtain ⟨Ao95, co95, eo95⟩ := Kd.R_slice HO321.out; subst eo95) | ((with_reducible refine gate_callee (f := 11) rfl ?_); refine goesL_ (some 250) rfl rfl Try.func11 (by kernel_rfl) rfl #[] rfl (by (try simp only [List.map_toArray, List.map_cons, List.map_nil]); first | done | rfl | (simp only [List.length_drop, List.length_take]; rfl)) ?_; (with_reducible refine (plenumlaw44_awake.calls  true _ A83.out).mono ?_); rintro e w96 ⟨rfl, hb⟩; refine ⟨_, rfl, ?_⟩; have n0_ := Aside0.mk (Kd.R_below (by (with_reducible repeat (first | apply Kd.R_alloc | apply Kd.R_drewN | apply Kd.R_drew)); exact HO317.out) hb); have n1_ := Aside0.mk (Kd.R_below (by (with_reducible repeat (first | apply Kd.R_alloc | apply Kd.R_drewN | apply Kd.R_drew)); exact HO321.out) hb); have n2_ := Aside0.mk (blk_below (g := gb287) (o := .cells #[.int .i64 a1_0, .int .i64 a1_1] 45 (0, 0)) (by (with_reducible repeat (first | refine blk_drewN ?_ _ | refine blk_drew ?_ | refine blk_alloc ?_ _)); exact BK287.out) hb); have n3_ := Aside0.mk (below_step (by repeat (first | (with_reducible first | exact HB.out | apply below_alloc | apply pw_below_drewN | apply below_drew1 | refine below_set ?_ GE287.out) | exact HB.out)) hb); clear HO317; clear HO321; clear BK287; clear HB; have HO317 := n0_; have HO321 := n1_; have BK287 := n2_; have HB := n3_; clear n0_ n1_ n2_ n3_; (try clear hb); (try clear hb2); (try clear hk); (try clear hi); have p327 : 0 ≤ (1 : Int) := (by omega); have q327 : 1 < (t318.length : Int) := of_decide_eq_true (by first | (with_reducible assumption) | assumption); obtain ⟨ad327, e327, hx327_0⟩ := Kd.at_int (Kd.R_reads' HO321.out).2.2 1 p327 q327; cases e327; (try simp only [show (1 : Int).toNat = 1 from rfl, Nat.reduceMul, Nat.reduceEqDiff, Go.Addr.add, ↓reduceIte] at hx327_0); have qi327 : (1 < t318.length) = True := eq_true (by omega); (try rw [show ((1 : Int)).toNat = 1 from rfl] at hx327_0); replace p327 := eq_true p327; replace q327 := eq_true q327))
                    go_ret
                    exact ⟨by first | rfl | (simp [errW_none, errW_some] <;> rfl) | (simp [*, errW_none, errW_some] <;> rfl), by repeat (first | (with_reducible first | exact HB.out | apply below_alloc | apply pw_below_drewN | apply below_drew1 | refine below_set ?_ GE287.out) | exact HB.out)⟩
                   ·
                    rw [if_neg c86] at H
                    exact absurd H (by simp)
                  ·
                   rw [if_neg c85] at H
                   have c85b0 : (t325 == 0) = false := beq_eq_false_iff_ne.mpr c85
                   have c85b1 : (t325 != 0) = true := bne_iff_ne.mpr c85
                   obtain rfl := Option.some.inj H
                   go_wp2_with (first | ((with_reducible refine gate_callee (f := 12) rfl ?_); refine goesL_ (some 206) rfl rfl Try.func12 (by kernel_rfl) rfl #[.slice A0 l0.length c0, .int .i64 a2, .int .i64 a3, .int .i64 a4] rfl (by (try simp only [List.map_toArray, List.map_cons, List.map_nil]); first | done | rfl | (simp only [List.length_drop, List.length_take]; rfl)) ?_; (with_reducible refine (stats_Exceeded.calls kj45 _ _ l0 a2 a3 a4 t311 t312 _ ?side1 ?side2 A74.out).mono ?_); (case side1 => repeat (first | exact (Kd.C_below HR0.out HB.out) | (with_reducible refine Kd.C_alloc ?_ _) | (with_reducible refine Kd.C_drewN ?_ _) | (with_reducible refine Kd.C_drew ?_))); (case side2 => exact HC0.out); rintro e w97 ⟨rfl, hb⟩; refine ⟨_, rfl, ?_⟩; have n0_ := Aside0.mk (blk_below (g := gb287) (o := .cells #[.int .i64 a1_0, .int .i64 a1_1] 45 (0, 0)) (by (with_reducible repeat (first | refine blk_drewN ?_ _ | refine blk_drew ?_ | refine blk_alloc ?_ _)); exact BK287.out) hb); have n1_ := Aside0.mk (below_step (by repeat (first | (with_reducible first | exact HB.out | apply below_alloc | apply pw_below_drewN | apply below_drew1 | refine below_set ?_ GE287.out) | exact HB.out)) hb); clear BK287; clear HB; have BK287 := n0_; have HB := n1_; clear n0_ n1_; (try clear hb); (try clear hb2); (try clear hk); (try clear hi)) | ((with_reducible refine gate_callee (f := 12) rfl ?_); refine goesL_ (some 214) rfl rfl Try.func12 (by kernel_rfl) rfl #[.slice A0 l0.length c0, .int .i64 a2, .int .i64 a4, .int .i64 a5] rfl (by (try simp only [List.map_toArray, List.map_cons, List.map_nil]); first | done | rfl | (simp only [List.length_drop, List.length_take]; rfl)) ?_; (with_reducible refine (stats_Exceeded.calls kj45 _ _ l0 a2 a4 a5 t313 t314 _ ?side1 ?side2 A75.out).mono ?_); (case side1 => repeat (first | exact (Kd.C_below HR0.out HB.out) | (with_reducible refine Kd.C_alloc ?_ _) | (with_reducible refine Kd.C_drewN ?_ _) | (with_reducible refine Kd.C_drew ?_))); (case side2 => exact HC0.out); rintro e w98 ⟨rfl, hb⟩; refine ⟨_, rfl, ?_⟩; have n0_ := Aside0.mk (blk_below (g := gb287) (o := .cells #[.int .i64 a1_0, .int .i64 a1_1] 45 (0, 0)) (by (with_reducible repeat (first | refine blk_drewN ?_ _ | refine blk_drew ?_ | refine blk_alloc ?_ _)); exact BK287.out) hb); have n1_ := Aside0.mk (below_step (by repeat (first | (with_reducible first | exact HB.out | apply below_alloc | apply pw_below_drewN | apply below_drew1 | refine below_set ?_ GE287.out) | exact HB.out)) hb); clear BK287; clear HB; have BK287 := n0_; have HB := n1_; clear n0_ n1_; (try clear hb); (try clear hb2); (try clear hk); (try clear hi)) | ((with_reducible refine gate_dst (N := 220) rfl ?_); (try (refine gate_guard (by rfl) ?_; dsimp only)); refine Kd.R_lit (Kd.int .i64) _ 2 ?hg (N := 220) ?hd (xs := ([a2] : List Int)) (inner := [.int .i64 a2]) (ok := fun _ => True) (okp := fun _ => True) ?hr ?hp (fun _ hk => hk) trivial (Below.refl _ _) (Nat.le_refl _) (by simp) ?_; (case hd => rfl); (case hg => rfl); (case hr => first | (go_simp; done) | (go_simp; rfl)); (case hp => exact (Reps.one (show Kd.M (Kd.int .i64) _ _ _ a2 [.int .i64 a2] from rfl) (Reps.none _ _))); intro v316 w99 ho100 hb hg_ hnew_; clear hg_ hnew_; (first | rw [← Ny315.out] at ho100 | (simp only [Int.reduceToNat] at ho100; rw [← Ny315.out] at ho100)); have n0_ := Aside0.mk (Kd.R_lower ho100 (below_size (by repeat (first | (with_reducible first | exact HB.out | apply below_alloc | apply pw_below_drewN | apply below_drew1 | refine below_set ?_ GE287.out) | exact HB.out)))); have n1_ := Aside0.mk (blk_below (g := gb287) (o := .cells #[.int .i64 a1_0, .int .i64 a1_1] 45 (0, 0)) (by (with_reducible repeat (first | refine blk_drewN ?_ _ | refine blk_drew ?_ | refine blk_alloc ?_ _)); exact BK287.out) hb); have n2_ := Aside0.mk (below_step (by repeat (first | (with_reducible first | exact HB.out | apply below_alloc | apply pw_below_drewN | apply below_drew1 | refine below_set ?_ GE287.out) | exact HB.out)) hb); clear BK287; clear HB; have HO317 := n0_; have BK287 := n1_; have HB := n2_; clear n0_ n1_ n2_; clear hb ho100; obtain ⟨Ao101, co101, eo101⟩ := Kd.R_slice HO317.out; subst eo101) | ((with_reducible refine gate_callee (f := 13) rfl ?_); refine goesL_ (some 223) rfl rfl Try.func13 (by kernel_rfl) rfl #[.slice A0 l0.length c0, .slice Ao101 y315.length co101, .int .i64 a3, .int .i64 a5] rfl (by (try simp only [List.map_toArray, List.map_cons, List.map_nil]); first | done | rfl | (simp only [List.length_drop, List.length_take]; rfl)) ?_; (with_reducible refine (stats_Histogram.calls kj45 _ _ l0 _ _ y315 a3 a5 t318 t319 _ ?side1 ?side2 ?side3 ?side4 A76.out).mono ?_); (case side1 => repeat (first | exact (Kd.C_below HR0.out HB.out) | (with_reducible refine Kd.C_alloc ?_ _) | (with_reducible refine Kd.C_drewN ?_ _) | (with_reducible refine Kd.C_drew ?_))); (case side2 => exact HC0.out); (case side3 => repeat (first | exact (Kd.R_reads' HO317.out).2.2 | (with_reducible refine Kd.C_alloc ?_ _) | (with_reducible refine Kd.C_drewN ?_ _) | (with_reducible refine Kd.C_drew ?_))); (case side4 => exact (Kd.R_reads' HO317.out).2.1); rintro e w102 ⟨v320, rfl, ho0, hb⟩; refine ⟨_, rfl, ?_⟩; have n0_ := Aside0.mk (Kd.R_below (by (with_reducible repeat (first | apply Kd.R_alloc | apply Kd.R_drewN | apply Kd.R_drew)); exact HO317.out) hb); have n1_ := Aside0.mk (Kd.R_lower ho0 (below_size (by repeat (first | (with_reducible first | exact HB.out | apply below_alloc | apply pw_below_drewN | apply below_drew1 | refine below_set ?_ GE287.out) | exact HB.out)))); have n2_ := Aside0.mk (blk_below (g := gb287) (o := .cells #[.int .i64 a1_0, .int .i64 a1_1] 45 (0, 0)) (by (with_reducible repeat (first | refine blk_drewN ?_ _ | refine blk_drew ?_ | refine blk_alloc ?_ _)); exact BK287.out) hb); have n3_ := Aside0.mk (below_step (by repeat (first | (with_reducible first | exact HB.out | apply below_alloc | apply pw_below_drewN | apply below_drew1 | refine below_set ?_ GE287.out) | exact HB.out)) hb); clear HO317; clear BK287; clear HB; have HO317 := n0_; have HO321 := n1_; have BK287 := n2_; have HB := n3_; clear n0_ n1_ n2_ n3_; (try clear hb); (try clear hb2); (try clear hk); (try clear hi); (try clear ho0)) | ((with_reducible refine gate_callee (f := 29) rfl ?_); refine goesL_ (some 229) rfl rfl Try.func29 (by kernel_rfl) rfl #[.int .i64 a2] rfl (by (try simp only [List.map_toArray, List.map_cons, List.map_nil]); first | done | rfl | (simp only [List.length_drop, List.length_take]; rfl)) ?_; (with_reducible refine (plenumlaw44_analog.calls a2 t322 t323 _ A77.out).mono ?_); rintro e w103 ⟨rfl, hb⟩; refine ⟨_, rfl, ?_⟩; have n0_ := Aside0.mk (Kd.R_below (by (with_reducible repeat (first | apply Kd.R_alloc | apply Kd.R_drewN | apply Kd.R_drew)); exact HO317.out) hb); have n1_ := Aside0.mk (Kd.R_below (by (with_reducible repeat (first | apply Kd.R_alloc | apply Kd.R_drewN | apply Kd.R_drew)); exact HO321.out) hb); have n2_ := Aside0.mk (blk_below (g := gb287) (o := .cells #[.int .i64 a1_0, .int .i64 a1_1] 45 (0, 0)) (by (with_reducible repeat (first | refine blk_drewN ?_ _ | refine blk_drew ?_ | refine blk_alloc ?_ _)); exact BK287.out) hb); have n3_ := Aside0.mk (below_step (by repeat (first | (with_reducible first | exact HB.out | apply below_alloc | apply pw_below_drewN | apply below_drew1 | refine below_set ?_ GE287.out) | exact HB.out)) hb); clear HO317; clear HO321; clear BK287; clear HB; have HO317 := n0_; have HO321 := n1_; have BK287 := n2_; have HB := n3_; clear n0_ n1_ n2_ n3_; (try clear hb); (try clear hb2); (try clear hk); (try clear hi)) | ((with_reducible refine gate_callee (f := 24) rfl ?_); refine goesL_ (some 232) rfl rfl Try.func24 (by kernel_rfl) rfl #[.slice A0 l0.length c0, .agg #[.int .i64 t322, .int .i64 t323], .int .i64 a3, .int .i64 a5] rfl (by (try simp only [List.map_toArray, List.map_cons, List.map_nil]); first | done | rfl | (simp only [List.length_drop, List.length_take]; rfl)) ?_; (with_reducible refine (stats_Seconds.calls kj45 _ _ l0 t322 t323 a3 a5 t324 t325 _ ?side1 ?side2 A78.out).mono ?_); (case side1 => repeat (first | exact (Kd.C_below HR0.out HB.out) | (with_reducible refine Kd.C_alloc ?_ _) | (with_reducible refine Kd.C_drewN ?_ _) | (with_reducible refine Kd.C_drew ?_))); (case side2 => exact HC0.out); rintro e w104 ⟨rfl, hb⟩; refine ⟨_, rfl, ?_⟩; have n0_ := Aside0.mk (Kd.R_below (by (with_reducible repeat (first | apply Kd.R_alloc | apply Kd.R_drewN | apply Kd.R_drew)); exact HO317.out) hb); have n1_ := Aside0.mk (Kd.R_below (by (with_reducible repeat (first | apply Kd.R_alloc | apply Kd.R_drewN | apply Kd.R_drew)); exact HO321.out) hb); have n2_ := Aside0.mk (blk_below (g := gb287) (o := .cells #[.int .i64 a1_0, .int .i64 a1_1] 45 (0, 0)) (by (with_reducible repeat (first | refine blk_drewN ?_ _ | refine blk_drew ?_ | refine blk_alloc ?_ _)); exact BK287.out) hb); have n3_ := Aside0.mk (below_step (by repeat (first | (with_reducible first | exact HB.out | apply below_alloc | apply pw_below_drewN | apply below_drew1 | refine below_set ?_ GE287.out) | exact HB.out)) hb); clear HO317; clear HO321; clear BK287; clear HB; have HO317 := n0_; have HO321 := n1_; have BK287 := n2_; have HB := n3_; clear n0_ n1_ n2_ n3_; (try clear hb); (try clear hb2); (try clear hk); (try clear hi); obtain ⟨Ao105, co105, eo105⟩ := Kd.R_slice HO321.out; subst eo105) | ((with_reducible refine gate_callee (f := 11) rfl ?_); refine goesL_ (some 250) rfl rfl Try.func11 (by kernel_rfl) rfl #[] rfl (by (try simp only [List.map_toArray, List.map_cons, List.map_nil]); first | done | rfl | (simp only [List.length_drop, List.length_take]; rfl)) ?_; (with_reducible refine (plenumlaw44_awake.calls  true _ A83.out).mono ?_); rintro e w106 ⟨rfl, hb⟩; refine ⟨_, rfl, ?_⟩; have n0_ := Aside0.mk (Kd.R_below (by (with_reducible repeat (first | apply Kd.R_alloc | apply Kd.R_drewN | apply Kd.R_drew)); exact HO317.out) hb); have n1_ := Aside0.mk (Kd.R_below (by (with_reducible repeat (first | apply Kd.R_alloc | apply Kd.R_drewN | apply Kd.R_drew)); exact HO321.out) hb); have n2_ := Aside0.mk (blk_below (g := gb287) (o := .cells #[.int .i64 a1_0, .int .i64 a1_1] 45 (0, 0)) (by (with_reducible repeat (first | refine blk_drewN ?_ _ | refine blk_drew ?_ | refine blk_alloc ?_ _)); exact BK287.out) hb); have n3_ := Aside0.mk (below_step (by repeat (first | (with_reducible first | exact HB.out | apply below_alloc | apply pw_below_drewN | apply below_drew1 | refine below_set ?_ GE287.out) | exact HB.out)) hb); clear HO317; clear HO321; clear BK287; clear HB; have HO317 := n0_; have HO321 := n1_; have BK287 := n2_; have HB := n3_; clear n0_ n1_ n2_ n3_; (try clear hb); (try clear hb2); (try clear hk); (try clear hi)))
                   go_ret
                   exact ⟨by first | rfl | (simp [errW_none, errW_some] <;> rfl) | (simp [*, errW_none, errW_some] <;> rfl), by repeat (first | (with_reducible first | exact HB.out | apply below_alloc | apply pw_below_drewN | apply below_drew1 | refine below_set ?_ GE287.out) | exact HB.out)⟩
                 ·
                  replace c84 := Bool.eq_false_iff.mpr c84
                  subst c84
                  have H1 : (some false) = some r := by rw [if_neg (show ¬ (false = true) by decide)] at H; exact H
                  clear H
                  have H := H1
                  clear H1
                  obtain rfl := Option.some.inj H
                  go_wp2_with (first | ((with_reducible refine gate_callee (f := 12) rfl ?_); refine goesL_ (some 206) rfl rfl Try.func12 (by kernel_rfl) rfl #[.slice A0 l0.length c0, .int .i64 a2, .int .i64 a3, .int .i64 a4] rfl (by (try simp only [List.map_toArray, List.map_cons, List.map_nil]); first | done | rfl | (simp only [List.length_drop, List.length_take]; rfl)) ?_; (with_reducible refine (stats_Exceeded.calls kj45 _ _ l0 a2 a3 a4 t311 t312 _ ?side1 ?side2 A74.out).mono ?_); (case side1 => repeat (first | exact (Kd.C_below HR0.out HB.out) | (with_reducible refine Kd.C_alloc ?_ _) | (with_reducible refine Kd.C_drewN ?_ _) | (with_reducible refine Kd.C_drew ?_))); (case side2 => exact HC0.out); rintro e w107 ⟨rfl, hb⟩; refine ⟨_, rfl, ?_⟩; have n0_ := Aside0.mk (blk_below (g := gb287) (o := .cells #[.int .i64 a1_0, .int .i64 a1_1] 45 (0, 0)) (by (with_reducible repeat (first | refine blk_drewN ?_ _ | refine blk_drew ?_ | refine blk_alloc ?_ _)); exact BK287.out) hb); have n1_ := Aside0.mk (below_step (by repeat (first | (with_reducible first | exact HB.out | apply below_alloc | apply pw_below_drewN | apply below_drew1 | refine below_set ?_ GE287.out) | exact HB.out)) hb); clear BK287; clear HB; have BK287 := n0_; have HB := n1_; clear n0_ n1_; (try clear hb); (try clear hb2); (try clear hk); (try clear hi)) | ((with_reducible refine gate_callee (f := 12) rfl ?_); refine goesL_ (some 214) rfl rfl Try.func12 (by kernel_rfl) rfl #[.slice A0 l0.length c0, .int .i64 a2, .int .i64 a4, .int .i64 a5] rfl (by (try simp only [List.map_toArray, List.map_cons, List.map_nil]); first | done | rfl | (simp only [List.length_drop, List.length_take]; rfl)) ?_; (with_reducible refine (stats_Exceeded.calls kj45 _ _ l0 a2 a4 a5 t313 t314 _ ?side1 ?side2 A75.out).mono ?_); (case side1 => repeat (first | exact (Kd.C_below HR0.out HB.out) | (with_reducible refine Kd.C_alloc ?_ _) | (with_reducible refine Kd.C_drewN ?_ _) | (with_reducible refine Kd.C_drew ?_))); (case side2 => exact HC0.out); rintro e w108 ⟨rfl, hb⟩; refine ⟨_, rfl, ?_⟩; have n0_ := Aside0.mk (blk_below (g := gb287) (o := .cells #[.int .i64 a1_0, .int .i64 a1_1] 45 (0, 0)) (by (with_reducible repeat (first | refine blk_drewN ?_ _ | refine blk_drew ?_ | refine blk_alloc ?_ _)); exact BK287.out) hb); have n1_ := Aside0.mk (below_step (by repeat (first | (with_reducible first | exact HB.out | apply below_alloc | apply pw_below_drewN | apply below_drew1 | refine below_set ?_ GE287.out) | exact HB.out)) hb); clear BK287; clear HB; have BK287 := n0_; have HB := n1_; clear n0_ n1_; (try clear hb); (try clear hb2); (try clear hk); (try clear hi)) | ((with_reducible refine gate_dst (N := 220) rfl ?_); (try (refine gate_guard (by rfl) ?_; dsimp only)); refine Kd.R_lit (Kd.int .i64) _ 2 ?hg (N := 220) ?hd (xs := ([a2] : List Int)) (inner := [.int .i64 a2]) (ok := fun _ => True) (okp := fun _ => True) ?hr ?hp (fun _ hk => hk) trivial (Below.refl _ _) (Nat.le_refl _) (by simp) ?_; (case hd => rfl); (case hg => rfl); (case hr => first | (go_simp; done) | (go_simp; rfl)); (case hp => exact (Reps.one (show Kd.M (Kd.int .i64) _ _ _ a2 [.int .i64 a2] from rfl) (Reps.none _ _))); intro v316 w109 ho110 hb hg_ hnew_; clear hg_ hnew_; (first | rw [← Ny315.out] at ho110 | (simp only [Int.reduceToNat] at ho110; rw [← Ny315.out] at ho110)); have n0_ := Aside0.mk (Kd.R_lower ho110 (below_size (by repeat (first | (with_reducible first | exact HB.out | apply below_alloc | apply pw_below_drewN | apply below_drew1 | refine below_set ?_ GE287.out) | exact HB.out)))); have n1_ := Aside0.mk (blk_below (g := gb287) (o := .cells #[.int .i64 a1_0, .int .i64 a1_1] 45 (0, 0)) (by (with_reducible repeat (first | refine blk_drewN ?_ _ | refine blk_drew ?_ | refine blk_alloc ?_ _)); exact BK287.out) hb); have n2_ := Aside0.mk (below_step (by repeat (first | (with_reducible first | exact HB.out | apply below_alloc | apply pw_below_drewN | apply below_drew1 | refine below_set ?_ GE287.out) | exact HB.out)) hb); clear BK287; clear HB; have HO317 := n0_; have BK287 := n1_; have HB := n2_; clear n0_ n1_ n2_; clear hb ho110; obtain ⟨Ao111, co111, eo111⟩ := Kd.R_slice HO317.out; subst eo111) | ((with_reducible refine gate_callee (f := 13) rfl ?_); refine goesL_ (some 223) rfl rfl Try.func13 (by kernel_rfl) rfl #[.slice A0 l0.length c0, .slice Ao111 y315.length co111, .int .i64 a3, .int .i64 a5] rfl (by (try simp only [List.map_toArray, List.map_cons, List.map_nil]); first | done | rfl | (simp only [List.length_drop, List.length_take]; rfl)) ?_; (with_reducible refine (stats_Histogram.calls kj45 _ _ l0 _ _ y315 a3 a5 t318 t319 _ ?side1 ?side2 ?side3 ?side4 A76.out).mono ?_); (case side1 => repeat (first | exact (Kd.C_below HR0.out HB.out) | (with_reducible refine Kd.C_alloc ?_ _) | (with_reducible refine Kd.C_drewN ?_ _) | (with_reducible refine Kd.C_drew ?_))); (case side2 => exact HC0.out); (case side3 => repeat (first | exact (Kd.R_reads' HO317.out).2.2 | (with_reducible refine Kd.C_alloc ?_ _) | (with_reducible refine Kd.C_drewN ?_ _) | (with_reducible refine Kd.C_drew ?_))); (case side4 => exact (Kd.R_reads' HO317.out).2.1); rintro e w112 ⟨v320, rfl, ho0, hb⟩; refine ⟨_, rfl, ?_⟩; have n0_ := Aside0.mk (Kd.R_below (by (with_reducible repeat (first | apply Kd.R_alloc | apply Kd.R_drewN | apply Kd.R_drew)); exact HO317.out) hb); have n1_ := Aside0.mk (Kd.R_lower ho0 (below_size (by repeat (first | (with_reducible first | exact HB.out | apply below_alloc | apply pw_below_drewN | apply below_drew1 | refine below_set ?_ GE287.out) | exact HB.out)))); have n2_ := Aside0.mk (blk_below (g := gb287) (o := .cells #[.int .i64 a1_0, .int .i64 a1_1] 45 (0, 0)) (by (with_reducible repeat (first | refine blk_drewN ?_ _ | refine blk_drew ?_ | refine blk_alloc ?_ _)); exact BK287.out) hb); have n3_ := Aside0.mk (below_step (by repeat (first | (with_reducible first | exact HB.out | apply below_alloc | apply pw_below_drewN | apply below_drew1 | refine below_set ?_ GE287.out) | exact HB.out)) hb); clear HO317; clear BK287; clear HB; have HO317 := n0_; have HO321 := n1_; have BK287 := n2_; have HB := n3_; clear n0_ n1_ n2_ n3_; (try clear hb); (try clear hb2); (try clear hk); (try clear hi); (try clear ho0)) | ((with_reducible refine gate_callee (f := 29) rfl ?_); refine goesL_ (some 229) rfl rfl Try.func29 (by kernel_rfl) rfl #[.int .i64 a2] rfl (by (try simp only [List.map_toArray, List.map_cons, List.map_nil]); first | done | rfl | (simp only [List.length_drop, List.length_take]; rfl)) ?_; (with_reducible refine (plenumlaw44_analog.calls a2 t322 t323 _ A77.out).mono ?_); rintro e w113 ⟨rfl, hb⟩; refine ⟨_, rfl, ?_⟩; have n0_ := Aside0.mk (Kd.R_below (by (with_reducible repeat (first | apply Kd.R_alloc | apply Kd.R_drewN | apply Kd.R_drew)); exact HO317.out) hb); have n1_ := Aside0.mk (Kd.R_below (by (with_reducible repeat (first | apply Kd.R_alloc | apply Kd.R_drewN | apply Kd.R_drew)); exact HO321.out) hb); have n2_ := Aside0.mk (blk_below (g := gb287) (o := .cells #[.int .i64 a1_0, .int .i64 a1_1] 45 (0, 0)) (by (with_reducible repeat (first | refine blk_drewN ?_ _ | refine blk_drew ?_ | refine blk_alloc ?_ _)); exact BK287.out) hb); have n3_ := Aside0.mk (below_step (by repeat (first | (with_reducible first | exact HB.out | apply below_alloc | apply pw_below_drewN | apply below_drew1 | refine below_set ?_ GE287.out) | exact HB.out)) hb); clear HO317; clear HO321; clear BK287; clear HB; have HO317 := n0_; have HO321 := n1_; have BK287 := n2_; have HB := n3_; clear n0_ n1_ n2_ n3_; (try clear hb); (try clear hb2); (try clear hk); (try clear hi)) | ((with_reducible refine gate_callee (f := 24) rfl ?_); refine goesL_ (some 232) rfl rfl Try.func24 (by kernel_rfl) rfl #[.slice A0 l0.length c0, .agg #[.int .i64 t322, .int .i64 t323], .int .i64 a3, .int .i64 a5] rfl (by (try simp only [List.map_toArray, List.map_cons, List.map_nil]); first | done | rfl | (simp only [List.length_drop, List.length_take]; rfl)) ?_; (with_reducible refine (stats_Seconds.calls kj45 _ _ l0 t322 t323 a3 a5 t324 t325 _ ?side1 ?side2 A78.out).mono ?_); (case side1 => repeat (first | exact (Kd.C_below HR0.out HB.out) | (with_reducible refine Kd.C_alloc ?_ _) | (with_reducible refine Kd.C_drewN ?_ _) | (with_reducible refine Kd.C_drew ?_))); (case side2 => exact HC0.out); rintro e w114 ⟨rfl, hb⟩; refine ⟨_, rfl, ?_⟩; have n0_ := Aside0.mk (Kd.R_below (by (with_reducible repeat (first | apply Kd.R_alloc | apply Kd.R_drewN | apply Kd.R_drew)); exact HO317.out) hb); have n1_ := Aside0.mk (Kd.R_below (by (with_reducible repeat (first | apply Kd.R_alloc | apply Kd.R_drewN | apply Kd.R_drew)); exact HO321.out) hb); have n2_ := Aside0.mk (blk_below (g := gb287) (o := .cells #[.int .i64 a1_0, .int .i64 a1_1] 45 (0, 0)) (by (with_reducible repeat (first | refine blk_drewN ?_ _ | refine blk_drew ?_ | refine blk_alloc ?_ _)); exact BK287.out) hb); have n3_ := Aside0.mk (below_step (by repeat (first | (with_reducible first | exact HB.out | apply below_alloc | apply pw_below_drewN | apply below_drew1 | refine below_set ?_ GE287.out) | exact HB.out)) hb); clear HO317; clear HO321; clear BK287; clear HB; have HO317 := n0_; have HO321 := n1_; have BK287 := n2_; have HB := n3_; clear n0_ n1_ n2_ n3_; (try clear hb); (try clear hb2); (try clear hk); (try clear hi); obtain ⟨Ao115, co115, eo115⟩ := Kd.R_slice HO321.out; subst eo115) | ((with_reducible refine gate_callee (f := 11) rfl ?_); refine goesL_ (some 250) rfl rfl Try.func11 (by kernel_rfl) rfl #[] rfl (by (try simp only [List.map_toArray, List.map_cons, List.map_nil]); first | done | rfl | (simp only [List.length_drop, List.length_take]; rfl)) ?_; (with_reducible refine (plenumlaw44_awake.calls  false _ A83.out).mono ?_); rintro e w116 ⟨rfl, hb⟩; refine ⟨_, rfl, ?_⟩; have n0_ := Aside0.mk (Kd.R_below (by (with_reducible repeat (first | apply Kd.R_alloc | apply Kd.R_drewN | apply Kd.R_drew)); exact HO317.out) hb); have n1_ := Aside0.mk (Kd.R_below (by (with_reducible repeat (first | apply Kd.R_alloc | apply Kd.R_drewN | apply Kd.R_drew)); exact HO321.out) hb); have n2_ := Aside0.mk (blk_below (g := gb287) (o := .cells #[.int .i64 a1_0, .int .i64 a1_1] 45 (0, 0)) (by (with_reducible repeat (first | refine blk_drewN ?_ _ | refine blk_drew ?_ | refine blk_alloc ?_ _)); exact BK287.out) hb); have n3_ := Aside0.mk (below_step (by repeat (first | (with_reducible first | exact HB.out | apply below_alloc | apply pw_below_drewN | apply below_drew1 | refine below_set ?_ GE287.out) | exact HB.out)) hb); clear HO317; clear HO321; clear BK287; clear HB; have HO317 := n0_; have HO321 := n1_; have BK287 := n2_; have HB := n3_; clear n0_ n1_ n2_ n3_; (try clear hb); (try clear hb2); (try clear hk); (try clear hi)))
                  go_ret
                  exact ⟨by first | rfl | (simp [errW_none, errW_some] <;> rfl) | (simp [*, errW_none, errW_some] <;> rfl), by repeat (first | (with_reducible first | exact HB.out | apply below_alloc | apply pw_below_drewN | apply below_drew1 | refine below_set ?_ GE287.out) | exact HB.out)⟩
                ·
                 rw [if_neg c82] at H
                 have c82b0 : ((t318.length : Int) == 2) = false := beq_eq_false_iff_ne.mpr c82
                 have c82b1 : ((t318.length : Int) != 2) = true := bne_iff_ne.mpr c82
                 obtain rfl := Option.some.inj H
                 go_wp2_with (first | ((with_reducible refine gate_callee (f := 12) rfl ?_); refine goesL_ (some 206) rfl rfl Try.func12 (by kernel_rfl) rfl #[.slice A0 l0.length c0, .int .i64 a2, .int .i64 a3, .int .i64 a4] rfl (by (try simp only [List.map_toArray, List.map_cons, List.map_nil]); first | done | rfl | (simp only [List.length_drop, List.length_take]; rfl)) ?_; (with_reducible refine (stats_Exceeded.calls kj45 _ _ l0 a2 a3 a4 t311 t312 _ ?side1 ?side2 A74.out).mono ?_); (case side1 => repeat (first | exact (Kd.C_below HR0.out HB.out) | (with_reducible refine Kd.C_alloc ?_ _) | (with_reducible refine Kd.C_drewN ?_ _) | (with_reducible refine Kd.C_drew ?_))); (case side2 => exact HC0.out); rintro e w117 ⟨rfl, hb⟩; refine ⟨_, rfl, ?_⟩; have n0_ := Aside0.mk (blk_below (g := gb287) (o := .cells #[.int .i64 a1_0, .int .i64 a1_1] 45 (0, 0)) (by (with_reducible repeat (first | refine blk_drewN ?_ _ | refine blk_drew ?_ | refine blk_alloc ?_ _)); exact BK287.out) hb); have n1_ := Aside0.mk (below_step (by repeat (first | (with_reducible first | exact HB.out | apply below_alloc | apply pw_below_drewN | apply below_drew1 | refine below_set ?_ GE287.out) | exact HB.out)) hb); clear BK287; clear HB; have BK287 := n0_; have HB := n1_; clear n0_ n1_; (try clear hb); (try clear hb2); (try clear hk); (try clear hi)) | ((with_reducible refine gate_callee (f := 12) rfl ?_); refine goesL_ (some 214) rfl rfl Try.func12 (by kernel_rfl) rfl #[.slice A0 l0.length c0, .int .i64 a2, .int .i64 a4, .int .i64 a5] rfl (by (try simp only [List.map_toArray, List.map_cons, List.map_nil]); first | done | rfl | (simp only [List.length_drop, List.length_take]; rfl)) ?_; (with_reducible refine (stats_Exceeded.calls kj45 _ _ l0 a2 a4 a5 t313 t314 _ ?side1 ?side2 A75.out).mono ?_); (case side1 => repeat (first | exact (Kd.C_below HR0.out HB.out) | (with_reducible refine Kd.C_alloc ?_ _) | (with_reducible refine Kd.C_drewN ?_ _) | (with_reducible refine Kd.C_drew ?_))); (case side2 => exact HC0.out); rintro e w118 ⟨rfl, hb⟩; refine ⟨_, rfl, ?_⟩; have n0_ := Aside0.mk (blk_below (g := gb287) (o := .cells #[.int .i64 a1_0, .int .i64 a1_1] 45 (0, 0)) (by (with_reducible repeat (first | refine blk_drewN ?_ _ | refine blk_drew ?_ | refine blk_alloc ?_ _)); exact BK287.out) hb); have n1_ := Aside0.mk (below_step (by repeat (first | (with_reducible first | exact HB.out | apply below_alloc | apply pw_below_drewN | apply below_drew1 | refine below_set ?_ GE287.out) | exact HB.out)) hb); clear BK287; clear HB; have BK287 := n0_; have HB := n1_; clear n0_ n1_; (try clear hb); (try clear hb2); (try clear hk); (try clear hi)) | ((with_reducible refine gate_dst (N := 220) rfl ?_); (try (refine gate_guard (by rfl) ?_; dsimp only)); refine Kd.R_lit (Kd.int .i64) _ 2 ?hg (N := 220) ?hd (xs := ([a2] : List Int)) (inner := [.int .i64 a2]) (ok := fun _ => True) (okp := fun _ => True) ?hr ?hp (fun _ hk => hk) trivial (Below.refl _ _) (Nat.le_refl _) (by simp) ?_; (case hd => rfl); (case hg => rfl); (case hr => first | (go_simp; done) | (go_simp; rfl)); (case hp => exact (Reps.one (show Kd.M (Kd.int .i64) _ _ _ a2 [.int .i64 a2] from rfl) (Reps.none _ _))); intro v316 w119 ho120 hb hg_ hnew_; clear hg_ hnew_; (first | rw [← Ny315.out] at ho120 | (simp only [Int.reduceToNat] at ho120; rw [← Ny315.out] at ho120)); have n0_ := Aside0.mk (Kd.R_lower ho120 (below_size (by repeat (first | (with_reducible first | exact HB.out | apply below_alloc | apply pw_below_drewN | apply below_drew1 | refine below_set ?_ GE287.out) | exact HB.out)))); have n1_ := Aside0.mk (blk_below (g := gb287) (o := .cells #[.int .i64 a1_0, .int .i64 a1_1] 45 (0, 0)) (by (with_reducible repeat (first | refine blk_drewN ?_ _ | refine blk_drew ?_ | refine blk_alloc ?_ _)); exact BK287.out) hb); have n2_ := Aside0.mk (below_step (by repeat (first | (with_reducible first | exact HB.out | apply below_alloc | apply pw_below_drewN | apply below_drew1 | refine below_set ?_ GE287.out) | exact HB.out)) hb); clear BK287; clear HB; have HO317 := n0_; have BK287 := n1_; have HB := n2_; clear n0_ n1_ n2_; clear hb ho120; obtain ⟨Ao121, co121, eo121⟩ := Kd.R_slice HO317.out; subst eo121) | ((with_reducible refine gate_callee (f := 13) rfl ?_); refine goesL_ (some 223) rfl rfl Try.func13 (by kernel_rfl) rfl #[.slice A0 l0.length c0, .slice Ao121 y315.length co121, .int .i64 a3, .int .i64 a5] rfl (by (try simp only [List.map_toArray, List.map_cons, List.map_nil]); first | done | rfl | (simp only [List.length_drop, List.length_take]; rfl)) ?_; (with_reducible refine (stats_Histogram.calls kj45 _ _ l0 _ _ y315 a3 a5 t318 t319 _ ?side1 ?side2 ?side3 ?side4 A76.out).mono ?_); (case side1 => repeat (first | exact (Kd.C_below HR0.out HB.out) | (with_reducible refine Kd.C_alloc ?_ _) | (with_reducible refine Kd.C_drewN ?_ _) | (with_reducible refine Kd.C_drew ?_))); (case side2 => exact HC0.out); (case side3 => repeat (first | exact (Kd.R_reads' HO317.out).2.2 | (with_reducible refine Kd.C_alloc ?_ _) | (with_reducible refine Kd.C_drewN ?_ _) | (with_reducible refine Kd.C_drew ?_))); (case side4 => exact (Kd.R_reads' HO317.out).2.1); rintro e w122 ⟨v320, rfl, ho0, hb⟩; refine ⟨_, rfl, ?_⟩; have n0_ := Aside0.mk (Kd.R_below (by (with_reducible repeat (first | apply Kd.R_alloc | apply Kd.R_drewN | apply Kd.R_drew)); exact HO317.out) hb); have n1_ := Aside0.mk (Kd.R_lower ho0 (below_size (by repeat (first | (with_reducible first | exact HB.out | apply below_alloc | apply pw_below_drewN | apply below_drew1 | refine below_set ?_ GE287.out) | exact HB.out)))); have n2_ := Aside0.mk (blk_below (g := gb287) (o := .cells #[.int .i64 a1_0, .int .i64 a1_1] 45 (0, 0)) (by (with_reducible repeat (first | refine blk_drewN ?_ _ | refine blk_drew ?_ | refine blk_alloc ?_ _)); exact BK287.out) hb); have n3_ := Aside0.mk (below_step (by repeat (first | (with_reducible first | exact HB.out | apply below_alloc | apply pw_below_drewN | apply below_drew1 | refine below_set ?_ GE287.out) | exact HB.out)) hb); clear HO317; clear BK287; clear HB; have HO317 := n0_; have HO321 := n1_; have BK287 := n2_; have HB := n3_; clear n0_ n1_ n2_ n3_; (try clear hb); (try clear hb2); (try clear hk); (try clear hi); (try clear ho0)) | ((with_reducible refine gate_callee (f := 29) rfl ?_); refine goesL_ (some 229) rfl rfl Try.func29 (by kernel_rfl) rfl #[.int .i64 a2] rfl (by (try simp only [List.map_toArray, List.map_cons, List.map_nil]); first | done | rfl | (simp only [List.length_drop, List.length_take]; rfl)) ?_; (with_reducible refine (plenumlaw44_analog.calls a2 t322 t323 _ A77.out).mono ?_); rintro e w123 ⟨rfl, hb⟩; refine ⟨_, rfl, ?_⟩; have n0_ := Aside0.mk (Kd.R_below (by (with_reducible repeat (first | apply Kd.R_alloc | apply Kd.R_drewN | apply Kd.R_drew)); exact HO317.out) hb); have n1_ := Aside0.mk (Kd.R_below (by (with_reducible repeat (first | apply Kd.R_alloc | apply Kd.R_drewN | apply Kd.R_drew)); exact HO321.out) hb); have n2_ := Aside0.mk (blk_below (g := gb287) (o := .cells #[.int .i64 a1_0, .int .i64 a1_1] 45 (0, 0)) (by (with_reducible repeat (first | refine blk_drewN ?_ _ | refine blk_drew ?_ | refine blk_alloc ?_ _)); exact BK287.out) hb); have n3_ := Aside0.mk (below_step (by repeat (first | (with_reducible first | exact HB.out | apply below_alloc | apply pw_below_drewN | apply below_drew1 | refine below_set ?_ GE287.out) | exact HB.out)) hb); clear HO317; clear HO321; clear BK287; clear HB; have HO317 := n0_; have HO321 := n1_; have BK287 := n2_; have HB := n3_; clear n0_ n1_ n2_ n3_; (try clear hb); (try clear hb2); (try clear hk); (try clear hi)) | ((with_reducible refine gate_callee (f := 24) rfl ?_); refine goesL_ (some 232) rfl rfl Try.func24 (by kernel_rfl) rfl #[.slice A0 l0.length c0, .agg #[.int .i64 t322, .int .i64 t323], .int .i64 a3, .int .i64 a5] rfl (by (try simp only [List.map_toArray, List.map_cons, List.map_nil]); first | done | rfl | (simp only [List.length_drop, List.length_take]; rfl)) ?_; (with_reducible refine (stats_Seconds.calls kj45 _ _ l0 t322 t323 a3 a5 t324 t325 _ ?side1 ?side2 A78.out).mono ?_); (case side1 => repeat (first | exact (Kd.C_below HR0.out HB.out) | (with_reducible refine Kd.C_alloc ?_ _) | (with_reducible refine Kd.C_drewN ?_ _) | (with_reducible refine Kd.C_drew ?_))); (case side2 => exact HC0.out); rintro e w124 ⟨rfl, hb⟩; refine ⟨_, rfl, ?_⟩; have n0_ := Aside0.mk (Kd.R_below (by (with_reducible repeat (first | apply Kd.R_alloc | apply Kd.R_drewN | apply Kd.R_drew)); exact HO317.out) hb); have n1_ := Aside0.mk (Kd.R_below (by (with_reducible repeat (first | apply Kd.R_alloc | apply Kd.R_drewN | apply Kd.R_drew)); exact HO321.out) hb); have n2_ := Aside0.mk (blk_below (g := gb287) (o := .cells #[.int .i64 a1_0, .int .i64 a1_1] 45 (0, 0)) (by (with_reducible repeat (first | refine blk_drewN ?_ _ | refine blk_drew ?_ | refine blk_alloc ?_ _)); exact BK287.out) hb); have n3_ := Aside0.mk (below_step (by repeat (first | (with_reducible first | exact HB.out | apply below_alloc | apply pw_below_drewN | apply below_drew1 | refine below_set ?_ GE287.out) | exact HB.out)) hb); clear HO317; clear HO321; clear BK287; clear HB; have HO317 := n0_; have HO321 := n1_; have BK287 := n2_; have HB := n3_; clear n0_ n1_ n2_ n3_; (try clear hb); (try clear hb2); (try clear hk); (try clear hi); obtain ⟨Ao125, co125, eo125⟩ := Kd.R_slice HO321.out; subst eo125))
                 go_ret
                 exact ⟨by first | rfl | (simp [errW_none, errW_some] <;> rfl) | (simp [*, errW_none, errW_some] <;> rfl), by repeat (first | (with_reducible first | exact HB.out | apply below_alloc | apply pw_below_drewN | apply below_drew1 | refine below_set ?_ GE287.out) | exact HB.out)⟩
               ·
                rw [if_neg c81] at H
                have c81b0 : (t319 == 0) = false := beq_eq_false_iff_ne.mpr c81
                have c81b1 : (t319 != 0) = true := bne_iff_ne.mpr c81
                obtain rfl := Option.some.inj H
                go_wp2_with (first | ((with_reducible refine gate_callee (f := 12) rfl ?_); refine goesL_ (some 206) rfl rfl Try.func12 (by kernel_rfl) rfl #[.slice A0 l0.length c0, .int .i64 a2, .int .i64 a3, .int .i64 a4] rfl (by (try simp only [List.map_toArray, List.map_cons, List.map_nil]); first | done | rfl | (simp only [List.length_drop, List.length_take]; rfl)) ?_; (with_reducible refine (stats_Exceeded.calls kj45 _ _ l0 a2 a3 a4 t311 t312 _ ?side1 ?side2 A74.out).mono ?_); (case side1 => repeat (first | exact (Kd.C_below HR0.out HB.out) | (with_reducible refine Kd.C_alloc ?_ _) | (with_reducible refine Kd.C_drewN ?_ _) | (with_reducible refine Kd.C_drew ?_))); (case side2 => exact HC0.out); rintro e w126 ⟨rfl, hb⟩; refine ⟨_, rfl, ?_⟩; have n0_ := Aside0.mk (blk_below (g := gb287) (o := .cells #[.int .i64 a1_0, .int .i64 a1_1] 45 (0, 0)) (by (with_reducible repeat (first | refine blk_drewN ?_ _ | refine blk_drew ?_ | refine blk_alloc ?_ _)); exact BK287.out) hb); have n1_ := Aside0.mk (below_step (by repeat (first | (with_reducible first | exact HB.out | apply below_alloc | apply pw_below_drewN | apply below_drew1 | refine below_set ?_ GE287.out) | exact HB.out)) hb); clear BK287; clear HB; have BK287 := n0_; have HB := n1_; clear n0_ n1_; (try clear hb); (try clear hb2); (try clear hk); (try clear hi)) | ((with_reducible refine gate_callee (f := 12) rfl ?_); refine goesL_ (some 214) rfl rfl Try.func12 (by kernel_rfl) rfl #[.slice A0 l0.length c0, .int .i64 a2, .int .i64 a4, .int .i64 a5] rfl (by (try simp only [List.map_toArray, List.map_cons, List.map_nil]); first | done | rfl | (simp only [List.length_drop, List.length_take]; rfl)) ?_; (with_reducible refine (stats_Exceeded.calls kj45 _ _ l0 a2 a4 a5 t313 t314 _ ?side1 ?side2 A75.out).mono ?_); (case side1 => repeat (first | exact (Kd.C_below HR0.out HB.out) | (with_reducible refine Kd.C_alloc ?_ _) | (with_reducible refine Kd.C_drewN ?_ _) | (with_reducible refine Kd.C_drew ?_))); (case side2 => exact HC0.out); rintro e w127 ⟨rfl, hb⟩; refine ⟨_, rfl, ?_⟩; have n0_ := Aside0.mk (blk_below (g := gb287) (o := .cells #[.int .i64 a1_0, .int .i64 a1_1] 45 (0, 0)) (by (with_reducible repeat (first | refine blk_drewN ?_ _ | refine blk_drew ?_ | refine blk_alloc ?_ _)); exact BK287.out) hb); have n1_ := Aside0.mk (below_step (by repeat (first | (with_reducible first | exact HB.out | apply below_alloc | apply pw_below_drewN | apply below_drew1 | refine below_set ?_ GE287.out) | exact HB.out)) hb); clear BK287; clear HB; have BK287 := n0_; have HB := n1_; clear n0_ n1_; (try clear hb); (try clear hb2); (try clear hk); (try clear hi)) | ((with_reducible refine gate_dst (N := 220) rfl ?_); (try (refine gate_guard (by rfl) ?_; dsimp only)); refine Kd.R_lit (Kd.int .i64) _ 2 ?hg (N := 220) ?hd (xs := ([a2] : List Int)) (inner := [.int .i64 a2]) (ok := fun _ => True) (okp := fun _ => True) ?hr ?hp (fun _ hk => hk) trivial (Below.refl _ _) (Nat.le_refl _) (by simp) ?_; (case hd => rfl); (case hg => rfl); (case hr => first | (go_simp; done) | (go_simp; rfl)); (case hp => exact (Reps.one (show Kd.M (Kd.int .i64) _ _ _ a2 [.int .i64 a2] from rfl) (Reps.none _ _))); intro v316 w128 ho129 hb hg_ hnew_; clear hg_ hnew_; (first | rw [← Ny315.out] at ho129 | (simp only [Int.reduceToNat] at ho129; rw [← Ny315.out] at ho129)); have n0_ := Aside0.mk (Kd.R_lower ho129 (below_size (by repeat (first | (with_reducible first | exact HB.out | apply below_alloc | apply pw_below_drewN | apply below_drew1 | refine below_set ?_ GE287.out) | exact HB.out)))); have n1_ := Aside0.mk (blk_below (g := gb287) (o := .cells #[.int .i64 a1_0, .int .i64 a1_1] 45 (0, 0)) (by (with_reducible repeat (first | refine blk_drewN ?_ _ | refine blk_drew ?_ | refine blk_alloc ?_ _)); exact BK287.out) hb); have n2_ := Aside0.mk (below_step (by repeat (first | (with_reducible first | exact HB.out | apply below_alloc | apply pw_below_drewN | apply below_drew1 | refine below_set ?_ GE287.out) | exact HB.out)) hb); clear BK287; clear HB; have HO317 := n0_; have BK287 := n1_; have HB := n2_; clear n0_ n1_ n2_; clear hb ho129; obtain ⟨Ao130, co130, eo130⟩ := Kd.R_slice HO317.out; subst eo130) | ((with_reducible refine gate_callee (f := 13) rfl ?_); refine goesL_ (some 223) rfl rfl Try.func13 (by kernel_rfl) rfl #[.slice A0 l0.length c0, .slice Ao130 y315.length co130, .int .i64 a3, .int .i64 a5] rfl (by (try simp only [List.map_toArray, List.map_cons, List.map_nil]); first | done | rfl | (simp only [List.length_drop, List.length_take]; rfl)) ?_; (with_reducible refine (stats_Histogram.calls kj45 _ _ l0 _ _ y315 a3 a5 t318 t319 _ ?side1 ?side2 ?side3 ?side4 A76.out).mono ?_); (case side1 => repeat (first | exact (Kd.C_below HR0.out HB.out) | (with_reducible refine Kd.C_alloc ?_ _) | (with_reducible refine Kd.C_drewN ?_ _) | (with_reducible refine Kd.C_drew ?_))); (case side2 => exact HC0.out); (case side3 => repeat (first | exact (Kd.R_reads' HO317.out).2.2 | (with_reducible refine Kd.C_alloc ?_ _) | (with_reducible refine Kd.C_drewN ?_ _) | (with_reducible refine Kd.C_drew ?_))); (case side4 => exact (Kd.R_reads' HO317.out).2.1); rintro e w131 ⟨v320, rfl, ho0, hb⟩; refine ⟨_, rfl, ?_⟩; have n0_ := Aside0.mk (Kd.R_below (by (with_reducible repeat (first | apply Kd.R_alloc | apply Kd.R_drewN | apply Kd.R_drew)); exact HO317.out) hb); have n1_ := Aside0.mk (Kd.R_lower ho0 (below_size (by repeat (first | (with_reducible first | exact HB.out | apply below_alloc | apply pw_below_drewN | apply below_drew1 | refine below_set ?_ GE287.out) | exact HB.out)))); have n2_ := Aside0.mk (blk_below (g := gb287) (o := .cells #[.int .i64 a1_0, .int .i64 a1_1] 45 (0, 0)) (by (with_reducible repeat (first | refine blk_drewN ?_ _ | refine blk_drew ?_ | refine blk_alloc ?_ _)); exact BK287.out) hb); have n3_ := Aside0.mk (below_step (by repeat (first | (with_reducible first | exact HB.out | apply below_alloc | apply pw_below_drewN | apply below_drew1 | refine below_set ?_ GE287.out) | exact HB.out)) hb); clear HO317; clear BK287; clear HB; have HO317 := n0_; have HO321 := n1_; have BK287 := n2_; have HB := n3_; clear n0_ n1_ n2_ n3_; (try clear hb); (try clear hb2); (try clear hk); (try clear hi); (try clear ho0)) | ((with_reducible refine gate_callee (f := 29) rfl ?_); refine goesL_ (some 229) rfl rfl Try.func29 (by kernel_rfl) rfl #[.int .i64 a2] rfl (by (try simp only [List.map_toArray, List.map_cons, List.map_nil]); first | done | rfl | (simp only [List.length_drop, List.length_take]; rfl)) ?_; (with_reducible refine (plenumlaw44_analog.calls a2 t322 t323 _ A77.out).mono ?_); rintro e w132 ⟨rfl, hb⟩; refine ⟨_, rfl, ?_⟩; have n0_ := Aside0.mk (Kd.R_below (by (with_reducible repeat (first | apply Kd.R_alloc | apply Kd.R_drewN | apply Kd.R_drew)); exact HO317.out) hb); have n1_ := Aside0.mk (Kd.R_below (by (with_reducible repeat (first | apply Kd.R_alloc | apply Kd.R_drewN | apply Kd.R_drew)); exact HO321.out) hb); have n2_ := Aside0.mk (blk_below (g := gb287) (o := .cells #[.int .i64 a1_0, .int .i64 a1_1] 45 (0, 0)) (by (with_reducible repeat (first | refine blk_drewN ?_ _ | refine blk_drew ?_ | refine blk_alloc ?_ _)); exact BK287.out) hb); have n3_ := Aside0.mk (below_step (by repeat (first | (with_reducible first | exact HB.out | apply below_alloc | apply pw_below_drewN | apply below_drew1 | refine below_set ?_ GE287.out) | exact HB.out)) hb); clear HO317; clear HO321; clear BK287; clear HB; have HO317 := n0_; have HO321 := n1_; have BK287 := n2_; have HB := n3_; clear n0_ n1_ n2_ n3_; (try clear hb); (try clear hb2); (try clear hk); (try clear hi)) | ((with_reducible refine gate_callee (f := 24) rfl ?_); refine goesL_ (some 232) rfl rfl Try.func24 (by kernel_rfl) rfl #[.slice A0 l0.length c0, .agg #[.int .i64 t322, .int .i64 t323], .int .i64 a3, .int .i64 a5] rfl (by (try simp only [List.map_toArray, List.map_cons, List.map_nil]); first | done | rfl | (simp only [List.length_drop, List.length_take]; rfl)) ?_; (with_reducible refine (stats_Seconds.calls kj45 _ _ l0 t322 t323 a3 a5 t324 t325 _ ?side1 ?side2 A78.out).mono ?_); (case side1 => repeat (first | exact (Kd.C_below HR0.out HB.out) | (with_reducible refine Kd.C_alloc ?_ _) | (with_reducible refine Kd.C_drewN ?_ _) | (with_reducible refine Kd.C_drew ?_))); (case side2 => exact HC0.out); rintro e w133 ⟨rfl, hb⟩; refine ⟨_, rfl, ?_⟩; have n0_ := Aside0.mk (Kd.R_below (by (with_reducible repeat (first | apply Kd.R_alloc | apply Kd.R_drewN | apply Kd.R_drew)); exact HO317.out) hb); have n1_ := Aside0.mk (Kd.R_below (by (with_reducible repeat (first | apply Kd.R_alloc | apply Kd.R_drewN | apply Kd.R_drew)); exact HO321.out) hb); have n2_ := Aside0.mk (blk_below (g := gb287) (o := .cells #[.int .i64 a1_0, .int .i64 a1_1] 45 (0, 0)) (by (with_reducible repeat (first | refine blk_drewN ?_ _ | refine blk_drew ?_ | refine blk_alloc ?_ _)); exact BK287.out) hb); have n3_ := Aside0.mk (below_step (by repeat (first | (with_reducible first | exact HB.out | apply below_alloc | apply pw_below_drewN | apply below_drew1 | refine below_set ?_ GE287.out) | exact HB.out)) hb); clear HO317; clear HO321; clear BK287; clear HB; have HO317 := n0_; have HO321 := n1_; have BK287 := n2_; have HB := n3_; clear n0_ n1_ n2_ n3_; (try clear hb); (try clear hb2); (try clear hk); (try clear hi)))
                go_ret
                exact ⟨by first | rfl | (simp [errW_none, errW_some] <;> rfl) | (simp [*, errW_none, errW_some] <;> rfl), by repeat (first | (with_reducible first | exact HB.out | apply below_alloc | apply pw_below_drewN | apply below_drew1 | refine below_set ?_ GE287.out) | exact HB.out)⟩
              ·
               rw [if_neg c80] at H
               have c80b0 : (t314 == 0) = false := beq_eq_false_iff_ne.mpr c80
               have c80b1 : (t314 != 0) = true := bne_iff_ne.mpr c80
               obtain rfl := Option.some.inj H
               go_wp2_with (first | ((with_reducible refine gate_callee (f := 12) rfl ?_); refine goesL_ (some 206) rfl rfl Try.func12 (by kernel_rfl) rfl #[.slice A0 l0.length c0, .int .i64 a2, .int .i64 a3, .int .i64 a4] rfl (by (try simp only [List.map_toArray, List.map_cons, List.map_nil]); first | done | rfl | (simp only [List.length_drop, List.length_take]; rfl)) ?_; (with_reducible refine (stats_Exceeded.calls kj45 _ _ l0 a2 a3 a4 t311 t312 _ ?side1 ?side2 A74.out).mono ?_); (case side1 => repeat (first | exact (Kd.C_below HR0.out HB.out) | (with_reducible refine Kd.C_alloc ?_ _) | (with_reducible refine Kd.C_drewN ?_ _) | (with_reducible refine Kd.C_drew ?_))); (case side2 => exact HC0.out); rintro e w134 ⟨rfl, hb⟩; refine ⟨_, rfl, ?_⟩; have n0_ := Aside0.mk (blk_below (g := gb287) (o := .cells #[.int .i64 a1_0, .int .i64 a1_1] 45 (0, 0)) (by (with_reducible repeat (first | refine blk_drewN ?_ _ | refine blk_drew ?_ | refine blk_alloc ?_ _)); exact BK287.out) hb); have n1_ := Aside0.mk (below_step (by repeat (first | (with_reducible first | exact HB.out | apply below_alloc | apply pw_below_drewN | apply below_drew1 | refine below_set ?_ GE287.out) | exact HB.out)) hb); clear BK287; clear HB; have BK287 := n0_; have HB := n1_; clear n0_ n1_; (try clear hb); (try clear hb2); (try clear hk); (try clear hi)) | ((with_reducible refine gate_callee (f := 12) rfl ?_); refine goesL_ (some 214) rfl rfl Try.func12 (by kernel_rfl) rfl #[.slice A0 l0.length c0, .int .i64 a2, .int .i64 a4, .int .i64 a5] rfl (by (try simp only [List.map_toArray, List.map_cons, List.map_nil]); first | done | rfl | (simp only [List.length_drop, List.length_take]; rfl)) ?_; (with_reducible refine (stats_Exceeded.calls kj45 _ _ l0 a2 a4 a5 t313 t314 _ ?side1 ?side2 A75.out).mono ?_); (case side1 => repeat (first | exact (Kd.C_below HR0.out HB.out) | (with_reducible refine Kd.C_alloc ?_ _) | (with_reducible refine Kd.C_drewN ?_ _) | (with_reducible refine Kd.C_drew ?_))); (case side2 => exact HC0.out); rintro e w135 ⟨rfl, hb⟩; refine ⟨_, rfl, ?_⟩; have n0_ := Aside0.mk (blk_below (g := gb287) (o := .cells #[.int .i64 a1_0, .int .i64 a1_1] 45 (0, 0)) (by (with_reducible repeat (first | refine blk_drewN ?_ _ | refine blk_drew ?_ | refine blk_alloc ?_ _)); exact BK287.out) hb); have n1_ := Aside0.mk (below_step (by repeat (first | (with_reducible first | exact HB.out | apply below_alloc | apply pw_below_drewN | apply below_drew1 | refine below_set ?_ GE287.out) | exact HB.out)) hb); clear BK287; clear HB; have BK287 := n0_; have HB := n1_; clear n0_ n1_; (try clear hb); (try clear hb2); (try clear hk); (try clear hi)) | ((with_reducible refine gate_dst (N := 220) rfl ?_); (try (refine gate_guard (by rfl) ?_; dsimp only)); refine Kd.R_lit (Kd.int .i64) _ 2 ?hg (N := 220) ?hd (xs := ([a2] : List Int)) (inner := [.int .i64 a2]) (ok := fun _ => True) (okp := fun _ => True) ?hr ?hp (fun _ hk => hk) trivial (Below.refl _ _) (Nat.le_refl _) (by simp) ?_; (case hd => rfl); (case hg => rfl); (case hr => first | (go_simp; done) | (go_simp; rfl)); (case hp => exact (Reps.one (show Kd.M (Kd.int .i64) _ _ _ a2 [.int .i64 a2] from rfl) (Reps.none _ _))); intro v316 w136 ho137 hb hg_ hnew_; clear hg_ hnew_; (first | rw [← Ny315.out] at ho137 | (simp only [Int.reduceToNat] at ho137; rw [← Ny315.out] at ho137)); have n0_ := Aside0.mk (Kd.R_lower ho137 (below_size (by repeat (first | (with_reducible first | exact HB.out | apply below_alloc | apply pw_below_drewN | apply below_drew1 | refine below_set ?_ GE287.out) | exact HB.out)))); have n1_ := Aside0.mk (blk_below (g := gb287) (o := .cells #[.int .i64 a1_0, .int .i64 a1_1] 45 (0, 0)) (by (with_reducible repeat (first | refine blk_drewN ?_ _ | refine blk_drew ?_ | refine blk_alloc ?_ _)); exact BK287.out) hb); have n2_ := Aside0.mk (below_step (by repeat (first | (with_reducible first | exact HB.out | apply below_alloc | apply pw_below_drewN | apply below_drew1 | refine below_set ?_ GE287.out) | exact HB.out)) hb); clear BK287; clear HB; have HO317 := n0_; have BK287 := n1_; have HB := n2_; clear n0_ n1_ n2_; clear hb ho137; obtain ⟨Ao138, co138, eo138⟩ := Kd.R_slice HO317.out; subst eo138) | ((with_reducible refine gate_callee (f := 13) rfl ?_); refine goesL_ (some 223) rfl rfl Try.func13 (by kernel_rfl) rfl #[.slice A0 l0.length c0, .slice Ao138 y315.length co138, .int .i64 a3, .int .i64 a5] rfl (by (try simp only [List.map_toArray, List.map_cons, List.map_nil]); first | done | rfl | (simp only [List.length_drop, List.length_take]; rfl)) ?_; (with_reducible refine (stats_Histogram.calls kj45 _ _ l0 _ _ y315 a3 a5 t318 t319 _ ?side1 ?side2 ?side3 ?side4 A76.out).mono ?_); (case side1 => repeat (first | exact (Kd.C_below HR0.out HB.out) | (with_reducible refine Kd.C_alloc ?_ _) | (with_reducible refine Kd.C_drewN ?_ _) | (with_reducible refine Kd.C_drew ?_))); (case side2 => exact HC0.out); (case side3 => repeat (first | exact (Kd.R_reads' HO317.out).2.2 | (with_reducible refine Kd.C_alloc ?_ _) | (with_reducible refine Kd.C_drewN ?_ _) | (with_reducible refine Kd.C_drew ?_))); (case side4 => exact (Kd.R_reads' HO317.out).2.1); rintro e w139 ⟨v320, rfl, ho0, hb⟩; refine ⟨_, rfl, ?_⟩; have n0_ := Aside0.mk (Kd.R_below (by (with_reducible repeat (first | apply Kd.R_alloc | apply Kd.R_drewN | apply Kd.R_drew)); exact HO317.out) hb); have n1_ := Aside0.mk (Kd.R_lower ho0 (below_size (by repeat (first | (with_reducible first | exact HB.out | apply below_alloc | apply pw_below_drewN | apply below_drew1 | refine below_set ?_ GE287.out) | exact HB.out)))); have n2_ := Aside0.mk (blk_below (g := gb287) (o := .cells #[.int .i64 a1_0, .int .i64 a1_1] 45 (0, 0)) (by (with_reducible repeat (first | refine blk_drewN ?_ _ | refine blk_drew ?_ | refine blk_alloc ?_ _)); exact BK287.out) hb); have n3_ := Aside0.mk (below_step (by repeat (first | (with_reducible first | exact HB.out | apply below_alloc | apply pw_below_drewN | apply below_drew1 | refine below_set ?_ GE287.out) | exact HB.out)) hb); clear HO317; clear BK287; clear HB; have HO317 := n0_; have HO321 := n1_; have BK287 := n2_; have HB := n3_; clear n0_ n1_ n2_ n3_; (try clear hb); (try clear hb2); (try clear hk); (try clear hi); (try clear ho0)) | ((with_reducible refine gate_callee (f := 29) rfl ?_); refine goesL_ (some 229) rfl rfl Try.func29 (by kernel_rfl) rfl #[.int .i64 a2] rfl (by (try simp only [List.map_toArray, List.map_cons, List.map_nil]); first | done | rfl | (simp only [List.length_drop, List.length_take]; rfl)) ?_; (with_reducible refine (plenumlaw44_analog.calls a2 t322 t323 _ A77.out).mono ?_); rintro e w140 ⟨rfl, hb⟩; refine ⟨_, rfl, ?_⟩; have n0_ := Aside0.mk (Kd.R_below (by (with_reducible repeat (first | apply Kd.R_alloc | apply Kd.R_drewN | apply Kd.R_drew)); exact HO317.out) hb); have n1_ := Aside0.mk (Kd.R_below (by (with_reducible repeat (first | apply Kd.R_alloc | apply Kd.R_drewN | apply Kd.R_drew)); exact HO321.out) hb); have n2_ := Aside0.mk (blk_below (g := gb287) (o := .cells #[.int .i64 a1_0, .int .i64 a1_1] 45 (0, 0)) (by (with_reducible repeat (first | refine blk_drewN ?_ _ | refine blk_drew ?_ | refine blk_alloc ?_ _)); exact BK287.out) hb); have n3_ := Aside0.mk (below_step (by repeat (first | (with_reducible first | exact HB.out | apply below_alloc | apply pw_below_drewN | apply below_drew1 | refine below_set ?_ GE287.out) | exact HB.out)) hb); clear HO317; clear HO321; clear BK287; clear HB; have HO317 := n0_; have HO321 := n1_; have BK287 := n2_; have HB := n3_; clear n0_ n1_ n2_ n3_; (try clear hb); (try clear hb2); (try clear hk); (try clear hi)) | ((with_reducible refine gate_callee (f := 24) rfl ?_); refine goesL_ (some 232) rfl rfl Try.func24 (by kernel_rfl) rfl #[.slice A0 l0.length c0, .agg #[.int .i64 t322, .int .i64 t323], .int .i64 a3, .int .i64 a5] rfl (by (try simp only [List.map_toArray, List.map_cons, List.map_nil]); first | done | rfl | (simp only [List.length_drop, List.length_take]; rfl)) ?_; (with_reducible refine (stats_Seconds.calls kj45 _ _ l0 t322 t323 a3 a5 t324 t325 _ ?side1 ?side2 A78.out).mono ?_); (case side1 => repeat (first | exact (Kd.C_below HR0.out HB.out) | (with_reducible refine Kd.C_alloc ?_ _) | (with_reducible refine Kd.C_drewN ?_ _) | (with_reducible refine Kd.C_drew ?_))); (case side2 => exact HC0.out); rintro e w141 ⟨rfl, hb⟩; refine ⟨_, rfl, ?_⟩; have n0_ := Aside0.mk (Kd.R_below (by (with_reducible repeat (first | apply Kd.R_alloc | apply Kd.R_drewN | apply Kd.R_drew)); exact HO317.out) hb); have n1_ := Aside0.mk (Kd.R_below (by (with_reducible repeat (first | apply Kd.R_alloc | apply Kd.R_drewN | apply Kd.R_drew)); exact HO321.out) hb); have n2_ := Aside0.mk (blk_below (g := gb287) (o := .cells #[.int .i64 a1_0, .int .i64 a1_1] 45 (0, 0)) (by (with_reducible repeat (first | refine blk_drewN ?_ _ | refine blk_drew ?_ | refine blk_alloc ?_ _)); exact BK287.out) hb); have n3_ := Aside0.mk (below_step (by repeat (first | (with_reducible first | exact HB.out | apply below_alloc | apply pw_below_drewN | apply below_drew1 | refine below_set ?_ GE287.out) | exact HB.out)) hb); clear HO317; clear HO321; clear BK287; clear HB; have HO317 := n0_; have HO321 := n1_; have BK287 := n2_; have HB := n3_; clear n0_ n1_ n2_ n3_; (try clear hb); (try clear hb2); (try clear hk); (try clear hi)))
               go_ret
               exact ⟨by first | rfl | (simp [errW_none, errW_some] <;> rfl) | (simp [*, errW_none, errW_some] <;> rfl), by repeat (first | (with_reducible first | exact HB.out | apply below_alloc | apply pw_below_drewN | apply below_drew1 | refine below_set ?_ GE287.out) | exact HB.out)⟩
           ·
            as_aux_lemma =>
              rw [if_neg c79] at H
              have c79b0 : (t312 == 0) = false := beq_eq_false_iff_ne.mpr c79
              have c79b1 : (t312 != 0) = true := bne_iff_ne.mpr c79
              obtain rfl := Option.some.inj H
              go_wp2_with (first | ((with_reducible refine gate_callee (f := 12) rfl ?_); refine goesL_ (some 206) rfl rfl Try.func12 (by kernel_rfl) rfl #[.slice A0 l0.length c0, .int .i64 a2, .int .i64 a3, .int .i64 a4] rfl (by (try simp only [List.map_toArray, List.map_cons, List.map_nil]); first | done | rfl | (simp only [List.length_drop, List.length_take]; rfl)) ?_; (with_reducible refine (stats_Exceeded.calls kj45 _ _ l0 a2 a3 a4 t311 t312 _ ?side1 ?side2 A74.out).mono ?_); (case side1 => repeat (first | exact (Kd.C_below HR0.out HB.out) | (with_reducible refine Kd.C_alloc ?_ _) | (with_reducible refine Kd.C_drewN ?_ _) | (with_reducible refine Kd.C_drew ?_))); (case side2 => exact HC0.out); rintro e w142 ⟨rfl, hb⟩; refine ⟨_, rfl, ?_⟩; have n0_ := Aside0.mk (blk_below (g := gb287) (o := .cells #[.int .i64 a1_0, .int .i64 a1_1] 45 (0, 0)) (by (with_reducible repeat (first | refine blk_drewN ?_ _ | refine blk_drew ?_ | refine blk_alloc ?_ _)); exact BK287.out) hb); have n1_ := Aside0.mk (below_step (by repeat (first | (with_reducible first | exact HB.out | apply below_alloc | apply pw_below_drewN | apply below_drew1 | refine below_set ?_ GE287.out) | exact HB.out)) hb); clear BK287; clear HB; have BK287 := n0_; have HB := n1_; clear n0_ n1_; (try clear hb); (try clear hb2); (try clear hk); (try clear hi)) | ((with_reducible refine gate_callee (f := 12) rfl ?_); refine goesL_ (some 214) rfl rfl Try.func12 (by kernel_rfl) rfl #[.slice A0 l0.length c0, .int .i64 a2, .int .i64 a4, .int .i64 a5] rfl (by (try simp only [List.map_toArray, List.map_cons, List.map_nil]); first | done | rfl | (simp only [List.length_drop, List.length_take]; rfl)) ?_; (with_reducible refine (stats_Exceeded.calls kj45 _ _ l0 a2 a4 a5 t313 t314 _ ?side1 ?side2 A75.out).mono ?_); (case side1 => repeat (first | exact (Kd.C_below HR0.out HB.out) | (with_reducible refine Kd.C_alloc ?_ _) | (with_reducible refine Kd.C_drewN ?_ _) | (with_reducible refine Kd.C_drew ?_))); (case side2 => exact HC0.out); rintro e w143 ⟨rfl, hb⟩; refine ⟨_, rfl, ?_⟩; have n0_ := Aside0.mk (blk_below (g := gb287) (o := .cells #[.int .i64 a1_0, .int .i64 a1_1] 45 (0, 0)) (by (with_reducible repeat (first | refine blk_drewN ?_ _ | refine blk_drew ?_ | refine blk_alloc ?_ _)); exact BK287.out) hb); have n1_ := Aside0.mk (below_step (by repeat (first | (with_reducible first | exact HB.out | apply below_alloc | apply pw_below_drewN | apply below_drew1 | refine below_set ?_ GE287.out) | exact HB.out)) hb); clear BK287; clear HB; have BK287 := n0_; have HB := n1_; clear n0_ n1_; (try clear hb); (try clear hb2); (try clear hk); (try clear hi)) | ((with_reducible refine gate_dst (N := 220) rfl ?_); (try (refine gate_guard (by rfl) ?_; dsimp only)); refine Kd.R_lit (Kd.int .i64) _ 2 ?hg (N := 220) ?hd (xs := ([a2] : List Int)) (inner := [.int .i64 a2]) (ok := fun _ => True) (okp := fun _ => True) ?hr ?hp (fun _ hk => hk) trivial (Below.refl _ _) (Nat.le_refl _) (by simp) ?_; (case hd => rfl); (case hg => rfl); (case hr => first | (go_simp; done) | (go_simp; rfl)); (case hp => exact (Reps.one (show Kd.M (Kd.int .i64) _ _ _ a2 [.int .i64 a2] from rfl) (Reps.none _ _))); intro v316 w144 ho145 hb hg_ hnew_; clear hg_ hnew_; (first | rw [← Ny315.out] at ho145 | (simp only [Int.reduceToNat] at ho145; rw [← Ny315.out] at ho145)); have n0_ := Aside0.mk (Kd.R_lower ho145 (below_size (by repeat (first | (with_reducible first | exact HB.out | apply below_alloc | apply pw_below_drewN | apply below_drew1 | refine below_set ?_ GE287.out) | exact HB.out)))); have n1_ := Aside0.mk (blk_below (g := gb287) (o := .cells #[.int .i64 a1_0, .int .i64 a1_1] 45 (0, 0)) (by (with_reducible repeat (first | refine blk_drewN ?_ _ | refine blk_drew ?_ | refine blk_alloc ?_ _)); exact BK287.out) hb); have n2_ := Aside0.mk (below_step (by repeat (first | (with_reducible first | exact HB.out | apply below_alloc | apply pw_below_drewN | apply below_drew1 | refine below_set ?_ GE287.out) | exact HB.out)) hb); clear BK287; clear HB; have HO317 := n0_; have BK287 := n1_; have HB := n2_; clear n0_ n1_ n2_; clear hb ho145; obtain ⟨Ao146, co146, eo146⟩ := Kd.R_slice HO317.out; subst eo146) | ((with_reducible refine gate_callee (f := 13) rfl ?_); refine goesL_ (some 223) rfl rfl Try.func13 (by kernel_rfl) rfl #[.slice A0 l0.length c0, .slice Ao146 y315.length co146, .int .i64 a3, .int .i64 a5] rfl (by (try simp only [List.map_toArray, List.map_cons, List.map_nil]); first | done | rfl | (simp only [List.length_drop, List.length_take]; rfl)) ?_; (with_reducible refine (stats_Histogram.calls kj45 _ _ l0 _ _ y315 a3 a5 t318 t319 _ ?side1 ?side2 ?side3 ?side4 A76.out).mono ?_); (case side1 => repeat (first | exact (Kd.C_below HR0.out HB.out) | (with_reducible refine Kd.C_alloc ?_ _) | (with_reducible refine Kd.C_drewN ?_ _) | (with_reducible refine Kd.C_drew ?_))); (case side2 => exact HC0.out); (case side3 => repeat (first | exact (Kd.R_reads' HO317.out).2.2 | (with_reducible refine Kd.C_alloc ?_ _) | (with_reducible refine Kd.C_drewN ?_ _) | (with_reducible refine Kd.C_drew ?_))); (case side4 => exact (Kd.R_reads' HO317.out).2.1); rintro e w147 ⟨v320, rfl, ho0, hb⟩; refine ⟨_, rfl, ?_⟩; have n0_ := Aside0.mk (Kd.R_below (by (with_reducible repeat (first | apply Kd.R_alloc | apply Kd.R_drewN | apply Kd.R_drew)); exact HO317.out) hb); have n1_ := Aside0.mk (Kd.R_lower ho0 (below_size (by repeat (first | (with_reducible first | exact HB.out | apply below_alloc | apply pw_below_drewN | apply below_drew1 | refine below_set ?_ GE287.out) | exact HB.out)))); have n2_ := Aside0.mk (blk_below (g := gb287) (o := .cells #[.int .i64 a1_0, .int .i64 a1_1] 45 (0, 0)) (by (with_reducible repeat (first | refine blk_drewN ?_ _ | refine blk_drew ?_ | refine blk_alloc ?_ _)); exact BK287.out) hb); have n3_ := Aside0.mk (below_step (by repeat (first | (with_reducible first | exact HB.out | apply below_alloc | apply pw_below_drewN | apply below_drew1 | refine below_set ?_ GE287.out) | exact HB.out)) hb); clear HO317; clear BK287; clear HB; have HO317 := n0_; have HO321 := n1_; have BK287 := n2_; have HB := n3_; clear n0_ n1_ n2_ n3_; (try clear hb); (try clear hb2); (try clear hk); (try clear hi); (try clear ho0)) | ((with_reducible refine gate_callee (f := 29) rfl ?_); refine goesL_ (some 229) rfl rfl Try.func29 (by kernel_rfl) rfl #[.int .i64 a2] rfl (by (try simp only [List.map_toArray, List.map_cons, List.map_nil]); first | done | rfl | (simp only [List.length_drop, List.length_take]; rfl)) ?_; (with_reducible refine (plenumlaw44_analog.calls a2 t322 t323 _ A77.out).mono ?_); rintro e w148 ⟨rfl, hb⟩; refine ⟨_, rfl, ?_⟩; have n0_ := Aside0.mk (Kd.R_below (by (with_reducible repeat (first | apply Kd.R_alloc | apply Kd.R_drewN | apply Kd.R_drew)); exact HO317.out) hb); have n1_ := Aside0.mk (Kd.R_below (by (with_reducible repeat (first | apply Kd.R_alloc | apply Kd.R_drewN | apply Kd.R_drew)); exact HO321.out) hb); have n2_ := Aside0.mk (blk_below (g := gb287) (o := .cells #[.int .i64 a1_0, .int .i64 a1_1] 45 (0, 0)) (by (with_reducible repeat (first | refine blk_drewN ?_ _ | refine blk_drew ?_ | refine blk_alloc ?_ _)); exact BK287.out) hb); have n3_ := Aside0.mk (below_step (by repeat (first | (with_reducible first | exact HB.out | apply below_alloc | apply pw_below_drewN | apply below_drew1 | refine below_set ?_ GE287.out) | exact HB.out)) hb); clear HO317; clear HO321; clear BK287; clear HB; have HO317 := n0_; have HO321 := n1_; have BK287 := n2_; have HB := n3_; clear n0_ n1_ n2_ n3_; (try clear hb); (try clear hb2); (try clear hk); (try clear hi)) | ((with_reducible refine gate_callee (f := 24) rfl ?_); refine goesL_ (some 232) rfl rfl Try.func24 (by kernel_rfl) rfl #[.slice A0 l0.length c0, .agg #[.int .i64 t322, .int .i64 t323], .int .i64 a3, .int .i64 a5] rfl (by (try simp only [List.map_toArray, List.map_cons, List.map_nil]); first | done | rfl | (simp only [List.length_drop, List.length_take]; rfl)) ?_; (with_reducible refine (stats_Seconds.calls kj45 _ _ l0 t322 t323 a3 a5 t324 t325 _ ?side1 ?side2 A78.out).mono ?_); (case side1 => repeat (first | exact (Kd.C_below HR0.out HB.out) | (with_reducible refine Kd.C_alloc ?_ _) | (with_reducible refine Kd.C_drewN ?_ _) | (with_reducible refine Kd.C_drew ?_))); (case side2 => exact HC0.out); rintro e w149 ⟨rfl, hb⟩; refine ⟨_, rfl, ?_⟩; have n0_ := Aside0.mk (Kd.R_below (by (with_reducible repeat (first | apply Kd.R_alloc | apply Kd.R_drewN | apply Kd.R_drew)); exact HO317.out) hb); have n1_ := Aside0.mk (Kd.R_below (by (with_reducible repeat (first | apply Kd.R_alloc | apply Kd.R_drewN | apply Kd.R_drew)); exact HO321.out) hb); have n2_ := Aside0.mk (blk_below (g := gb287) (o := .cells #[.int .i64 a1_0, .int .i64 a1_1] 45 (0, 0)) (by (with_reducible repeat (first | refine blk_drewN ?_ _ | refine blk_drew ?_ | refine blk_alloc ?_ _)); exact BK287.out) hb); have n3_ := Aside0.mk (below_step (by repeat (first | (with_reducible first | exact HB.out | apply below_alloc | apply pw_below_drewN | apply below_drew1 | refine below_set ?_ GE287.out) | exact HB.out)) hb); clear HO317; clear HO321; clear BK287; clear HB; have HO317 := n0_; have HO321 := n1_; have BK287 := n2_; have HB := n3_; clear n0_ n1_ n2_ n3_; (try clear hb); (try clear hb2); (try clear hk); (try clear hi)))
              go_ret
              exact ⟨by first | rfl | (simp [errW_none, errW_some] <;> rfl) | (simp [*, errW_none, errW_some] <;> rfl), by repeat (first | (with_reducible first | exact HB.out | apply below_alloc | apply pw_below_drewN | apply below_drew1 | refine below_set ?_ GE287.out) | exact HB.out)⟩
/-- THE ONE PURE STATEMENT of plenumlaw44_StatsAdds. -/
def plenumlaw44_StatsAdds.Pure : Prop := ∀ (l0 : List (S57)) (a1_0 : Int) (a1_1 : Int) (a2 : Int) (a3 : Int) (a4 : Int) (a5 : Int), l0.length ≤ maxLen → l0.length * 24 ≤ 140737488351232 → (∀ x ∈ l0, (Lit.int .i64 x.f0).wf = true ∧ (Lit.int .i64 x.f1.f0).wf = true ∧ (Lit.int .i64 x.f1.f1).wf = true) → (Lit.int .i64 a1_0).wf = true → (Lit.int .i64 a1_1).wf = true → (Lit.int .i64 a2).wf = true → (Lit.int .i64 a3).wf = true → (Lit.int .i64 a4).wf = true → (Lit.int .i64 a5).wf = true → ∃ k, plenumlaw44_StatsAdds.f k l0 a1_0 a1_1 a2 a3 a4 a5 = some true
theorem plenumlaw44_StatsAdds.walk (P : plenumlaw44_StatsAdds.Pure) (A0 : Option Addr) (c0 : Nat) (l0 : List (S57)) (a1_0 : Int) (a1_1 : Int) (a2 : Int) (a3 : Int) (a4 : Int) (a5 : Int) (w : World) (hr0 : Kd.C k57 w A0 l0.length l0) (hc0 : l0.length ≤ c0) (hm0 : l0.length ≤ maxLen) (y0 : l0.length * 24 ≤ 140737488351232) (hw0 : ∀ x ∈ l0, (Lit.int .i64 x.f0).wf = true ∧ (Lit.int .i64 x.f1.f0).wf = true ∧ (Lit.int .i64 x.f1.f1).wf = true) (wa1_0 : (Lit.int .i64 a1_0).wf = true) (wa1_1 : (Lit.int .i64 a1_1).wf = true) (wa2 : (Lit.int .i64 a2).wf = true) (wa3 : (Lit.int .i64 a3).wf = true) (wa4 : (Lit.int .i64 a4).wf = true) (wa5 : (Lit.int .i64 a5).wf = true) :
 Calls Try.prog 6 #[.slice A0 l0.length c0, .agg #[.int .i64 a1_0, .int .i64 a1_1], .int .i64 a2, .int .i64 a3, .int .i64 a4, .int .i64 a5] w fun e w' => e = .returned (.bool true) ∧ Below w.heap.size w w' := by
 obtain ⟨k, h⟩ := P l0 a1_0 a1_1 a2 a3 a4 a5 hm0 y0 hw0 wa1_0 wa1_1 wa2 wa3 wa4 wa5
 refine (plenumlaw44_StatsAdds.calls k A0 c0 l0 a1_0 a1_1 a2 a3 a4 a5 true w hr0 hc0 h).mono ?_
 rintro e w' ⟨rfl, hd⟩
 exact ⟨rfl, hd⟩
end Go.Proofs.Ytnfcbhoaebcndaa.PT
