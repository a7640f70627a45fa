-- Laid by hp.py (a program of this session's) through the kit's printer. (squeezed)
import Derived.Test.YtnfcbhoaebcndaaPTx0
import Derived.Test.YtnfcbhoaebcndaaPTx7
import Derived.Test.YtnfcbhoaebcndaaPTx8
import Derived.Test.YtnfcbhoaebcndaaPTx9
import Derived.Test.YtnfcbhoaebcndaaPTx18
import Derived.Test.YtnfcbhoaebcndaaPTx21
import Derived.Test.YtnfcbhoaebcndaaPTx22
import Derived.Test.YtnfcbhoaebcndaaPTx23
import Derived.Test.YtnfcbhoaebcndaaPTx24
import Derived.Test.YtnfcbhoaebcndaaPTx27
import Derived.Test.YtnfcbhoaebcndaaPTx28
namespace Go.Proofs.Ytnfcbhoaebcndaa.PT
open Go.RowKit Go.Proofs.YtnfcbhoaebcndaaW.PrintWords Go.Proofs.YtnfcbhoaebcndaaW.PrintLast Go.Proofs.YtnfcbhoaebcndaaW.PrintMore
attribute [local go_sem] max2_int min2_int max_two min_two max_three min_three max_four min_four   -- for this text's walks alone
set_option linter.unusedVariables false
set_option linter.unusedSimpArgs false
/-! ### plenumlaw44_StatsHistograms: function 3 -/
mutual
def plenumlaw44_StatsHistograms.j0 : Nat → List (S57) → Int → List Int → Int → Int → Bool → Option (Bool)
 | 0, _, _, _, _, _, _ => none
 | k + 1, x0, x1, x2, x3, x4, x24 => if x24 = true then ((plenumlaw44_awake.f).bind fun t224 => (some t224)) else ((stats_Exceeded.f k x0 x1 x3 x4).bind fun bt225 => ((stats_Histogram.f k x0 x2 x3 x4).bind fun bt227 => ((plenumlaw44_first.f k x0 x3 x4).bind fun t231 => ((plenumref44_Check.f k x0).bind fun t232 => (if t232 = 0 then ((plenumref44_Limits.f k x2).bind fun t233 => (plenumlaw44_StatsHistograms.j1 k x0 x1 x2 x3 x4 bt225.1 bt225.2 bt227.1 bt227.2 t231 t233)) else (plenumlaw44_StatsHistograms.j1 k x0 x1 x2 x3 x4 bt225.1 bt225.2 bt227.1 bt227.2 t231 t232))))))
def plenumlaw44_StatsHistograms.j1 : Nat → List (S57) → Int → List Int → Int → Int → Int → Int → List Int → Int → Int → Int → Option (Bool)
 | 0, _, _, _, _, _, _, _, _, _, _, _ => none
 | k + 1, x0, x1, x2, x3, x4, x11, x12, x13, x14, x15, x16 => if x16 = 0 then ((plenumref44_Span.f k x3 x4).bind fun t234 => (plenumlaw44_StatsHistograms.j2 k x0 x1 x2 x3 x4 x11 x12 x13 x14 x15 t234)) else (plenumlaw44_StatsHistograms.j2 k x0 x1 x2 x3 x4 x11 x12 x13 x14 x15 x16)
def plenumlaw44_StatsHistograms.j2 : Nat → List (S57) → Int → List Int → Int → Int → Int → Int → List Int → Int → Int → Int → Option (Bool)
 | 0, _, _, _, _, _, _, _, _, _, _, _ => none
 | k + 1, x0, x1, x2, x3, x4, x11, x12, x13, x14, x15, x16 => if x12 = x15 then (if x14 = x16 then (if x15 = 0 then ((plenumref44_Exceeded.f k x0 x1 x3 x4).bind fun t235 => (if x11 = t235 then (plenumlaw44_StatsHistograms.j3 k x0 x2 x3 x4 x13 x16 false) else (plenumlaw44_StatsHistograms.j3 k x0 x2 x3 x4 x13 x16 true))) else (plenumlaw44_StatsHistograms.j3 k x0 x2 x3 x4 x13 x16 (x11 != 0))) else (plenumlaw44_StatsHistograms.j3 k x0 x2 x3 x4 x13 x16 true)) else (plenumlaw44_StatsHistograms.j3 k x0 x2 x3 x4 x13 x16 true)
def plenumlaw44_StatsHistograms.j3 : Nat → List (S57) → List Int → Int → Int → List Int → Int → Bool → Option (Bool)
 | 0, _, _, _, _, _, _, _ => none
 | k + 1, x0, x2, x3, x4, x13, x16, x85 => if x85 = true then (some false) else (if x16 = 0 then ((plenumlaw44_awake.f).bind fun t236 => (if t236 = true then ((plenumref44_Histogram.f k x0 x2 x3 x4).bind fun t237 => ((plenumref44_Same.f k x13 t237).bind fun t240 => (some t240))) else (some false))) else ((plenumlaw44_awake.f).bind fun t241 => (if t241 = true then (some ((x13.length : Int) == 0)) else (some false))))
end
def plenumlaw44_StatsHistograms.f (k : Nat) (l0 : List (S57)) (a1 : Int) (l2 : List Int) (a3 : Int) (a4 : Int) : Option (Bool) := if (l0.length : Int) > 60 then (plenumlaw44_StatsHistograms.j0 k l0 a1 l2 a3 a4 true) else (plenumlaw44_StatsHistograms.j0 k l0 a1 l2 a3 a4 (decide ((l2.length : Int) > 80)))
theorem plenumlaw44_StatsHistograms.mono_l : ∀ k, (∀ y0 y1 y2 y3 y4 y5, LeO (plenumlaw44_StatsHistograms.j0 k y0 y1 y2 y3 y4 y5) (plenumlaw44_StatsHistograms.j0 (k + 1) y0 y1 y2 y3 y4 y5)) ∧ (∀ y0 y1 y2 y3 y4 y5 y6 y7 y8 y9 y10, LeO (plenumlaw44_StatsHistograms.j1 k y0 y1 y2 y3 y4 y5 y6 y7 y8 y9 y10) (plenumlaw44_StatsHistograms.j1 (k + 1) y0 y1 y2 y3 y4 y5 y6 y7 y8 y9 y10)) ∧ (∀ y0 y1 y2 y3 y4 y5 y6 y7 y8 y9 y10, LeO (plenumlaw44_StatsHistograms.j2 k y0 y1 y2 y3 y4 y5 y6 y7 y8 y9 y10) (plenumlaw44_StatsHistograms.j2 (k + 1) y0 y1 y2 y3 y4 y5 y6 y7 y8 y9 y10)) ∧ (∀ y0 y1 y2 y3 y4 y5 y6, LeO (plenumlaw44_StatsHistograms.j3 k y0 y1 y2 y3 y4 y5 y6) (plenumlaw44_StatsHistograms.j3 (k + 1) y0 y1 y2 y3 y4 y5 y6))
 | 0 => ⟨fun _ _ _ _ _ _ r h => by simp [plenumlaw44_StatsHistograms.j0] at h, fun _ _ _ _ _ _ _ _ _ _ _ r h => by simp [plenumlaw44_StatsHistograms.j1] at h, fun _ _ _ _ _ _ _ _ _ _ _ r h => by simp [plenumlaw44_StatsHistograms.j2] at h, fun _ _ _ _ _ _ _ r h => by simp [plenumlaw44_StatsHistograms.j3] at h⟩
 | k + 1 => by
  obtain ⟨ih0, ih1, ih2, ih3⟩ := plenumlaw44_StatsHistograms.mono_l k
  refine ⟨?_, ?_, ?_, ?_⟩
  ·
   intro y0 y1 y2 y3 y4 y5
   unfold plenumlaw44_StatsHistograms.j0
   repeat' first
   | (with_reducible exact ih0 _ _ _ _ _ _)
   | (with_reducible exact ih1 _ _ _ _ _ _ _ _ _ _ _)
   | (with_reducible exact ih2 _ _ _ _ _ _ _ _ _ _ _)
   | (with_reducible exact ih3 _ _ _ _ _ _ _)
   | (with_reducible exact plenumlaw44_first.mono _ _ _ _)
   | (with_reducible exact plenumref44_Check.mono _ _)
   | (with_reducible exact plenumref44_Exceeded.mono _ _ _ _ _)
   | (with_reducible exact plenumref44_Histogram.mono _ _ _ _ _)
   | (with_reducible exact plenumref44_Limits.mono _ _)
   | (with_reducible exact plenumref44_Same.mono _ _ _)
   | (with_reducible exact plenumref44_Span.mono _ _ _)
   | (with_reducible exact stats_Exceeded.mono _ _ _ _ _)
   | (with_reducible exact stats_Histogram.mono _ _ _ _ _)
   | (with_reducible exact LeO.refl _)
   | (with_reducible exact LeO.none _)
   | (with_reducible refine LeO.ite ?_ ?_)
   | (with_reducible refine LeO.bind ?_ (fun _ => ?_))
   | exact ih0 _ _ _ _ _ _
   | exact ih1 _ _ _ _ _ _ _ _ _ _ _
   | exact ih2 _ _ _ _ _ _ _ _ _ _ _
   | exact ih3 _ _ _ _ _ _ _
   | exact plenumlaw44_first.mono _ _ _ _
   | exact plenumref44_Check.mono _ _
   | exact plenumref44_Exceeded.mono _ _ _ _ _
   | exact plenumref44_Histogram.mono _ _ _ _ _
   | exact plenumref44_Limits.mono _ _
   | exact plenumref44_Same.mono _ _ _
   | exact plenumref44_Span.mono _ _ _
   | exact stats_Exceeded.mono _ _ _ _ _
   | exact stats_Histogram.mono _ _ _ _ _
   | exact LeO.none _
   | refine LeO.ite ?_ ?_
   | refine LeO.bind ?_ (fun _ => ?_)
  ·
   intro y0 y1 y2 y3 y4 y5 y6 y7 y8 y9 y10
   unfold plenumlaw44_StatsHistograms.j1
   repeat' first
   | (with_reducible exact ih0 _ _ _ _ _ _)
   | (with_reducible exact ih1 _ _ _ _ _ _ _ _ _ _ _)
   | (with_reducible exact ih2 _ _ _ _ _ _ _ _ _ _ _)
   | (with_reducible exact ih3 _ _ _ _ _ _ _)
   | (with_reducible exact plenumlaw44_first.mono _ _ _ _)
   | (with_reducible exact plenumref44_Check.mono _ _)
   | (with_reducible exact plenumref44_Exceeded.mono _ _ _ _ _)
   | (with_reducible exact plenumref44_Histogram.mono _ _ _ _ _)
   | (with_reducible exact plenumref44_Limits.mono _ _)
   | (with_reducible exact plenumref44_Same.mono _ _ _)
   | (with_reducible exact plenumref44_Span.mono _ _ _)
   | (with_reducible exact stats_Exceeded.mono _ _ _ _ _)
   | (with_reducible exact stats_Histogram.mono _ _ _ _ _)
   | (with_reducible exact LeO.refl _)
   | (with_reducible exact LeO.none _)
   | (with_reducible refine LeO.ite ?_ ?_)
   | (with_reducible refine LeO.bind ?_ (fun _ => ?_))
   | exact ih0 _ _ _ _ _ _
   | exact ih1 _ _ _ _ _ _ _ _ _ _ _
   | exact ih2 _ _ _ _ _ _ _ _ _ _ _
   | exact ih3 _ _ _ _ _ _ _
   | exact plenumlaw44_first.mono _ _ _ _
   | exact plenumref44_Check.mono _ _
   | exact plenumref44_Exceeded.mono _ _ _ _ _
   | exact plenumref44_Histogram.mono _ _ _ _ _
   | exact plenumref44_Limits.mono _ _
   | exact plenumref44_Same.mono _ _ _
   | exact plenumref44_Span.mono _ _ _
   | exact stats_Exceeded.mono _ _ _ _ _
   | exact stats_Histogram.mono _ _ _ _ _
   | exact LeO.none _
   | refine LeO.ite ?_ ?_
   | refine LeO.bind ?_ (fun _ => ?_)
  ·
   intro y0 y1 y2 y3 y4 y5 y6 y7 y8 y9 y10
   unfold plenumlaw44_StatsHistograms.j2
   repeat' first
   | (with_reducible exact ih0 _ _ _ _ _ _)
   | (with_reducible exact ih1 _ _ _ _ _ _ _ _ _ _ _)
   | (with_reducible exact ih2 _ _ _ _ _ _ _ _ _ _ _)
   | (with_reducible exact ih3 _ _ _ _ _ _ _)
   | (with_reducible exact plenumlaw44_first.mono _ _ _ _)
   | (with_reducible exact plenumref44_Check.mono _ _)
   | (with_reducible exact plenumref44_Exceeded.mono _ _ _ _ _)
   | (with_reducible exact plenumref44_Histogram.mono _ _ _ _ _)
   | (with_reducible exact plenumref44_Limits.mono _ _)
   | (with_reducible exact plenumref44_Same.mono _ _ _)
   | (with_reducible exact plenumref44_Span.mono _ _ _)
   | (with_reducible exact stats_Exceeded.mono _ _ _ _ _)
   | (with_reducible exact stats_Histogram.mono _ _ _ _ _)
   | (with_reducible exact LeO.refl _)
   | (with_reducible exact LeO.none _)
   | (with_reducible refine LeO.ite ?_ ?_)
   | (with_reducible refine LeO.bind ?_ (fun _ => ?_))
   | exact ih0 _ _ _ _ _ _
   | exact ih1 _ _ _ _ _ _ _ _ _ _ _
   | exact ih2 _ _ _ _ _ _ _ _ _ _ _
   | exact ih3 _ _ _ _ _ _ _
   | exact plenumlaw44_first.mono _ _ _ _
   | exact plenumref44_Check.mono _ _
   | exact plenumref44_Exceeded.mono _ _ _ _ _
   | exact plenumref44_Histogram.mono _ _ _ _ _
   | exact plenumref44_Limits.mono _ _
   | exact plenumref44_Same.mono _ _ _
   | exact plenumref44_Span.mono _ _ _
   | exact stats_Exceeded.mono _ _ _ _ _
   | exact stats_Histogram.mono _ _ _ _ _
   | exact LeO.none _
   | refine LeO.ite ?_ ?_
   | refine LeO.bind ?_ (fun _ => ?_)
  ·
   intro y0 y1 y2 y3 y4 y5 y6
   unfold plenumlaw44_StatsHistograms.j3
   repeat' first
   | (with_reducible exact ih0 _ _ _ _ _ _)
   | (with_reducible exact ih1 _ _ _ _ _ _ _ _ _ _ _)
   | (with_reducible exact ih2 _ _ _ _ _ _ _ _ _ _ _)
   | (with_reducible exact ih3 _ _ _ _ _ _ _)
   | (with_reducible exact plenumlaw44_first.mono _ _ _ _)
   | (with_reducible exact plenumref44_Check.mono _ _)
   | (with_reducible exact plenumref44_Exceeded.mono _ _ _ _ _)
   | (with_reducible exact plenumref44_Histogram.mono _ _ _ _ _)
   | (with_reducible exact plenumref44_Limits.mono _ _)
   | (with_reducible exact plenumref44_Same.mono _ _ _)
   | (with_reducible exact plenumref44_Span.mono _ _ _)
   | (with_reducible exact stats_Exceeded.mono _ _ _ _ _)
   | (with_reducible exact stats_Histogram.mono _ _ _ _ _)
   | (with_reducible exact LeO.refl _)
   | (with_reducible exact LeO.none _)
   | (with_reducible refine LeO.ite ?_ ?_)
   | (with_reducible refine LeO.bind ?_ (fun _ => ?_))
   | exact ih0 _ _ _ _ _ _
   | exact ih1 _ _ _ _ _ _ _ _ _ _ _
   | exact ih2 _ _ _ _ _ _ _ _ _ _ _
   | exact ih3 _ _ _ _ _ _ _
   | exact plenumlaw44_first.mono _ _ _ _
   | exact plenumref44_Check.mono _ _
   | exact plenumref44_Exceeded.mono _ _ _ _ _
   | exact plenumref44_Histogram.mono _ _ _ _ _
   | exact plenumref44_Limits.mono _ _
   | exact plenumref44_Same.mono _ _ _
   | exact plenumref44_Span.mono _ _ _
   | exact stats_Exceeded.mono _ _ _ _ _
   | exact stats_Histogram.mono _ _ _ _ _
   | exact LeO.none _
   | refine LeO.ite ?_ ?_
   | refine LeO.bind ?_ (fun _ => ?_)
theorem plenumlaw44_StatsHistograms.mono : ∀ a0 a1 a2 a3 a4 k, LeO (plenumlaw44_StatsHistograms.f k a0 a1 a2 a3 a4) (plenumlaw44_StatsHistograms.f (k + 1) a0 a1 a2 a3 a4) := by
 intro a0 a1 a2 a3 a4 k
 obtain ⟨ih0, ih1, ih2, ih3⟩ := plenumlaw44_StatsHistograms.mono_l k
 unfold plenumlaw44_StatsHistograms.f
 repeat' first
  | (with_reducible exact ih0 _ _ _ _ _ _)
  | (with_reducible exact ih1 _ _ _ _ _ _ _ _ _ _ _)
  | (with_reducible exact ih2 _ _ _ _ _ _ _ _ _ _ _)
  | (with_reducible exact ih3 _ _ _ _ _ _ _)
  | (with_reducible exact plenumlaw44_first.mono _ _ _ _)
  | (with_reducible exact plenumref44_Check.mono _ _)
  | (with_reducible exact plenumref44_Exceeded.mono _ _ _ _ _)
  | (with_reducible exact plenumref44_Histogram.mono _ _ _ _ _)
  | (with_reducible exact plenumref44_Limits.mono _ _)
  | (with_reducible exact plenumref44_Same.mono _ _ _)
  | (with_reducible exact plenumref44_Span.mono _ _ _)
  | (with_reducible exact stats_Exceeded.mono _ _ _ _ _)
  | (with_reducible exact stats_Histogram.mono _ _ _ _ _)
  | (with_reducible exact LeO.refl _)
  | (with_reducible exact LeO.none _)
  | (with_reducible refine LeO.ite ?_ ?_)
  | (with_reducible refine LeO.bind ?_ (fun _ => ?_))
  | exact ih0 _ _ _ _ _ _
  | exact ih1 _ _ _ _ _ _ _ _ _ _ _
  | exact ih2 _ _ _ _ _ _ _ _ _ _ _
  | exact ih3 _ _ _ _ _ _ _
  | exact plenumlaw44_first.mono _ _ _ _
  | exact plenumref44_Check.mono _ _
  | exact plenumref44_Exceeded.mono _ _ _ _ _
  | exact plenumref44_Histogram.mono _ _ _ _ _
  | exact plenumref44_Limits.mono _ _
  | exact plenumref44_Same.mono _ _ _
  | exact plenumref44_Span.mono _ _ _
  | exact stats_Exceeded.mono _ _ _ _ _
  | exact stats_Histogram.mono _ _ _ _ _
  | exact LeO.none _
  | refine LeO.ite ?_ ?_
  | refine LeO.bind ?_ (fun _ => ?_)
set_option maxHeartbeats 8000000 in
set_option maxRecDepth 100000 in
theorem plenumlaw44_StatsHistograms.calls (k : Nat) (A0 : Option Addr) (c0 : Nat) (l0 : List (S57)) (a1 : Int) (A2 : Option Addr) (c2 : Nat) (l2 : List Int) (a3 : Int) (a4 : Int) (r : Bool) (w : World) (hr0 : Kd.C k57 w A0 l0.length l0) (hc0 : l0.length ≤ c0) (hr2 : Kd.C (Kd.int .i64) w A2 l2.length l2) (hc2 : l2.length ≤ c2) (h : plenumlaw44_StatsHistograms.f k l0 a1 l2 a3 a4 = some r) :
 Calls Try.prog 3 #[.slice A0 l0.length c0, .int .i64 a1, .slice A2 l2.length c2, .int .i64 a3, .int .i64 a4] w fun e w' => e = .returned (.bool r) ∧ Below w.heap.size w w' := by
 have HR0 := Aside0.mk hr0
 have HC0 := Aside0.mk hc0
 clear hr0 hc0
 have HR2 := Aside0.mk hr2
 have HC2 := Aside0.mk hc2
 clear hr2 hc2
 have HB := Aside0.mk (Below.refl w.heap.size w)
 have H : (if (l0.length : Int) > 60 then (plenumlaw44_StatsHistograms.j0 k l0 a1 l2 a3 a4 true) else (plenumlaw44_StatsHistograms.j0 k l0 a1 l2 a3 a4 (decide ((l2.length : Int) > 80)))) = some r := h
 clear h
 have HC6 := Aside0.mk H
 clear H
 go_enter Try.func3, Try.ntmps3
 go_upto_region 1 with (fail)
 go_cut [24] (fun v24 wc => ∃ (kq : Nat) (x24_5 : Bool), v24 = .bool x24_5 ∧ Aside0 (plenumlaw44_StatsHistograms.j0 kq l0 a1 l2 a3 a4 x24_5 = some r) ∧ Aside0 (kq ≤ k) ∧ Aside0 (Below w.heap.size w wc))
 case first =>
  have H := HC6.out
  clear HC6
  by_cases c7 : (l0.length : Int) > 60
  ·
   rw [if_pos c7] at H
   have c7b0 : decide (60 < (l0.length : Int)) = true := decide_eq_true c7
   have c7b1 : decide (60 < l0.length) = true := decide_eq_true (by omega)
   clear c7
   (first | rw [c7b0] | (simp only [i64_w, i32_w]; rw [c7b0]) | skip)
   have H' := Aside0.mk H
   clear H
   go_wp2
   go_meet
   case rel => exact ⟨_, (true), (by first | rfl | (simp; done) | (simp [*]; done)), H', ⟨by first | omega | exact Nat.le_refl _⟩, ⟨by repeat (first | (with_reducible first | exact HB.out | apply below_alloc | apply pw_below_drewN | apply below_drew1) | exact HB.out)⟩⟩
  ·
   rw [if_neg c7] at H
   have c7b0 : decide (60 < (l0.length : Int)) = false := decide_eq_false c7
   have c7b1 : decide (60 < l0.length) = false := decide_eq_false (by omega)
   clear c7
   (first | rw [c7b0] | (simp only [i64_w, i32_w]; rw [c7b0]) | skip)
   have H' := Aside0.mk H
   clear H
   go_wp2
   go_meet
   case rel => exact ⟨_, (decide ((l2.length : Int) > 80)), (by first | rfl | (simp; done) | (simp [*]; done)), H', ⟨by first | omega | exact Nat.le_refl _⟩, ⟨by repeat (first | (with_reducible first | exact HB.out | apply below_alloc | apply pw_below_drewN | apply below_drew1) | exact HB.out)⟩⟩
 case rest =>
  clear HC6
  try clear c2
  try clear p2
  try clear c3
  try clear c7
  try clear c7b0
  try clear c7b1
  obtain ⟨kq, x24_5, rfl, HA, HJ5, HB⟩ := hcut
  cases kq with
  | zero => exact absurd HA.out (by simp [plenumlaw44_StatsHistograms.j0])
  | succ kj5 =>
   have H := HA.out
   clear HA
   simp only [plenumlaw44_StatsHistograms.j0] at H
   by_cases c8 : x24_5 = true
   ·
    subst c8
    have H1 : ((plenumlaw44_awake.f).bind fun t224 => (some t224)) = some r := by rw [if_pos rfl] at H; exact H
    clear H
    have H := H1
    clear H1
    replace H := Option.bind_eq_some_iff.mp H
    obtain ⟨t224, A90, H⟩ := H
    replace H : (some t224) = some r := H
    have A9 := Aside0.mk A90
    clear A90
    obtain rfl := Option.some.inj H
    go_wp2_with (first | ((with_reducible refine gate_callee (f := 11) rfl ?_); refine goesL_ (some 25) rfl rfl Try.func11 (by kernel_rfl) rfl #[] rfl (by (try simp only [List.map_toArray, List.map_cons, List.map_nil]); first | done | rfl | (simp only [List.length_drop, List.length_take]; rfl)) ?_; (with_reducible refine (plenumlaw44_awake.calls  t224 _ A9.out).mono ?_); rintro e w10 ⟨rfl, hb⟩; refine ⟨_, rfl, ?_⟩; have n0_ := Aside0.mk (below_step (by repeat (first | (with_reducible first | exact HB.out | apply below_alloc | apply pw_below_drewN | apply below_drew1) | exact HB.out)) hb); clear HB; have HB := n0_; clear n0_; (try clear hb); (try clear hb2); (try clear hk); (try clear hi)))
    go_ret
    exact ⟨by first | rfl | (simp [errW_none, errW_some] <;> rfl) | (simp [*, errW_none, errW_some] <;> rfl), by repeat (first | (with_reducible first | exact HB.out | apply below_alloc | apply pw_below_drewN | apply below_drew1) | exact HB.out)⟩
   ·
    replace c8 := Bool.eq_false_iff.mpr c8
    subst c8
    have H1 : ((stats_Exceeded.f kj5 l0 a1 a3 a4).bind fun bt225 => ((stats_Histogram.f kj5 l0 l2 a3 a4).bind fun bt227 => ((plenumlaw44_first.f kj5 l0 a3 a4).bind fun t231 => ((plenumref44_Check.f kj5 l0).bind fun t232 => (if t232 = 0 then ((plenumref44_Limits.f kj5 l2).bind fun t233 => (plenumlaw44_StatsHistograms.j1 kj5 l0 a1 l2 a3 a4 bt225.1 bt225.2 bt227.1 bt227.2 t231 t233)) else (plenumlaw44_StatsHistograms.j1 kj5 l0 a1 l2 a3 a4 bt225.1 bt225.2 bt227.1 bt227.2 t231 t232)))))) = some r := by rw [if_neg (show ¬ (false = true) by decide)] at H; exact H
    clear H
    have H := H1
    clear H1
    replace H := Option.bind_eq_some_iff.mp H
    obtain ⟨⟨t225, t226⟩, A110, H⟩ := H
    replace H : ((stats_Histogram.f kj5 l0 l2 a3 a4).bind fun bt227 => ((plenumlaw44_first.f kj5 l0 a3 a4).bind fun t231 => ((plenumref44_Check.f kj5 l0).bind fun t232 => (if t232 = 0 then ((plenumref44_Limits.f kj5 l2).bind fun t233 => (plenumlaw44_StatsHistograms.j1 kj5 l0 a1 l2 a3 a4 t225 t226 bt227.1 bt227.2 t231 t233)) else (plenumlaw44_StatsHistograms.j1 kj5 l0 a1 l2 a3 a4 t225 t226 bt227.1 bt227.2 t231 t232))))) = some r := H
    have A11 := Aside0.mk A110
    clear A110
    replace H := Option.bind_eq_some_iff.mp H
    obtain ⟨⟨t227, t228⟩, A120, H⟩ := H
    replace H : ((plenumlaw44_first.f kj5 l0 a3 a4).bind fun t231 => ((plenumref44_Check.f kj5 l0).bind fun t232 => (if t232 = 0 then ((plenumref44_Limits.f kj5 l2).bind fun t233 => (plenumlaw44_StatsHistograms.j1 kj5 l0 a1 l2 a3 a4 t225 t226 t227 t228 t231 t233)) else (plenumlaw44_StatsHistograms.j1 kj5 l0 a1 l2 a3 a4 t225 t226 t227 t228 t231 t232)))) = some r := H
    have A12 := Aside0.mk A120
    clear A120
    replace H := Option.bind_eq_some_iff.mp H
    obtain ⟨t231, A130, H⟩ := H
    replace H : ((plenumref44_Check.f kj5 l0).bind fun t232 => (if t232 = 0 then ((plenumref44_Limits.f kj5 l2).bind fun t233 => (plenumlaw44_StatsHistograms.j1 kj5 l0 a1 l2 a3 a4 t225 t226 t227 t228 t231 t233)) else (plenumlaw44_StatsHistograms.j1 kj5 l0 a1 l2 a3 a4 t225 t226 t227 t228 t231 t232))) = some r := H
    have A13 := Aside0.mk A130
    clear A130
    replace H := Option.bind_eq_some_iff.mp H
    obtain ⟨t232, A140, H⟩ := H
    replace H : (if t232 = 0 then ((plenumref44_Limits.f kj5 l2).bind fun t233 => (plenumlaw44_StatsHistograms.j1 kj5 l0 a1 l2 a3 a4 t225 t226 t227 t228 t231 t233)) else (plenumlaw44_StatsHistograms.j1 kj5 l0 a1 l2 a3 a4 t225 t226 t227 t228 t231 t232)) = some r := H
    have A14 := Aside0.mk A140
    clear A140
    have HC15 := Aside0.mk H
    clear H
    go_upto_if 49 with (first | ((with_reducible refine gate_callee (f := 12) rfl ?_); refine goesL_ (some 31) rfl rfl Try.func12 (by kernel_rfl) rfl #[.slice A0 l0.length c0, .int .i64 a1, .int .i64 a3, .int .i64 a4] rfl (by (try simp only [List.map_toArray, List.map_cons, List.map_nil]); first | done | rfl | (simp only [List.length_drop, List.length_take]; rfl)) ?_; (with_reducible refine (stats_Exceeded.calls kj5 _ _ l0 a1 a3 a4 t225 t226 _ ?side1 ?side2 A11.out).mono ?_); (case side1 => repeat (first | exact (Kd.C_below HR0.out HB.out) | (with_reducible refine Kd.C_alloc ?_ _) | (with_reducible refine Kd.C_drewN ?_ _) | (with_reducible refine Kd.C_drew ?_))); (case side2 => exact HC0.out); rintro e w16 ⟨rfl, hb⟩; refine ⟨_, rfl, ?_⟩; have n0_ := Aside0.mk (below_step (by repeat (first | (with_reducible first | exact HB.out | apply below_alloc | apply pw_below_drewN | apply below_drew1) | exact HB.out)) hb); clear HB; have HB := n0_; clear n0_; (try clear hb); (try clear hb2); (try clear hk); (try clear hi)) | ((with_reducible refine gate_callee (f := 13) rfl ?_); refine goesL_ (some 39) rfl rfl Try.func13 (by kernel_rfl) rfl #[.slice A0 l0.length c0, .slice A2 l2.length c2, .int .i64 a3, .int .i64 a4] rfl (by (try simp only [List.map_toArray, List.map_cons, List.map_nil]); first | done | rfl | (simp only [List.length_drop, List.length_take]; rfl)) ?_; (with_reducible refine (stats_Histogram.calls kj5 _ _ l0 _ _ l2 a3 a4 t227 t228 _ ?side1 ?side2 ?side3 ?side4 A12.out).mono ?_); (case side1 => repeat (first | exact (Kd.C_below HR0.out HB.out) | (with_reducible refine Kd.C_alloc ?_ _) | (with_reducible refine Kd.C_drewN ?_ _) | (with_reducible refine Kd.C_drew ?_))); (case side2 => exact HC0.out); (case side3 => repeat (first | exact (Kd.C_below HR2.out HB.out) | (with_reducible refine Kd.C_alloc ?_ _) | (with_reducible refine Kd.C_drewN ?_ _) | (with_reducible refine Kd.C_drew ?_))); (case side4 => exact HC2.out); rintro e w17 ⟨v229, rfl, ho0, hb⟩; refine ⟨_, rfl, ?_⟩; have n0_ := Aside0.mk (Kd.R_lower ho0 (below_size (by repeat (first | (with_reducible first | exact HB.out | apply below_alloc | apply pw_below_drewN | apply below_drew1) | exact HB.out)))); have n1_ := Aside0.mk (below_step (by repeat (first | (with_reducible first | exact HB.out | apply below_alloc | apply pw_below_drewN | apply below_drew1) | exact HB.out)) hb); clear HB; have HO230 := n0_; have HB := n1_; clear n0_ n1_; (try clear hb); (try clear hb2); (try clear hk); (try clear hi); (try clear ho0)) | ((with_reducible refine gate_callee (f := 14) rfl ?_); refine goesL_ (some 45) rfl rfl Try.func14 (by kernel_rfl) rfl #[.slice A0 l0.length c0, .int .i64 a3, .int .i64 a4] rfl (by (try simp only [List.map_toArray, List.map_cons, List.map_nil]); first | done | rfl | (simp only [List.length_drop, List.length_take]; rfl)) ?_; (with_reducible refine (plenumlaw44_first.calls kj5 _ _ l0 a3 a4 t231 _ ?side1 ?side2 A13.out).mono ?_); (case side1 => repeat (first | exact (Kd.C_below HR0.out HB.out) | (with_reducible refine Kd.C_alloc ?_ _) | (with_reducible refine Kd.C_drewN ?_ _) | (with_reducible refine Kd.C_drew ?_))); (case side2 => exact HC0.out); rintro e w18 ⟨rfl, hb⟩; refine ⟨_, rfl, ?_⟩; have n0_ := Aside0.mk (Kd.R_below (by (with_reducible repeat (first | apply Kd.R_alloc | apply Kd.R_drewN | apply Kd.R_drew)); exact HO230.out) hb); have n1_ := Aside0.mk (below_step (by repeat (first | (with_reducible first | exact HB.out | apply below_alloc | apply pw_below_drewN | apply below_drew1) | exact HB.out)) hb); clear HO230; clear HB; have HO230 := n0_; have HB := n1_; clear n0_ n1_; (try clear hb); (try clear hb2); (try clear hk); (try clear hi)) | ((with_reducible refine gate_callee (f := 15) rfl ?_); refine goesL_ (some 47) rfl rfl Try.func15 (by kernel_rfl) rfl #[.slice A0 l0.length c0] rfl (by (try simp only [List.map_toArray, List.map_cons, List.map_nil]); first | done | rfl | (simp only [List.length_drop, List.length_take]; rfl)) ?_; (with_reducible refine (plenumref44_Check.calls kj5 _ _ l0 t232 _ ?side1 ?side2 A14.out).mono ?_); (case side1 => repeat (first | exact (Kd.C_below HR0.out HB.out) | (with_reducible refine Kd.C_alloc ?_ _) | (with_reducible refine Kd.C_drewN ?_ _) | (with_reducible refine Kd.C_drew ?_))); (case side2 => exact HC0.out); rintro e w19 ⟨rfl, hb⟩; refine ⟨_, rfl, ?_⟩; have n0_ := Aside0.mk (Kd.R_below (by (with_reducible repeat (first | apply Kd.R_alloc | apply Kd.R_drewN | apply Kd.R_drew)); exact HO230.out) hb); have n1_ := Aside0.mk (below_step (by repeat (first | (with_reducible first | exact HB.out | apply below_alloc | apply pw_below_drewN | apply below_drew1) | exact HB.out)) hb); clear HO230; clear HB; have HO230 := n0_; have HB := n1_; clear n0_ n1_; (try clear hb); (try clear hb2); (try clear hk); (try clear hi)))
    (try simp only [Act.put, List.setIfInBounds_toArray, List.set_cons_zero, List.set_cons_succ])
    go_cut [16] (fun v16 wc => ∃ (kq : Nat) (x16_14 : Int), v16 = .int .i64 x16_14 ∧ Aside0 (plenumlaw44_StatsHistograms.j1 kq l0 a1 l2 a3 a4 t225 t226 t227 t228 t231 x16_14 = some r) ∧ Aside0 (kq ≤ kj5) ∧ Aside0 (Kd.R (Kd.int .i64) 3 wc w.heap.size (fun _ => True) v229 t227) ∧ Aside0 (Below w.heap.size w wc))
    case first =>
     have H := HC15.out
     clear HC15
     by_cases c20 : t232 = 0
     ·
      rw [if_pos c20] at H
      have c20b0 : (t232 == 0) = true := beq_iff_eq.mpr c20
      have c20b1 : (t232 != 0) = false := bne_eq_false_iff_eq.mpr c20
      clear c20
      (first | rw [c20b0] | (simp only [i64_w, i32_w]; rw [c20b0]) | skip)
      replace H := Option.bind_eq_some_iff.mp H
      obtain ⟨t233, A210, H⟩ := H
      replace H : (plenumlaw44_StatsHistograms.j1 kj5 l0 a1 l2 a3 a4 t225 t226 t227 t228 t231 t233) = some r := H
      have A21 := Aside0.mk A210
      clear A210
      have H' := Aside0.mk H
      clear H
      go_wp2_with (first | ((with_reducible refine gate_callee (f := 16) rfl ?_); refine goesL_ (some 51) rfl rfl Try.func16 (by kernel_rfl) rfl #[.slice A2 l2.length c2] rfl (by (try simp only [List.map_toArray, List.map_cons, List.map_nil]); first | done | rfl | (simp only [List.length_drop, List.length_take]; rfl)) ?_; (with_reducible refine (plenumref44_Limits.calls kj5 _ _ l2 t233 _ ?side1 ?side2 A21.out).mono ?_); (case side1 => repeat (first | exact (Kd.C_below HR2.out HB.out) | (with_reducible refine Kd.C_alloc ?_ _) | (with_reducible refine Kd.C_drewN ?_ _) | (with_reducible refine Kd.C_drew ?_))); (case side2 => exact HC2.out); rintro e w' ⟨rfl, ⟨nd, rfl⟩⟩; refine ⟨_, rfl, ?_⟩))
      go_meet
      case rel => exact ⟨_, (t233), (by first | rfl | (simp; done) | (simp [*]; done)), H', ⟨by have := HJ5.out; first | omega | exact Nat.le_refl _⟩, ⟨by (with_reducible repeat (first | apply Kd.R_alloc | apply Kd.R_drewN | apply Kd.R_drew)); exact HO230.out⟩, ⟨by repeat (first | (with_reducible first | exact HB.out | apply below_alloc | apply pw_below_drewN | apply below_drew1) | exact HB.out)⟩⟩
     ·
      rw [if_neg c20] at H
      have c20b0 : (t232 == 0) = false := beq_eq_false_iff_ne.mpr c20
      have c20b1 : (t232 != 0) = true := bne_iff_ne.mpr c20
      (first | rw [c20b0] | (simp only [i64_w, i32_w]; rw [c20b0]) | skip)
      have H' := Aside0.mk H
      clear H
      go_wp2
      go_meet
      case rel => exact ⟨_, (t232), (by first | rfl | (simp; done) | (simp [*]; done)), H', ⟨by have := HJ5.out; first | omega | exact Nat.le_refl _⟩, ⟨by (with_reducible repeat (first | apply Kd.R_alloc | apply Kd.R_drewN | apply Kd.R_drew)); exact HO230.out⟩, ⟨by repeat (first | (with_reducible first | exact HB.out | apply below_alloc | apply pw_below_drewN | apply below_drew1) | exact HB.out)⟩⟩
    case rest =>
     clear HC15
     try clear c1
     try clear c2
     try clear p2
     try clear c3
     try clear c7
     try clear c7b0
     try clear c7b1
     try clear c8
     try clear c11
     try clear c12
     try clear c13
     try clear c14
     try clear c15
     try clear c16
     try clear c20
     try clear c20b0
     try clear c20b1
     try clear p2
     obtain ⟨kq, x16_14, rfl, HA, HJ14, HO_13, HB⟩ := hcut
     cases kq with
     | zero => exact absurd HA.out (by simp [plenumlaw44_StatsHistograms.j1])
     | succ kj14 =>
      have H := HA.out
      clear HA
      simp only [plenumlaw44_StatsHistograms.j1] at H
      have HC22 := Aside0.mk H
      clear H
      go_upto_if 53 with (fail)
      go_cut [16] (fun v16 wc => ∃ (kq : Nat) (x16_21 : Int), v16 = .int .i64 x16_21 ∧ Aside0 (plenumlaw44_StatsHistograms.j2 kq l0 a1 l2 a3 a4 t225 t226 t227 t228 t231 x16_21 = some r) ∧ Aside0 (kq ≤ kj14) ∧ Aside0 (Kd.R (Kd.int .i64) 3 wc w.heap.size (fun _ => True) v229 t227) ∧ Aside0 (Below w.heap.size w wc))
      case first =>
       have H := HC22.out
       clear HC22
       by_cases c23 : x16_14 = 0
       ·
        rw [if_pos c23] at H
        have c23b0 : (x16_14 == 0) = true := beq_iff_eq.mpr c23
        have c23b1 : (x16_14 != 0) = false := bne_eq_false_iff_eq.mpr c23
        clear c23
        (first | rw [c23b0] | (simp only [i64_w, i32_w]; rw [c23b0]) | skip)
        replace H := Option.bind_eq_some_iff.mp H
        obtain ⟨t234, A240, H⟩ := H
        replace H : (plenumlaw44_StatsHistograms.j2 kj14 l0 a1 l2 a3 a4 t225 t226 t227 t228 t231 t234) = some r := H
        have A24 := Aside0.mk A240
        clear A240
        have H' := Aside0.mk H
        clear H
        go_wp2_with (first | ((with_reducible refine gate_callee (f := 17) rfl ?_); refine goesL_ (some 56) rfl rfl Try.func17 (by kernel_rfl) rfl #[.int .i64 a3, .int .i64 a4] rfl (by (try simp only [List.map_toArray, List.map_cons, List.map_nil]); first | done | rfl | (simp only [List.length_drop, List.length_take]; rfl)) ?_; (with_reducible refine (plenumref44_Span.calls kj14 a3 a4 t234 _ A24.out).mono ?_); rintro e w' ⟨rfl, ⟨nd, rfl⟩⟩; refine ⟨_, rfl, ?_⟩))
        go_meet
        case rel => exact ⟨_, (t234), (by first | rfl | (simp; done) | (simp [*]; done)), H', ⟨by have := HJ5.out; have := HJ14.out; first | omega | exact Nat.le_refl _⟩, ⟨by (with_reducible repeat (first | apply Kd.R_alloc | apply Kd.R_drewN | apply Kd.R_drew)); exact HO_13.out⟩, ⟨by repeat (first | (with_reducible first | exact HB.out | apply below_alloc | apply pw_below_drewN | apply below_drew1) | exact HB.out)⟩⟩
       ·
        rw [if_neg c23] at H
        have c23b0 : (x16_14 == 0) = false := beq_eq_false_iff_ne.mpr c23
        have c23b1 : (x16_14 != 0) = true := bne_iff_ne.mpr c23
        (first | rw [c23b0] | (simp only [i64_w, i32_w]; rw [c23b0]) | skip)
        have H' := Aside0.mk H
        clear H
        go_wp2
        go_meet
        case rel => exact ⟨_, (x16_14), (by first | rfl | (simp; done) | (simp [*]; done)), H', ⟨by have := HJ5.out; have := HJ14.out; first | omega | exact Nat.le_refl _⟩, ⟨by (with_reducible repeat (first | apply Kd.R_alloc | apply Kd.R_drewN | apply Kd.R_drew)); exact HO_13.out⟩, ⟨by repeat (first | (with_reducible first | exact HB.out | apply below_alloc | apply pw_below_drewN | apply below_drew1) | exact HB.out)⟩⟩
      case rest =>
       clear HC22
       try clear c1
       try clear c2
       try clear p2
       try clear c3
       try clear c7
       try clear c7b0
       try clear c7b1
       try clear c8
       try clear c11
       try clear c12
       try clear c13
       try clear c14
       try clear c15
       try clear c16
       try clear c17
       try clear c20
       try clear c20b0
       try clear c20b1
       try clear c23
       try clear c23b0
       try clear c23b1
       try clear p2
       obtain ⟨kq, x16_21, rfl, HA, HJ21, HO_13, HB⟩ := hcut
       cases kq with
       | zero => exact absurd HA.out (by simp [plenumlaw44_StatsHistograms.j2])
       | succ kj21 =>
        have H := HA.out
        clear HA
        simp only [plenumlaw44_StatsHistograms.j2] at H
        have HC25 := Aside0.mk H
        clear H
        go_upto_region 10 with (fail)
        go_cut [85] (fun v85 wc => ∃ (kq : Nat) (x85_24 : Bool), v85 = .bool x85_24 ∧ Aside0 (plenumlaw44_StatsHistograms.j3 kq l0 l2 a3 a4 t227 x16_21 x85_24 = some r) ∧ Aside0 (kq ≤ kj21) ∧ Aside0 (Kd.R (Kd.int .i64) 3 wc w.heap.size (fun _ => True) v229 t227) ∧ Aside0 (Below w.heap.size w wc))
        case first =>
         have H := HC25.out
         clear HC25
         by_cases c26 : t226 = t231
         ·
          rw [if_pos c26] at H
          have c26b0 : (t226 == t231) = true := beq_iff_eq.mpr c26
          have c26b1 : (t226 != t231) = false := bne_eq_false_iff_eq.mpr c26
          clear c26
          (first | rw [c26b0] | (simp only [i64_w, i32_w]; rw [c26b0]) | skip)
          by_cases c27 : t228 = x16_21
          ·
           rw [if_pos c27] at H
           have c27b0 : (t228 == x16_21) = true := beq_iff_eq.mpr c27
           have c27b1 : (t228 != x16_21) = false := bne_eq_false_iff_eq.mpr c27
           clear c27
           by_cases c28 : t231 = 0
           ·
            rw [if_pos c28] at H
            have c28b0 : (t231 == 0) = true := beq_iff_eq.mpr c28
            have c28b1 : (t231 != 0) = false := bne_eq_false_iff_eq.mpr c28
            clear c28
            replace H := Option.bind_eq_some_iff.mp H
            obtain ⟨t235, A290, H⟩ := H
            replace H : (if t225 = t235 then (plenumlaw44_StatsHistograms.j3 kj21 l0 l2 a3 a4 t227 x16_21 false) else (plenumlaw44_StatsHistograms.j3 kj21 l0 l2 a3 a4 t227 x16_21 true)) = some r := H
            have A29 := Aside0.mk A290
            clear A290
            by_cases c30 : t225 = t235
            ·
             rw [if_pos c30] at H
             have c30b0 : (t225 == t235) = true := beq_iff_eq.mpr c30
             have c30b1 : (t225 != t235) = false := bne_eq_false_iff_eq.mpr c30
             clear c30
             have H' := Aside0.mk H
             clear H
             go_wp2_with (first | (go_at_call 18; (with_reducible refine (plenumref44_Exceeded.calls kj21 _ _ l0 a1 a3 a4 t235 _ ?side1 ?side2 A29.out).mono ?_); (case side1 => repeat (first | exact (Kd.C_below HR0.out HB.out) | (with_reducible refine Kd.C_alloc ?_ _) | (with_reducible refine Kd.C_drewN ?_ _) | (with_reducible refine Kd.C_drew ?_))); (case side2 => exact HC0.out); rintro e w31 ⟨rfl, hb⟩; have n0_ := Aside0.mk (Kd.R_below (by (with_reducible repeat (first | apply Kd.R_alloc | apply Kd.R_drewN | apply Kd.R_drew)); exact HO_13.out) hb); have n1_ := Aside0.mk (below_step (by repeat (first | (with_reducible first | exact HB.out | apply below_alloc | apply pw_below_drewN | apply below_drew1) | exact HB.out)) hb); clear HO_13; clear HB; have HO_13 := n0_; have HB := n1_; clear n0_ n1_; (try clear hb); (try clear hb2); (try clear hk); (try clear hi)))
             go_meet
             case rel => exact ⟨_, (false), (by first | rfl | (simp; done) | (simp [*]; done)), H', ⟨by have := HJ5.out; have := HJ14.out; have := HJ21.out; first | omega | exact Nat.le_refl _⟩, ⟨by (with_reducible repeat (first | apply Kd.R_alloc | apply Kd.R_drewN | apply Kd.R_drew)); exact HO_13.out⟩, ⟨by repeat (first | (with_reducible first | exact HB.out | apply below_alloc | apply pw_below_drewN | apply below_drew1) | exact HB.out)⟩⟩
            ·
             rw [if_neg c30] at H
             have c30b0 : (t225 == t235) = false := beq_eq_false_iff_ne.mpr c30
             have c30b1 : (t225 != t235) = true := bne_iff_ne.mpr c30
             have H' := Aside0.mk H
             clear H
             go_wp2_with (first | (go_at_call 18; (with_reducible refine (plenumref44_Exceeded.calls kj21 _ _ l0 a1 a3 a4 t235 _ ?side1 ?side2 A29.out).mono ?_); (case side1 => repeat (first | exact (Kd.C_below HR0.out HB.out) | (with_reducible refine Kd.C_alloc ?_ _) | (with_reducible refine Kd.C_drewN ?_ _) | (with_reducible refine Kd.C_drew ?_))); (case side2 => exact HC0.out); rintro e w32 ⟨rfl, hb⟩; have n0_ := Aside0.mk (Kd.R_below (by (with_reducible repeat (first | apply Kd.R_alloc | apply Kd.R_drewN | apply Kd.R_drew)); exact HO_13.out) hb); have n1_ := Aside0.mk (below_step (by repeat (first | (with_reducible first | exact HB.out | apply below_alloc | apply pw_below_drewN | apply below_drew1) | exact HB.out)) hb); clear HO_13; clear HB; have HO_13 := n0_; have HB := n1_; clear n0_ n1_; (try clear hb); (try clear hb2); (try clear hk); (try clear hi)))
             go_meet
             case rel => exact ⟨_, (true), (by first | rfl | (simp; done) | (simp [*]; done)), H', ⟨by have := HJ5.out; have := HJ14.out; have := HJ21.out; first | omega | exact Nat.le_refl _⟩, ⟨by (with_reducible repeat (first | apply Kd.R_alloc | apply Kd.R_drewN | apply Kd.R_drew)); exact HO_13.out⟩, ⟨by repeat (first | (with_reducible first | exact HB.out | apply below_alloc | apply pw_below_drewN | apply below_drew1) | exact HB.out)⟩⟩
           ·
            rw [if_neg c28] at H
            have c28b0 : (t231 == 0) = false := beq_eq_false_iff_ne.mpr c28
            have c28b1 : (t231 != 0) = true := bne_iff_ne.mpr c28
            have H' := Aside0.mk H
            clear H
            go_wp2
            go_meet
            case rel => exact ⟨_, ((t225 != 0)), (by first | rfl | (simp; done) | (simp [*]; done)), H', ⟨by have := HJ5.out; have := HJ14.out; have := HJ21.out; first | omega | exact Nat.le_refl _⟩, ⟨by (with_reducible repeat (first | apply Kd.R_alloc | apply Kd.R_drewN | apply Kd.R_drew)); exact HO_13.out⟩, ⟨by repeat (first | (with_reducible first | exact HB.out | apply below_alloc | apply pw_below_drewN | apply below_drew1) | exact HB.out)⟩⟩
          ·
           rw [if_neg c27] at H
           have c27b0 : (t228 == x16_21) = false := beq_eq_false_iff_ne.mpr c27
           have c27b1 : (t228 != x16_21) = true := bne_iff_ne.mpr c27
           have H' := Aside0.mk H
           clear H
           go_wp2
           go_meet
           case rel => exact ⟨_, (true), (by first | rfl | (simp; done) | (simp [*]; done)), H', ⟨by have := HJ5.out; have := HJ14.out; have := HJ21.out; first | omega | exact Nat.le_refl _⟩, ⟨by (with_reducible repeat (first | apply Kd.R_alloc | apply Kd.R_drewN | apply Kd.R_drew)); exact HO_13.out⟩, ⟨by repeat (first | (with_reducible first | exact HB.out | apply below_alloc | apply pw_below_drewN | apply below_drew1) | exact HB.out)⟩⟩
         ·
          rw [if_neg c26] at H
          have c26b0 : (t226 == t231) = false := beq_eq_false_iff_ne.mpr c26
          have c26b1 : (t226 != t231) = true := bne_iff_ne.mpr c26
          (first | rw [c26b0] | (simp only [i64_w, i32_w]; rw [c26b0]) | skip)
          have H' := Aside0.mk H
          clear H
          go_wp2
          go_meet
          case rel => exact ⟨_, (true), (by first | rfl | (simp; done) | (simp [*]; done)), H', ⟨by have := HJ5.out; have := HJ14.out; have := HJ21.out; first | omega | exact Nat.le_refl _⟩, ⟨by (with_reducible repeat (first | apply Kd.R_alloc | apply Kd.R_drewN | apply Kd.R_drew)); exact HO_13.out⟩, ⟨by repeat (first | (with_reducible first | exact HB.out | apply below_alloc | apply pw_below_drewN | apply below_drew1) | exact HB.out)⟩⟩
        case rest =>
         clear HC25
         try clear c1
         try clear c2
         try clear p2
         try clear c3
         try clear c7
         try clear c7b0
         try clear c7b1
         try clear c8
         try clear c11
         try clear c12
         try clear c13
         try clear c14
         try clear c15
         try clear c16
         try clear c17
         try clear c20
         try clear c20b0
         try clear c20b1
         try clear c23
         try clear c23b0
         try clear c23b1
         try clear c26
         try clear c26b0
         try clear c26b1
         try clear c27
         try clear c27b0
         try clear c27b1
         try clear c28
         try clear c28b0
         try clear c28b1
         try clear c30
         try clear c30b0
         try clear c30b1
         try clear p2
         obtain ⟨kq, x85_24, rfl, HA, HJ24, HO_13, HB⟩ := hcut
         cases kq with
         | zero => exact absurd HA.out (by simp [plenumlaw44_StatsHistograms.j3])
         | succ kj24 =>
          have H := HA.out
          clear HA
          simp only [plenumlaw44_StatsHistograms.j3] at H
          by_cases c33 : x85_24 = true
          ·
           subst c33
           have H1 : (some false) = some r := by rw [if_pos rfl] at H; exact H
           clear H
           have H := H1
           clear H1
           obtain rfl := Option.some.inj H
           go_wp2
           go_ret
           exact ⟨by first | rfl | (simp [errW_none, errW_some] <;> rfl) | (simp [*, errW_none, errW_some] <;> rfl), by repeat (first | (with_reducible first | exact HB.out | apply below_alloc | apply pw_below_drewN | apply below_drew1) | exact HB.out)⟩
          ·
           replace c33 := Bool.eq_false_iff.mpr c33
           subst c33
           have H1 : (if x16_21 = 0 then ((plenumlaw44_awake.f).bind fun t236 => (if t236 = true then ((plenumref44_Histogram.f kj24 l0 l2 a3 a4).bind fun t237 => ((plenumref44_Same.f kj24 t227 t237).bind fun t240 => (some t240))) else (some false))) else ((plenumlaw44_awake.f).bind fun t241 => (if t241 = true then (some ((t227.length : Int) == 0)) else (some false)))) = some r := by rw [if_neg (show ¬ (false = true) by decide)] at H; exact H
           clear H
           have H := H1
           clear H1
           by_cases c34 : x16_21 = 0
           ·
            rw [if_pos c34] at H
            have c34b0 : (x16_21 == 0) = true := beq_iff_eq.mpr c34
            have c34b1 : (x16_21 != 0) = false := bne_eq_false_iff_eq.mpr c34
            clear c34
            replace H := Option.bind_eq_some_iff.mp H
            obtain ⟨t236, A350, H⟩ := H
            replace H : (if t236 = true then ((plenumref44_Histogram.f kj24 l0 l2 a3 a4).bind fun t237 => ((plenumref44_Same.f kj24 t227 t237).bind fun t240 => (some t240))) else (some false)) = some r := H
            have A35 := Aside0.mk A350
            clear A350
            by_cases c36 : t236 = true
            ·
             subst c36
             have H1 : ((plenumref44_Histogram.f kj24 l0 l2 a3 a4).bind fun t237 => ((plenumref44_Same.f kj24 t227 t237).bind fun t240 => (some t240))) = some r := by rw [if_pos rfl] at H; exact H
             clear H
             have H := H1
             clear H1
             replace H := Option.bind_eq_some_iff.mp H
             obtain ⟨t237, A370, H⟩ := H
             replace H : ((plenumref44_Same.f kj24 t227 t237).bind fun t240 => (some t240)) = some r := H
             have A37 := Aside0.mk A370
             clear A370
             replace H := Option.bind_eq_some_iff.mp H
             obtain ⟨t240, A380, H⟩ := H
             replace H : (some t240) = some r := H
             have A38 := Aside0.mk A380
             clear A380
             obtain rfl := Option.some.inj H
             go_wp2_with (first | ((with_reducible refine gate_callee (f := 11) rfl ?_); refine goesL_ (some 94) rfl rfl Try.func11 (by kernel_rfl) rfl #[] rfl (by (try simp only [List.map_toArray, List.map_cons, List.map_nil]); first | done | rfl | (simp only [List.length_drop, List.length_take]; rfl)) ?_; (with_reducible refine (plenumlaw44_awake.calls  true _ A35.out).mono ?_); rintro e w39 ⟨rfl, hb⟩; refine ⟨_, rfl, ?_⟩; have n0_ := Aside0.mk (Kd.R_below (by (with_reducible repeat (first | apply Kd.R_alloc | apply Kd.R_drewN | apply Kd.R_drew)); exact HO_13.out) hb); have n1_ := Aside0.mk (below_step (by repeat (first | (with_reducible first | exact HB.out | apply below_alloc | apply pw_below_drewN | apply below_drew1) | exact HB.out)) hb); clear HO_13; clear HB; have HO_13 := n0_; have HB := n1_; clear n0_ n1_; (try clear hb); (try clear hb2); (try clear hk); (try clear hi)) | (go_at_call 20; (with_reducible refine (plenumref44_Histogram.calls kj24 _ _ l0 _ _ l2 a3 a4 t237 _ ?side1 ?side2 ?side3 ?side4 A37.out).mono ?_); (case side1 => repeat (first | exact (Kd.C_below HR0.out HB.out) | (with_reducible refine Kd.C_alloc ?_ _) | (with_reducible refine Kd.C_drewN ?_ _) | (with_reducible refine Kd.C_drew ?_))); (case side2 => exact HC0.out); (case side3 => repeat (first | exact (Kd.C_below HR2.out HB.out) | (with_reducible refine Kd.C_alloc ?_ _) | (with_reducible refine Kd.C_drewN ?_ _) | (with_reducible refine Kd.C_drew ?_))); (case side4 => exact HC2.out); rintro e w40 ⟨v238, rfl, ho0, hb⟩; have n0_ := Aside0.mk (Kd.R_elder' (by (with_reducible repeat (first | apply Kd.R_alloc | apply Kd.R_drewN | apply Kd.R_drew)); exact HO_13.out) (Kd.R_base ho0) hb); have n1_ := Aside0.mk (Kd.R_lower (Kd.R_new' ho0 (Kd.R_lt (by (with_reducible repeat (first | apply Kd.R_alloc | apply Kd.R_drewN | apply Kd.R_drew)); exact HO_13.out))) (below_size (by repeat (first | (with_reducible first | exact HB.out | apply below_alloc | apply pw_below_drewN | apply below_drew1) | exact HB.out)))); have n2_ := Aside0.mk (below_step (by repeat (first | (with_reducible first | exact HB.out | apply below_alloc | apply pw_below_drewN | apply below_drew1) | exact HB.out)) hb); clear HO_13; clear HB; have HO_13 := n0_; have HO239 := n1_; have HB := n2_; clear n0_ n1_ n2_; (try clear hb); (try clear hb2); (try clear hk); (try clear hi); (try clear ho0); obtain ⟨Ao41, co41, eo41⟩ := Kd.R_slice HO_13.out; subst eo41; obtain ⟨Ao42, co42, eo42⟩ := Kd.R_slice HO239.out; subst eo42) | (go_at_call 19; (with_reducible refine (plenumref44_Same.calls kj24 _ _ t227 _ _ t237 t240 _ ?side1 ?side2 ?side3 ?side4 A38.out).mono ?_); (case side1 => repeat (first | exact (Kd.R_reads' HO_13.out).2.2 | (with_reducible refine Kd.C_alloc ?_ _) | (with_reducible refine Kd.C_drewN ?_ _) | (with_reducible refine Kd.C_drew ?_))); (case side2 => exact (Kd.R_reads' HO_13.out).2.1); (case side3 => repeat (first | exact (Kd.R_reads' HO239.out).2.2 | (with_reducible refine Kd.C_alloc ?_ _) | (with_reducible refine Kd.C_drewN ?_ _) | (with_reducible refine Kd.C_drew ?_))); (case side4 => exact (Kd.R_reads' HO239.out).2.1); rintro e w' ⟨rfl, ⟨nd, rfl⟩⟩))
             go_ret
             exact ⟨by first | rfl | (simp [errW_none, errW_some] <;> rfl) | (simp [*, errW_none, errW_some] <;> rfl), by repeat (first | (with_reducible first | exact HB.out | apply below_alloc | apply pw_below_drewN | apply below_drew1) | exact HB.out)⟩
            ·
             replace c36 := Bool.eq_false_iff.mpr c36
             subst c36
             have H1 : (some false) = some r := by rw [if_neg (show ¬ (false = true) by decide)] at H; exact H
             clear H
             have H := H1
             clear H1
             obtain rfl := Option.some.inj H
             go_wp2_with (first | ((with_reducible refine gate_callee (f := 11) rfl ?_); refine goesL_ (some 94) rfl rfl Try.func11 (by kernel_rfl) rfl #[] rfl (by (try simp only [List.map_toArray, List.map_cons, List.map_nil]); first | done | rfl | (simp only [List.length_drop, List.length_take]; rfl)) ?_; (with_reducible refine (plenumlaw44_awake.calls  false _ A35.out).mono ?_); rintro e w43 ⟨rfl, hb⟩; refine ⟨_, rfl, ?_⟩; have n0_ := Aside0.mk (Kd.R_below (by (with_reducible repeat (first | apply Kd.R_alloc | apply Kd.R_drewN | apply Kd.R_drew)); exact HO_13.out) hb); have n1_ := Aside0.mk (below_step (by repeat (first | (with_reducible first | exact HB.out | apply below_alloc | apply pw_below_drewN | apply below_drew1) | exact HB.out)) hb); clear HO_13; clear HB; have HO_13 := n0_; have HB := n1_; clear n0_ n1_; (try clear hb); (try clear hb2); (try clear hk); (try clear hi)))
             go_ret
             exact ⟨by first | rfl | (simp [errW_none, errW_some] <;> rfl) | (simp [*, errW_none, errW_some] <;> rfl), by repeat (first | (with_reducible first | exact HB.out | apply below_alloc | apply pw_below_drewN | apply below_drew1) | exact HB.out)⟩
           ·
            rw [if_neg c34] at H
            have c34b0 : (x16_21 == 0) = false := beq_eq_false_iff_ne.mpr c34
            have c34b1 : (x16_21 != 0) = true := bne_iff_ne.mpr c34
            replace H := Option.bind_eq_some_iff.mp H
            obtain ⟨t241, A440, H⟩ := H
            replace H : (if t241 = true then (some ((t227.length : Int) == 0)) else (some false)) = some r := H
            have A44 := Aside0.mk A440
            clear A440
            by_cases c45 : t241 = true
            ·
             subst c45
             have H1 : (some ((t227.length : Int) == 0)) = some r := by rw [if_pos rfl] at H; exact H
             clear H
             have H := H1
             clear H1
             obtain rfl := Option.some.inj H
             go_wp2_with (first | ((with_reducible refine gate_callee (f := 11) rfl ?_); refine goesL_ (some 88) rfl rfl Try.func11 (by kernel_rfl) rfl #[] rfl (by (try simp only [List.map_toArray, List.map_cons, List.map_nil]); first | done | rfl | (simp only [List.length_drop, List.length_take]; rfl)) ?_; (with_reducible refine (plenumlaw44_awake.calls  true _ A44.out).mono ?_); rintro e w46 ⟨rfl, hb⟩; refine ⟨_, rfl, ?_⟩; have n0_ := Aside0.mk (Kd.R_below (by (with_reducible repeat (first | apply Kd.R_alloc | apply Kd.R_drewN | apply Kd.R_drew)); exact HO_13.out) hb); have n1_ := Aside0.mk (below_step (by repeat (first | (with_reducible first | exact HB.out | apply below_alloc | apply pw_below_drewN | apply below_drew1) | exact HB.out)) hb); clear HO_13; clear HB; have HO_13 := n0_; have HB := n1_; clear n0_ n1_; (try clear hb); (try clear hb2); (try clear hk); (try clear hi); obtain ⟨Ao47, co47, eo47⟩ := Kd.R_slice HO_13.out; subst eo47))
             go_ret
             exact ⟨by first | rfl | (simp [errW_none, errW_some] <;> rfl) | (simp [*, errW_none, errW_some] <;> rfl), by repeat (first | (with_reducible first | exact HB.out | apply below_alloc | apply pw_below_drewN | apply below_drew1) | exact HB.out)⟩
            ·
             replace c45 := Bool.eq_false_iff.mpr c45
             subst c45
             have H1 : (some false) = some r := by rw [if_neg (show ¬ (false = true) by decide)] at H; exact H
             clear H
             have H := H1
             clear H1
             obtain rfl := Option.some.inj H
             go_wp2_with (first | ((with_reducible refine gate_callee (f := 11) rfl ?_); refine goesL_ (some 88) rfl rfl Try.func11 (by kernel_rfl) rfl #[] rfl (by (try simp only [List.map_toArray, List.map_cons, List.map_nil]); first | done | rfl | (simp only [List.length_drop, List.length_take]; rfl)) ?_; (with_reducible refine (plenumlaw44_awake.calls  false _ A44.out).mono ?_); rintro e w48 ⟨rfl, hb⟩; refine ⟨_, rfl, ?_⟩; have n0_ := Aside0.mk (Kd.R_below (by (with_reducible repeat (first | apply Kd.R_alloc | apply Kd.R_drewN | apply Kd.R_drew)); exact HO_13.out) hb); have n1_ := Aside0.mk (below_step (by repeat (first | (with_reducible first | exact HB.out | apply below_alloc | apply pw_below_drewN | apply below_drew1) | exact HB.out)) hb); clear HO_13; clear HB; have HO_13 := n0_; have HB := n1_; clear n0_ n1_; (try clear hb); (try clear hb2); (try clear hk); (try clear hi)))
             go_ret
             exact ⟨by first | rfl | (simp [errW_none, errW_some] <;> rfl) | (simp [*, errW_none, errW_some] <;> rfl), by repeat (first | (with_reducible first | exact HB.out | apply below_alloc | apply pw_below_drewN | apply below_drew1) | exact HB.out)⟩
/-- THE ONE PURE STATEMENT of plenumlaw44_StatsHistograms. -/
def plenumlaw44_StatsHistograms.Pure : Prop := ∀ (l0 : List (S57)) (a1 : Int) (l2 : List Int) (a3 : Int) (a4 : Int), l0.length ≤ maxLen → l0.length * 24 ≤ 140737488351232 → (∀ x ∈ l0, (Lit.int .i64 x.f0).wf = true ∧ (Lit.int .i64 x.f1.f0).wf = true ∧ (Lit.int .i64 x.f1.f1).wf = true) → (Lit.int .i64 a1).wf = true → l2.length ≤ maxLen → l2.length * 8 ≤ 140737488351232 → (∀ x ∈ l2, (Lit.int .i64 x).wf = true) → (Lit.int .i64 a3).wf = true → (Lit.int .i64 a4).wf = true → ∃ k, plenumlaw44_StatsHistograms.f k l0 a1 l2 a3 a4 = some true
theorem plenumlaw44_StatsHistograms.walk (P : plenumlaw44_StatsHistograms.Pure) (A0 : Option Addr) (c0 : Nat) (l0 : List (S57)) (a1 : Int) (A2 : Option Addr) (c2 : Nat) (l2 : List Int) (a3 : Int) (a4 : Int) (w : World) (hr0 : Kd.C k57 w A0 l0.length l0) (hc0 : l0.length ≤ c0) (hm0 : l0.length ≤ maxLen) (y0 : l0.length * 24 ≤ 140737488351232) (hw0 : ∀ x ∈ l0, (Lit.int .i64 x.f0).wf = true ∧ (Lit.int .i64 x.f1.f0).wf = true ∧ (Lit.int .i64 x.f1.f1).wf = true) (wa1 : (Lit.int .i64 a1).wf = true) (hr2 : Kd.C (Kd.int .i64) w A2 l2.length l2) (hc2 : l2.length ≤ c2) (hm2 : l2.length ≤ maxLen) (y2 : l2.length * 8 ≤ 140737488351232) (hw2 : ∀ x ∈ l2, (Lit.int .i64 x).wf = true) (wa3 : (Lit.int .i64 a3).wf = true) (wa4 : (Lit.int .i64 a4).wf = true) :
 Calls Try.prog 3 #[.slice A0 l0.length c0, .int .i64 a1, .slice A2 l2.length c2, .int .i64 a3, .int .i64 a4] w fun e w' => e = .returned (.bool true) ∧ Below w.heap.size w w' := by
 obtain ⟨k, h⟩ := P l0 a1 l2 a3 a4 hm0 y0 hw0 wa1 hm2 y2 hw2 wa3 wa4
 refine (plenumlaw44_StatsHistograms.calls k A0 c0 l0 a1 A2 c2 l2 a3 a4 true w hr0 hc0 hr2 hc2 h).mono ?_
 rintro e w' ⟨rfl, hd⟩
 exact ⟨rfl, hd⟩
end Go.Proofs.Ytnfcbhoaebcndaa.PT
