-- Laid by hp.py (a program of this session's) through the kit's printer. (squeezed)
import Derived.Test.YtpehicdglooeaaaPTx0
import Derived.Test.YtpehicdglooeaaaPTx24
import Derived.Test.YtpehicdglooeaaaPTx31
namespace Go.Proofs.Ytpehicdglooeaaa.PT
open Go.RowKit Go.Proofs.YtpehicdglooeaaaW.PrintWords Go.Proofs.YtpehicdglooeaaaW.PrintLast Go.Proofs.YtpehicdglooeaaaW.PrintMore
attribute [local go_sem] max2_int min2_int max_two min_two max_three min_three max_four min_four   -- for this text's walks alone
set_option linter.unusedVariables false
set_option linter.unusedSimpArgs false
/-! ### plenumref36_Check: function 19 -/
mutual
def plenumref36_Check.j0 : Nat → List Int → Bool → Int → Int → Int → Int → Bool → Option (Int)
 | 0, _, _, _, _, _, _, _ => none
 | k + 1, x2, x23, x249000, x249001, x249002, x249003, x249004 => if x23 = true then (some 6) else (if x249002 < 0 then (plenumref36_Check.j1 k x2 true) else (if x249002 > x249003 then (plenumref36_Check.j1 k x2 true) else (if x249003 > 6311433599 then (plenumref36_Check.j1 k x2 true) else (if (wrap64 (x249003 - x249002)) > 1440 then (plenumref36_Check.j1 k x2 true) else (plenumref36_Check.j1 k x2 ((x2.length : Int) != (wrap64 (x249003 - x249002))))))))
def plenumref36_Check.j1 : Nat → List Int → Bool → Option (Int)
 | 0, _, _ => none
 | k + 1, x2, x56 => if x56 = true then (some 1) else (plenumref36_Check.l0 k x2 0)
def plenumref36_Check.l0 : Nat → List Int → Int → Option (Int)
 | 0, _, _ => none
 | k + 1, x2, x8 => if x8 < (x2.length : Int) then (if 0 ≤ x8 then ((plenumref35_Temp.f (rd x2 x8)).bind fun t253 => (if t253 = true then (plenumref36_Check.l0 k x2 (wrap64 (x8 + 1))) else (some 6))) else (none)) else (some 0)
end
def plenumref36_Check.f (k : Nat) (a0_0 : Int) (a0_1 : Int) (a1_0 : Int) (a1_1 : Int) (a1_2 : Int) (a1_3 : Int) (a1_4 : Bool) (l2 : List Int) : Option (Int) := (plenumref35_Check.f a0_0 a0_1).bind fun t249 => (if t249 = 0 then ((plenumref35_Temp.f a1_0).bind fun t250 => (if t250 = true then ((plenumref35_Temp.f a1_1).bind fun t251 => (plenumref36_Check.j0 k l2 (!t251) a1_0 a1_1 a1_2 a1_3 a1_4)) else (plenumref36_Check.j0 k l2 true a1_0 a1_1 a1_2 a1_3 a1_4))) else (some t249))
theorem plenumref36_Check.mono_l : ∀ k, (∀ y0 y1 y2 y3 y4 y5 y6, LeO (plenumref36_Check.j0 k y0 y1 y2 y3 y4 y5 y6) (plenumref36_Check.j0 (k + 1) y0 y1 y2 y3 y4 y5 y6)) ∧ (∀ y0 y1, LeO (plenumref36_Check.j1 k y0 y1) (plenumref36_Check.j1 (k + 1) y0 y1)) ∧ (∀ y0 y1, LeO (plenumref36_Check.l0 k y0 y1) (plenumref36_Check.l0 (k + 1) y0 y1))
 | 0 => ⟨fun _ _ _ _ _ _ _ r h => by simp [plenumref36_Check.j0] at h, fun _ _ r h => by simp [plenumref36_Check.j1] at h, fun _ _ r h => by simp [plenumref36_Check.l0] at h⟩
 | k + 1 => by
  obtain ⟨ih0, ih1, ih2⟩ := plenumref36_Check.mono_l k
  refine ⟨?_, ?_, ?_⟩
  ·
   intro y0 y1 y2 y3 y4 y5 y6
   unfold plenumref36_Check.j0
   repeat' first
   | (with_reducible exact ih0 _ _ _ _ _ _ _)
   | (with_reducible exact ih1 _ _)
   | (with_reducible exact ih2 _ _)
   | (with_reducible exact LeO.refl _)
   | (with_reducible exact LeO.none _)
   | (with_reducible refine LeO.ite ?_ ?_)
   | (with_reducible refine LeO.bind ?_ (fun _ => ?_))
   | exact ih0 _ _ _ _ _ _ _
   | exact ih1 _ _
   | exact ih2 _ _
   | exact LeO.none _
   | refine LeO.ite ?_ ?_
   | refine LeO.bind ?_ (fun _ => ?_)
  ·
   intro y0 y1
   unfold plenumref36_Check.j1
   repeat' first
   | (with_reducible exact ih0 _ _ _ _ _ _ _)
   | (with_reducible exact ih1 _ _)
   | (with_reducible exact ih2 _ _)
   | (with_reducible exact LeO.refl _)
   | (with_reducible exact LeO.none _)
   | (with_reducible refine LeO.ite ?_ ?_)
   | (with_reducible refine LeO.bind ?_ (fun _ => ?_))
   | exact ih0 _ _ _ _ _ _ _
   | exact ih1 _ _
   | exact ih2 _ _
   | exact LeO.none _
   | refine LeO.ite ?_ ?_
   | refine LeO.bind ?_ (fun _ => ?_)
  ·
   intro y0 y1
   unfold plenumref36_Check.l0
   repeat' first
   | (with_reducible exact ih0 _ _ _ _ _ _ _)
   | (with_reducible exact ih1 _ _)
   | (with_reducible exact ih2 _ _)
   | (with_reducible exact LeO.refl _)
   | (with_reducible exact LeO.none _)
   | (with_reducible refine LeO.ite ?_ ?_)
   | (with_reducible refine LeO.bind ?_ (fun _ => ?_))
   | exact ih0 _ _ _ _ _ _ _
   | exact ih1 _ _
   | exact ih2 _ _
   | exact LeO.none _
   | refine LeO.ite ?_ ?_
   | refine LeO.bind ?_ (fun _ => ?_)
theorem plenumref36_Check.mono : ∀ a0 a1 a2 a3 a4 a5 a6 a7 k, LeO (plenumref36_Check.f k a0 a1 a2 a3 a4 a5 a6 a7) (plenumref36_Check.f (k + 1) a0 a1 a2 a3 a4 a5 a6 a7) := by
 intro a0 a1 a2 a3 a4 a5 a6 a7 k
 obtain ⟨ih0, ih1, ih2⟩ := plenumref36_Check.mono_l k
 unfold plenumref36_Check.f
 repeat' first
  | (with_reducible exact ih0 _ _ _ _ _ _ _)
  | (with_reducible exact ih1 _ _)
  | (with_reducible exact ih2 _ _)
  | (with_reducible exact LeO.refl _)
  | (with_reducible exact LeO.none _)
  | (with_reducible refine LeO.ite ?_ ?_)
  | (with_reducible refine LeO.bind ?_ (fun _ => ?_))
  | exact ih0 _ _ _ _ _ _ _
  | exact ih1 _ _
  | exact ih2 _ _
  | exact LeO.none _
  | refine LeO.ite ?_ ?_
  | refine LeO.bind ?_ (fun _ => ?_)
set_option maxHeartbeats 8000000 in
set_option maxRecDepth 100000 in
theorem plenumref36_Check.calls (k : Nat) (a0_0 : Int) (a0_1 : Int) (a1_0 : Int) (a1_1 : Int) (a1_2 : Int) (a1_3 : Int) (a1_4 : Bool) (A2 : Option Addr) (c2 : Nat) (l2 : List Int) (r : Int) (w : World) (hr2 : Kd.C (Kd.int .i64) w A2 l2.length l2) (hc2 : l2.length ≤ c2) (h : plenumref36_Check.f k a0_0 a0_1 a1_0 a1_1 a1_2 a1_3 a1_4 l2 = some r) :
 Calls Try.prog 19 #[.agg #[.int .i64 a0_0, .int .i64 a0_1], .agg #[.int .i64 a1_0, .int .i64 a1_1, .int .i64 a1_2, .int .i64 a1_3, .bool a1_4], .slice A2 l2.length c2] w fun e w' => e = .returned (.int .i64 r) ∧ Below w.heap.size w w' := by
 have hu23 := Try.underlying23
 have hu25 := Try.underlying25
 have HR2 := Aside0.mk hr2
 have HC2 := Aside0.mk hc2
 clear hr2 hc2
 have HB := Aside0.mk (Below.refl w.heap.size w)
 have H : ((plenumref35_Check.f a0_0 a0_1).bind fun t249 => (if t249 = 0 then ((plenumref35_Temp.f a1_0).bind fun t250 => (if t250 = true then ((plenumref35_Temp.f a1_1).bind fun t251 => (plenumref36_Check.j0 k l2 (!t251) a1_0 a1_1 a1_2 a1_3 a1_4)) else (plenumref36_Check.j0 k l2 true a1_0 a1_1 a1_2 a1_3 a1_4))) else (some t249))) = some r := h
 clear h
 replace H := Option.bind_eq_some_iff.mp H
 obtain ⟨t249, A40, H⟩ := H
 replace H : (if t249 = 0 then ((plenumref35_Temp.f a1_0).bind fun t250 => (if t250 = true then ((plenumref35_Temp.f a1_1).bind fun t251 => (plenumref36_Check.j0 k l2 (!t251) a1_0 a1_1 a1_2 a1_3 a1_4)) else (plenumref36_Check.j0 k l2 true a1_0 a1_1 a1_2 a1_3 a1_4))) else (some t249)) = some r := H
 have A4 := Aside0.mk A40
 clear A40
 by_cases c5 : t249 = 0
 ·
  rw [if_pos c5] at H
  have c5b0 : (t249 == 0) = true := beq_iff_eq.mpr c5
  have c5b1 : (t249 != 0) = false := bne_eq_false_iff_eq.mpr c5
  clear c5
  have HC6 := Aside0.mk H
  clear H
  go_enter Try.func19, Try.ntmps19
  go_upto_region 4 with (first | ((with_reducible refine gate_dst (N := 3) rfl ?_); (try (refine gate_guard (by rfl) ?_; dsimp only)); refine box_event ?hg (N := 3) ?hd (cs := #[.int .i64 a0_0, .int .i64 a0_1]) (t := 23) ?hr ?_; (case hd => rfl); (case hg => rfl); (case hr => first | (go_simp; done) | (go_simp; rfl)); intro gb247 hg w7 hbox hb; have n0_ := Aside0.mk (below_step (by repeat (first | (with_reducible first | exact HB.out | apply below_alloc | apply pw_below_drewN | apply below_drew1) | exact HB.out)) hb); have n1_ := Aside0.mk (hbox); have n2_ := Aside0.mk ((by rw [hg]; exact (below_size (by repeat (first | (with_reducible first | exact HB.out | apply below_alloc | apply pw_below_drewN | apply below_drew1) | exact HB.out))) : w.heap.size ≤ gb247)); have n3_ := Aside0.mk ((by rw [hg]; exact (below_size (by repeat (first | (with_reducible first | exact HB.out | apply below_alloc | apply pw_below_drewN | apply below_drew1) | exact HB.out))) : w.heap.size ≤ gb247)); clear HB; have HB := n0_; have BK247 := n1_; have GW247 := n2_; have GE247 := n3_; clear n0_ n1_ n2_ n3_; clear hb hbox hg) | ((with_reducible refine gate_dst (N := 4) rfl ?_); (try (refine gate_guard (by rfl) ?_; dsimp only)); refine box_event ?hg (N := 4) ?hd (cs := #[.int .i64 a1_0, .int .i64 a1_1, .int .i64 a1_2, .int .i64 a1_3, .bool a1_4]) (t := 25) ?hr ?_; (case hd => rfl); (case hg => rfl); (case hr => first | (go_simp; done) | (go_simp; rfl)); intro gb248 hg w8 hbox hb; have n0_ := Aside0.mk (blk_below (g := gb247) (o := .cells #[.int .i64 a0_0, .int .i64 a0_1] 23 (0, 0)) (by (with_reducible repeat (first | refine blk_drewN ?_ _ | refine blk_drew ?_ | refine blk_alloc ?_ _)); exact BK247.out) hb); have n1_ := Aside0.mk (below_step (by repeat (first | (with_reducible first | exact HB.out | apply below_alloc | apply pw_below_drewN | apply below_drew1 | refine below_set ?_ GE247.out) | exact HB.out)) hb); have n2_ := Aside0.mk (hbox); have n3_ := Aside0.mk ((by rw [hg]; exact (below_size (by repeat (first | (with_reducible first | exact HB.out | apply below_alloc | apply pw_below_drewN | apply below_drew1 | refine below_set ?_ GE247.out) | exact HB.out))) : w.heap.size ≤ gb248)); have n4_ := Aside0.mk ((by rw [hg]; exact (below_size (by repeat (first | (with_reducible first | exact HB.out | apply below_alloc | apply pw_below_drewN | apply below_drew1 | refine below_set ?_ GE247.out) | exact HB.out))) : w.heap.size ≤ gb248)); have n5_ := Aside0.mk ((by rw [hg]; exact Nat.ne_of_lt (blk_lt (g := gb247) (o := .cells #[.int .i64 a0_0, .int .i64 a0_1] 23 (0, 0)) (by (with_reducible repeat (first | refine blk_drewN ?_ _ | refine blk_drew ?_ | refine blk_alloc ?_ _)); exact BK247.out)) : gb247 ≠ gb248)); have n6_ := Aside0.mk ((by rw [hg]; exact Nat.ne_of_gt (blk_lt (g := gb247) (o := .cells #[.int .i64 a0_0, .int .i64 a0_1] 23 (0, 0)) (by (with_reducible repeat (first | refine blk_drewN ?_ _ | refine blk_drew ?_ | refine blk_alloc ?_ _)); exact BK247.out)) : gb248 ≠ gb247)); clear BK247; clear HB; have BK247 := n0_; have HB := n1_; have BK248 := n2_; have GW248 := n3_; have GE248 := n4_; have NB247_248 := n5_; have NB248_247 := n6_; clear n0_ n1_ n2_ n3_ n4_ n5_ n6_; clear hb hbox hg; have hnb9 := NB247_248.out; have hnc9 := NB248_247.out; have hcz10_0 : w8.cell? ⟨gb247, 0, none⟩ = some (.int .i64 a0_0) := (blk_cell BK247.out 0).trans rfl; have hcz10_1 : w8.cell? ⟨gb247, 1, none⟩ = some (.int .i64 a0_1) := (blk_cell BK247.out 1).trans rfl; have hfz10_0 := blk_frozen BK247.out 0; have hfz10_1 := blk_frozen BK247.out 1) | ((with_reducible refine gate_callee (f := 34) rfl ?_); refine goesL_ (some 10) rfl rfl Try.func34 (by kernel_rfl) rfl #[.agg #[.int .i64 a0_0, .int .i64 a0_1]] rfl (by (try simp only [List.map_toArray, List.map_cons, List.map_nil]); first | done | rfl | (simp only [List.length_drop, List.length_take]; rfl)) ?_; (with_reducible refine (plenumref35_Check.calls a0_0 a0_1 t249 _ A4.out).mono ?_); rintro e w11 ⟨rfl, hb⟩; refine ⟨_, rfl, ?_⟩; have n0_ := Aside0.mk (blk_below (g := gb247) (o := .cells #[.int .i64 a0_0, .int .i64 a0_1] 23 (0, 0)) (by (with_reducible repeat (first | refine blk_drewN ?_ _ | refine blk_drew ?_ | refine blk_alloc ?_ _)); exact BK247.out) hb); have n1_ := Aside0.mk (blk_below (g := gb248) (o := .cells #[.int .i64 a1_0, .int .i64 a1_1, .int .i64 a1_2, .int .i64 a1_3, .bool a1_4] 25 (0, 0)) (by (with_reducible repeat (first | refine blk_drewN ?_ _ | refine blk_drew ?_ | refine blk_alloc ?_ _)); exact BK248.out) hb); have n2_ := Aside0.mk (below_step (by repeat (first | (with_reducible first | exact HB.out | apply below_alloc | apply pw_below_drewN | apply below_drew1 | refine below_set ?_ GE247.out | refine below_set ?_ GE248.out) | exact HB.out)) hb); clear BK247; clear BK248; clear HB; have BK247 := n0_; have BK248 := n1_; have HB := n2_; clear n0_ n1_ n2_; (try clear hb); (try clear hb2); (try clear hk); (try clear hi)))
  (try simp only [Act.put, List.setIfInBounds_toArray, List.set_cons_zero, List.set_cons_succ])
  go_cut [23] (fun v23 wc => ∃ (kq : Nat) (x23_5 : Bool), v23 = .bool x23_5 ∧ Aside0 (plenumref36_Check.j0 kq l2 x23_5 a1_0 a1_1 a1_2 a1_3 a1_4 = some r) ∧ Aside0 (kq ≤ k) ∧ Aside0 (wc.heap[gb247]? = some (.cells #[.int .i64 a0_0, .int .i64 a0_1] 23 (0, 0))) ∧ Aside0 (wc.heap[gb248]? = some (.cells #[.int .i64 a1_0, .int .i64 a1_1, .int .i64 a1_2, .int .i64 a1_3, .bool a1_4] 25 (0, 0))) ∧ Aside0 (Below w.heap.size w wc))
  case first =>
   have H := HC6.out
   clear HC6
   replace H := Option.bind_eq_some_iff.mp H
   obtain ⟨t250, A120, H⟩ := H
   replace H : (if t250 = true then ((plenumref35_Temp.f a1_1).bind fun t251 => (plenumref36_Check.j0 k l2 (!t251) a1_0 a1_1 a1_2 a1_3 a1_4)) else (plenumref36_Check.j0 k l2 true a1_0 a1_1 a1_2 a1_3 a1_4)) = some r := H
   have A12 := Aside0.mk A120
   clear A120
   by_cases c13 : t250 = true
   ·
    subst c13
    have H1 : ((plenumref35_Temp.f a1_1).bind fun t251 => (plenumref36_Check.j0 k l2 (!t251) a1_0 a1_1 a1_2 a1_3 a1_4)) = some r := by rw [if_pos rfl] at H; exact H
    clear H
    have H := H1
    clear H1
    replace H := Option.bind_eq_some_iff.mp H
    obtain ⟨t251, A140, H⟩ := H
    replace H : (plenumref36_Check.j0 k l2 (!t251) a1_0 a1_1 a1_2 a1_3 a1_4) = some r := H
    have A14 := Aside0.mk A140
    clear A140
    have H' := Aside0.mk H
    clear H
    have hnb15 := NB248_247.out
    have hnc15 := NB247_248.out
    have hcz16_0 : w11.cell? ⟨gb248, 0, none⟩ = some (.int .i64 a1_0) := (blk_cell BK248.out 0).trans rfl
    have hcz16_1 : w11.cell? ⟨gb248, 1, none⟩ = some (.int .i64 a1_1) := (blk_cell BK248.out 1).trans rfl
    have hcz16_2 : w11.cell? ⟨gb248, 2, none⟩ = some (.int .i64 a1_2) := (blk_cell BK248.out 2).trans rfl
    have hcz16_3 : w11.cell? ⟨gb248, 3, none⟩ = some (.int .i64 a1_3) := (blk_cell BK248.out 3).trans rfl
    have hcz16_4 : w11.cell? ⟨gb248, 4, none⟩ = some (.bool a1_4) := (blk_cell BK248.out 4).trans rfl
    have hfz16_0 := blk_frozen BK248.out 0
    have hfz16_1 := blk_frozen BK248.out 1
    have hfz16_2 := blk_frozen BK248.out 2
    have hfz16_3 := blk_frozen BK248.out 3
    have hfz16_4 := blk_frozen BK248.out 4
    go_wp2_with (first | ((with_reducible refine gate_callee (f := 31) rfl ?_); refine goesL_ (some 16) rfl rfl Try.func31 (by kernel_rfl) rfl #[.int .i64 a1_0] rfl (by (try simp only [List.map_toArray, List.map_cons, List.map_nil]); first | done | rfl | (simp only [List.length_drop, List.length_take]; rfl)) ?_; (with_reducible refine (plenumref35_Temp.calls a1_0 true _ A12.out).mono ?_); rintro e w' ⟨rfl, ⟨nd, rfl⟩⟩; refine ⟨_, rfl, ?_⟩) | (go_at_call 31; (with_reducible refine (plenumref35_Temp.calls a1_1 t251 _ A14.out).mono ?_); rintro e w' ⟨rfl, ⟨nd, rfl⟩⟩))
    go_meet
    case rel => exact ⟨_, (!t251), (by first | rfl | (simp; done) | (simp [*]; done)), H', ⟨by first | omega | exact Nat.le_refl _⟩, ⟨by (with_reducible repeat (first | refine blk_drewN ?_ _ | refine blk_drew ?_ | refine blk_alloc ?_ _)); exact BK247.out⟩, ⟨by (with_reducible repeat (first | refine blk_drewN ?_ _ | refine blk_drew ?_ | refine blk_alloc ?_ _)); exact BK248.out⟩, ⟨by repeat (first | (with_reducible first | exact HB.out | apply below_alloc | apply pw_below_drewN | apply below_drew1 | refine below_set ?_ GE247.out | refine below_set ?_ GE248.out) | exact HB.out)⟩⟩
   ·
    replace c13 := Bool.eq_false_iff.mpr c13
    subst c13
    have H1 : (plenumref36_Check.j0 k l2 true a1_0 a1_1 a1_2 a1_3 a1_4) = some r := by rw [if_neg (show ¬ (false = true) by decide)] at H; exact H
    clear H
    have H := H1
    clear H1
    have H' := Aside0.mk H
    clear H
    have hnb17 := NB248_247.out
    have hnc17 := NB247_248.out
    have hcz18_0 : w11.cell? ⟨gb248, 0, none⟩ = some (.int .i64 a1_0) := (blk_cell BK248.out 0).trans rfl
    have hcz18_1 : w11.cell? ⟨gb248, 1, none⟩ = some (.int .i64 a1_1) := (blk_cell BK248.out 1).trans rfl
    have hcz18_2 : w11.cell? ⟨gb248, 2, none⟩ = some (.int .i64 a1_2) := (blk_cell BK248.out 2).trans rfl
    have hcz18_3 : w11.cell? ⟨gb248, 3, none⟩ = some (.int .i64 a1_3) := (blk_cell BK248.out 3).trans rfl
    have hcz18_4 : w11.cell? ⟨gb248, 4, none⟩ = some (.bool a1_4) := (blk_cell BK248.out 4).trans rfl
    have hfz18_0 := blk_frozen BK248.out 0
    have hfz18_1 := blk_frozen BK248.out 1
    have hfz18_2 := blk_frozen BK248.out 2
    have hfz18_3 := blk_frozen BK248.out 3
    have hfz18_4 := blk_frozen BK248.out 4
    go_wp2_with (first | ((with_reducible refine gate_callee (f := 31) rfl ?_); refine goesL_ (some 16) rfl rfl Try.func31 (by kernel_rfl) rfl #[.int .i64 a1_0] rfl (by (try simp only [List.map_toArray, List.map_cons, List.map_nil]); first | done | rfl | (simp only [List.length_drop, List.length_take]; rfl)) ?_; (with_reducible refine (plenumref35_Temp.calls a1_0 false _ A12.out).mono ?_); rintro e w' ⟨rfl, ⟨nd, rfl⟩⟩; refine ⟨_, rfl, ?_⟩))
    go_meet
    case rel => exact ⟨_, (true), (by first | rfl | (simp; done) | (simp [*]; done)), H', ⟨by first | omega | exact Nat.le_refl _⟩, ⟨by (with_reducible repeat (first | refine blk_drewN ?_ _ | refine blk_drew ?_ | refine blk_alloc ?_ _)); exact BK247.out⟩, ⟨by (with_reducible repeat (first | refine blk_drewN ?_ _ | refine blk_drew ?_ | refine blk_alloc ?_ _)); exact BK248.out⟩, ⟨by repeat (first | (with_reducible first | exact HB.out | apply below_alloc | apply pw_below_drewN | apply below_drew1 | refine below_set ?_ GE247.out | refine below_set ?_ GE248.out) | exact HB.out)⟩⟩
  case rest =>
   clear HC6
   try clear c1
   try clear c2
   try clear p2
   try clear c3
   try clear c5
   try clear c5b0
   try clear c5b1
   try clear c9
   try clear c13
   try clear c15
   try clear c17
   try clear hcz10_0
   try clear hcz10_1
   try clear hcz16_0
   try clear hcz16_1
   try clear hcz16_2
   try clear hcz16_3
   try clear hcz16_4
   try clear hcz18_0
   try clear hcz18_1
   try clear hcz18_2
   try clear hcz18_3
   try clear hcz18_4
   try clear hfz10_0
   try clear hfz10_1
   try clear hfz16_0
   try clear hfz16_1
   try clear hfz16_2
   try clear hfz16_3
   try clear hfz16_4
   try clear hfz18_0
   try clear hfz18_1
   try clear hfz18_2
   try clear hfz18_3
   try clear hfz18_4
   obtain ⟨kq, x23_5, rfl, HA, HJ5, BK247, BK248, HB⟩ := hcut
   cases kq with
   | zero => exact absurd HA.out (by simp [plenumref36_Check.j0])
   | succ kj5 =>
    have H := HA.out
    clear HA
    simp only [plenumref36_Check.j0] at H
    by_cases c19 : x23_5 = true
    ·
     subst c19
     have H1 : (some 6) = some r := by rw [if_pos rfl] at H; exact H
     clear H
     have H := H1
     clear H1
     obtain rfl := Option.some.inj H
     go_wp2
     go_ret
     exact ⟨by first | rfl | (simp [errW_none, errW_some] <;> rfl) | (simp [*, errW_none, errW_some] <;> rfl), by repeat (first | (with_reducible first | exact HB.out | apply below_alloc | apply pw_below_drewN | apply below_drew1 | refine below_set ?_ GE247.out | refine below_set ?_ GE248.out) | exact HB.out)⟩
    ·
     replace c19 := Bool.eq_false_iff.mpr c19
     subst c19
     have H1 : (if a1_2 < 0 then (plenumref36_Check.j1 kj5 l2 true) else (if a1_2 > a1_3 then (plenumref36_Check.j1 kj5 l2 true) else (if a1_3 > 6311433599 then (plenumref36_Check.j1 kj5 l2 true) else (if (wrap64 (a1_3 - a1_2)) > 1440 then (plenumref36_Check.j1 kj5 l2 true) else (plenumref36_Check.j1 kj5 l2 ((l2.length : Int) != (wrap64 (a1_3 - a1_2)))))))) = some r := by rw [if_neg (show ¬ (false = true) by decide)] at H; exact H
     clear H
     have H := H1
     clear H1
     have HC20 := Aside0.mk H
     clear H
     go_upto_region 6 with (fail)
     go_cut [56] (fun v56 wc => ∃ (kq : Nat) (x56_19 : Bool), v56 = .bool x56_19 ∧ Aside0 (plenumref36_Check.j1 kq l2 x56_19 = some r) ∧ Aside0 (kq ≤ kj5) ∧ Aside0 (wc.heap[gb247]? = some (.cells #[.int .i64 a0_0, .int .i64 a0_1] 23 (0, 0))) ∧ Aside0 (wc.heap[gb248]? = some (.cells #[.int .i64 a1_0, .int .i64 a1_1, .int .i64 a1_2, .int .i64 a1_3, .bool a1_4] 25 (0, 0))) ∧ Aside0 (Below w.heap.size w wc))
     case first =>
      have H := HC20.out
      clear HC20
      by_cases c21 : a1_2 < 0
      ·
       rw [if_pos c21] at H
       have c21b0 : decide (a1_2 < 0) = true := decide_eq_true c21
       clear c21
       (first | rw [c21b0] | (simp only [i64_w, i32_w]; rw [c21b0]) | skip)
       have H' := Aside0.mk H
       clear H
       have hnb22 := NB248_247.out
       have hnc22 := NB247_248.out
       have hcz23_0 : wc.cell? ⟨gb248, 0, none⟩ = some (.int .i64 a1_0) := (blk_cell BK248.out 0).trans rfl
       have hcz23_1 : wc.cell? ⟨gb248, 1, none⟩ = some (.int .i64 a1_1) := (blk_cell BK248.out 1).trans rfl
       have hcz23_2 : wc.cell? ⟨gb248, 2, none⟩ = some (.int .i64 a1_2) := (blk_cell BK248.out 2).trans rfl
       have hcz23_3 : wc.cell? ⟨gb248, 3, none⟩ = some (.int .i64 a1_3) := (blk_cell BK248.out 3).trans rfl
       have hcz23_4 : wc.cell? ⟨gb248, 4, none⟩ = some (.bool a1_4) := (blk_cell BK248.out 4).trans rfl
       have hfz23_0 := blk_frozen BK248.out 0
       have hfz23_1 := blk_frozen BK248.out 1
       have hfz23_2 := blk_frozen BK248.out 2
       have hfz23_3 := blk_frozen BK248.out 3
       have hfz23_4 := blk_frozen BK248.out 4
       go_wp2
       go_meet
       case rel => exact ⟨_, (true), (by first | rfl | (simp; done) | (simp [*]; done)), H', ⟨by have := HJ5.out; first | omega | exact Nat.le_refl _⟩, ⟨by (with_reducible repeat (first | refine blk_drewN ?_ _ | refine blk_drew ?_ | refine blk_alloc ?_ _)); exact BK247.out⟩, ⟨by (with_reducible repeat (first | refine blk_drewN ?_ _ | refine blk_drew ?_ | refine blk_alloc ?_ _)); exact BK248.out⟩, ⟨by repeat (first | (with_reducible first | exact HB.out | apply below_alloc | apply pw_below_drewN | apply below_drew1 | refine below_set ?_ GE247.out | refine below_set ?_ GE248.out) | exact HB.out)⟩⟩
      ·
       rw [if_neg c21] at H
       have c21b0 : decide (a1_2 < 0) = false := decide_eq_false c21
       clear c21
       (first | rw [c21b0] | (simp only [i64_w, i32_w]; rw [c21b0]) | skip)
       by_cases c24 : a1_2 > a1_3
       ·
        rw [if_pos c24] at H
        have c24b0 : decide (a1_3 < a1_2) = true := decide_eq_true c24
        clear c24
        have H' := Aside0.mk H
        clear H
        have hnb25 := NB248_247.out
        have hnc25 := NB247_248.out
        have hcz26_0 : wc.cell? ⟨gb248, 0, none⟩ = some (.int .i64 a1_0) := (blk_cell BK248.out 0).trans rfl
        have hcz26_1 : wc.cell? ⟨gb248, 1, none⟩ = some (.int .i64 a1_1) := (blk_cell BK248.out 1).trans rfl
        have hcz26_2 : wc.cell? ⟨gb248, 2, none⟩ = some (.int .i64 a1_2) := (blk_cell BK248.out 2).trans rfl
        have hcz26_3 : wc.cell? ⟨gb248, 3, none⟩ = some (.int .i64 a1_3) := (blk_cell BK248.out 3).trans rfl
        have hcz26_4 : wc.cell? ⟨gb248, 4, none⟩ = some (.bool a1_4) := (blk_cell BK248.out 4).trans rfl
        have hfz26_0 := blk_frozen BK248.out 0
        have hfz26_1 := blk_frozen BK248.out 1
        have hfz26_2 := blk_frozen BK248.out 2
        have hfz26_3 := blk_frozen BK248.out 3
        have hfz26_4 := blk_frozen BK248.out 4
        go_wp2
        go_meet
        case rel => exact ⟨_, (true), (by first | rfl | (simp; done) | (simp [*]; done)), H', ⟨by have := HJ5.out; first | omega | exact Nat.le_refl _⟩, ⟨by (with_reducible repeat (first | refine blk_drewN ?_ _ | refine blk_drew ?_ | refine blk_alloc ?_ _)); exact BK247.out⟩, ⟨by (with_reducible repeat (first | refine blk_drewN ?_ _ | refine blk_drew ?_ | refine blk_alloc ?_ _)); exact BK248.out⟩, ⟨by repeat (first | (with_reducible first | exact HB.out | apply below_alloc | apply pw_below_drewN | apply below_drew1 | refine below_set ?_ GE247.out | refine below_set ?_ GE248.out) | exact HB.out)⟩⟩
       ·
        rw [if_neg c24] at H
        have c24b0 : decide (a1_3 < a1_2) = false := decide_eq_false c24
        clear c24
        by_cases c27 : a1_3 > 6311433599
        ·
         rw [if_pos c27] at H
         have c27b0 : decide (6311433599 < a1_3) = true := decide_eq_true c27
         clear c27
         have H' := Aside0.mk H
         clear H
         have hnb28 := NB248_247.out
         have hnc28 := NB247_248.out
         have hcz29_0 : wc.cell? ⟨gb248, 0, none⟩ = some (.int .i64 a1_0) := (blk_cell BK248.out 0).trans rfl
         have hcz29_1 : wc.cell? ⟨gb248, 1, none⟩ = some (.int .i64 a1_1) := (blk_cell BK248.out 1).trans rfl
         have hcz29_2 : wc.cell? ⟨gb248, 2, none⟩ = some (.int .i64 a1_2) := (blk_cell BK248.out 2).trans rfl
         have hcz29_3 : wc.cell? ⟨gb248, 3, none⟩ = some (.int .i64 a1_3) := (blk_cell BK248.out 3).trans rfl
         have hcz29_4 : wc.cell? ⟨gb248, 4, none⟩ = some (.bool a1_4) := (blk_cell BK248.out 4).trans rfl
         have hfz29_0 := blk_frozen BK248.out 0
         have hfz29_1 := blk_frozen BK248.out 1
         have hfz29_2 := blk_frozen BK248.out 2
         have hfz29_3 := blk_frozen BK248.out 3
         have hfz29_4 := blk_frozen BK248.out 4
         go_wp2
         go_meet
         case rel => exact ⟨_, (true), (by first | rfl | (simp; done) | (simp [*]; done)), H', ⟨by have := HJ5.out; first | omega | exact Nat.le_refl _⟩, ⟨by (with_reducible repeat (first | refine blk_drewN ?_ _ | refine blk_drew ?_ | refine blk_alloc ?_ _)); exact BK247.out⟩, ⟨by (with_reducible repeat (first | refine blk_drewN ?_ _ | refine blk_drew ?_ | refine blk_alloc ?_ _)); exact BK248.out⟩, ⟨by repeat (first | (with_reducible first | exact HB.out | apply below_alloc | apply pw_below_drewN | apply below_drew1 | refine below_set ?_ GE247.out | refine below_set ?_ GE248.out) | exact HB.out)⟩⟩
        ·
         rw [if_neg c27] at H
         have c27b0 : decide (6311433599 < a1_3) = false := decide_eq_false c27
         clear c27
         by_cases c30 : (wrap64 (a1_3 - a1_2)) > 1440
         ·
          rw [if_pos c30] at H
          have c30b0 : decide (1440 < (wrap64 (a1_3 - a1_2))) = true := decide_eq_true c30
          clear c30
          have H' := Aside0.mk H
          clear H
          have hnb31 := NB248_247.out
          have hnc31 := NB247_248.out
          have hcz32_0 : wc.cell? ⟨gb248, 0, none⟩ = some (.int .i64 a1_0) := (blk_cell BK248.out 0).trans rfl
          have hcz32_1 : wc.cell? ⟨gb248, 1, none⟩ = some (.int .i64 a1_1) := (blk_cell BK248.out 1).trans rfl
          have hcz32_2 : wc.cell? ⟨gb248, 2, none⟩ = some (.int .i64 a1_2) := (blk_cell BK248.out 2).trans rfl
          have hcz32_3 : wc.cell? ⟨gb248, 3, none⟩ = some (.int .i64 a1_3) := (blk_cell BK248.out 3).trans rfl
          have hcz32_4 : wc.cell? ⟨gb248, 4, none⟩ = some (.bool a1_4) := (blk_cell BK248.out 4).trans rfl
          have hfz32_0 := blk_frozen BK248.out 0
          have hfz32_1 := blk_frozen BK248.out 1
          have hfz32_2 := blk_frozen BK248.out 2
          have hfz32_3 := blk_frozen BK248.out 3
          have hfz32_4 := blk_frozen BK248.out 4
          go_wp2
          go_meet
          case rel => exact ⟨_, (true), (by first | rfl | (simp; done) | (simp [*]; done)), H', ⟨by have := HJ5.out; first | omega | exact Nat.le_refl _⟩, ⟨by (with_reducible repeat (first | refine blk_drewN ?_ _ | refine blk_drew ?_ | refine blk_alloc ?_ _)); exact BK247.out⟩, ⟨by (with_reducible repeat (first | refine blk_drewN ?_ _ | refine blk_drew ?_ | refine blk_alloc ?_ _)); exact BK248.out⟩, ⟨by repeat (first | (with_reducible first | exact HB.out | apply below_alloc | apply pw_below_drewN | apply below_drew1 | refine below_set ?_ GE247.out | refine below_set ?_ GE248.out) | exact HB.out)⟩⟩
         ·
          rw [if_neg c30] at H
          have c30b0 : decide (1440 < (wrap64 (a1_3 - a1_2))) = false := decide_eq_false c30
          clear c30
          have H' := Aside0.mk H
          clear H
          have hnb33 := NB248_247.out
          have hnc33 := NB247_248.out
          have hcz34_0 : wc.cell? ⟨gb248, 0, none⟩ = some (.int .i64 a1_0) := (blk_cell BK248.out 0).trans rfl
          have hcz34_1 : wc.cell? ⟨gb248, 1, none⟩ = some (.int .i64 a1_1) := (blk_cell BK248.out 1).trans rfl
          have hcz34_2 : wc.cell? ⟨gb248, 2, none⟩ = some (.int .i64 a1_2) := (blk_cell BK248.out 2).trans rfl
          have hcz34_3 : wc.cell? ⟨gb248, 3, none⟩ = some (.int .i64 a1_3) := (blk_cell BK248.out 3).trans rfl
          have hcz34_4 : wc.cell? ⟨gb248, 4, none⟩ = some (.bool a1_4) := (blk_cell BK248.out 4).trans rfl
          have hfz34_0 := blk_frozen BK248.out 0
          have hfz34_1 := blk_frozen BK248.out 1
          have hfz34_2 := blk_frozen BK248.out 2
          have hfz34_3 := blk_frozen BK248.out 3
          have hfz34_4 := blk_frozen BK248.out 4
          go_wp2
          go_meet
          case rel => exact ⟨_, (((l2.length : Int) != (wrap64 (a1_3 - a1_2)))), (by first | rfl | (simp; done) | (simp [*]; done)), H', ⟨by have := HJ5.out; first | omega | exact Nat.le_refl _⟩, ⟨by (with_reducible repeat (first | refine blk_drewN ?_ _ | refine blk_drew ?_ | refine blk_alloc ?_ _)); exact BK247.out⟩, ⟨by (with_reducible repeat (first | refine blk_drewN ?_ _ | refine blk_drew ?_ | refine blk_alloc ?_ _)); exact BK248.out⟩, ⟨by repeat (first | (with_reducible first | exact HB.out | apply below_alloc | apply pw_below_drewN | apply below_drew1 | refine below_set ?_ GE247.out | refine below_set ?_ GE248.out) | exact HB.out)⟩⟩
     case rest =>
      clear HC20
      try clear c1
      try clear c2
      try clear p2
      try clear c3
      try clear c5
      try clear c5b0
      try clear c5b1
      try clear p6
      try clear c9
      try clear c13
      try clear c15
      try clear c17
      try clear c19
      try clear c21
      try clear c21b0
      try clear c22
      try clear c24
      try clear c24b0
      try clear c25
      try clear c27
      try clear c27b0
      try clear c28
      try clear c30
      try clear c30b0
      try clear c31
      try clear c33
      try clear c34
      try clear hcz10_0
      try clear hcz10_1
      try clear hcz16_0
      try clear hcz16_1
      try clear hcz16_2
      try clear hcz16_3
      try clear hcz16_4
      try clear hcz18_0
      try clear hcz18_1
      try clear hcz18_2
      try clear hcz18_3
      try clear hcz18_4
      try clear hcz23_0
      try clear hcz23_1
      try clear hcz23_2
      try clear hcz23_3
      try clear hcz23_4
      try clear hcz26_0
      try clear hcz26_1
      try clear hcz26_2
      try clear hcz26_3
      try clear hcz26_4
      try clear hcz29_0
      try clear hcz29_1
      try clear hcz29_2
      try clear hcz29_3
      try clear hcz29_4
      try clear hcz32_0
      try clear hcz32_1
      try clear hcz32_2
      try clear hcz32_3
      try clear hcz32_4
      try clear hcz34_0
      try clear hcz34_1
      try clear hcz34_2
      try clear hcz34_3
      try clear hcz34_4
      try clear hfz10_0
      try clear hfz10_1
      try clear hfz16_0
      try clear hfz16_1
      try clear hfz16_2
      try clear hfz16_3
      try clear hfz16_4
      try clear hfz18_0
      try clear hfz18_1
      try clear hfz18_2
      try clear hfz18_3
      try clear hfz18_4
      try clear hfz23_0
      try clear hfz23_1
      try clear hfz23_2
      try clear hfz23_3
      try clear hfz23_4
      try clear hfz26_0
      try clear hfz26_1
      try clear hfz26_2
      try clear hfz26_3
      try clear hfz26_4
      try clear hfz29_0
      try clear hfz29_1
      try clear hfz29_2
      try clear hfz29_3
      try clear hfz29_4
      try clear hfz32_0
      try clear hfz32_1
      try clear hfz32_2
      try clear hfz32_3
      try clear hfz32_4
      try clear hfz34_0
      try clear hfz34_1
      try clear hfz34_2
      try clear hfz34_3
      try clear hfz34_4
      try clear p2
      obtain ⟨kq, x56_19, rfl, HA, HJ19, BK247, BK248, HB⟩ := hcut
      cases kq with
      | zero => exact absurd HA.out (by simp [plenumref36_Check.j1])
      | succ kj19 =>
       have H := HA.out
       clear HA
       simp only [plenumref36_Check.j1] at H
       by_cases c35 : x56_19 = true
       ·
        subst c35
        have H1 : (some 1) = some r := by rw [if_pos rfl] at H; exact H
        clear H
        have H := H1
        clear H1
        obtain rfl := Option.some.inj H
        go_wp2
        go_ret
        exact ⟨by first | rfl | (simp [errW_none, errW_some] <;> rfl) | (simp [*, errW_none, errW_some] <;> rfl), by repeat (first | (with_reducible first | exact HB.out | apply below_alloc | apply pw_below_drewN | apply below_drew1 | refine below_set ?_ GE247.out | refine below_set ?_ GE248.out) | exact HB.out)⟩
       ·
        replace c35 := Bool.eq_false_iff.mpr c35
        subst c35
        have H1 : (plenumref36_Check.l0 kj19 l2 0) = some r := by rw [if_neg (show ¬ (false = true) by decide)] at H; exact H
        clear H
        have H := H1
        clear H1
        have H' := Aside0.mk H
        clear H
        go_wp2
        go_loopg [8] kj19 (fun kq v8 w' => ∃ (x8_3 : Int), v8 = .int .i64 x8_3 ∧ Aside0 (plenumref36_Check.l0 kq l2 x8_3 = some r) ∧ Aside0 (kq ≤ kj19) ∧ Aside0 (w'.heap[gb247]? = some (.cells #[.int .i64 a0_0, .int .i64 a0_1] 23 (0, 0))) ∧ Aside0 (w'.heap[gb248]? = some (.cells #[.int .i64 a1_0, .int .i64 a1_1, .int .i64 a1_2, .int .i64 a1_3, .bool a1_4] 25 (0, 0))) ∧ Aside0 (Below w.heap.size w w'))
        case atStart => exact ⟨(0), (by first | rfl | (simp; done) | (simp [*]; done)), H', ⟨Nat.le_refl _⟩, ⟨by (with_reducible repeat (first | refine blk_drewN ?_ _ | refine blk_drew ?_ | refine blk_alloc ?_ _)); exact BK247.out⟩, ⟨by (with_reducible repeat (first | refine blk_drewN ?_ _ | refine blk_drew ?_ | refine blk_alloc ?_ _)); exact BK248.out⟩, ⟨by repeat (first | (with_reducible first | exact HB.out | apply below_alloc | apply pw_below_drewN | apply below_drew1 | refine below_set ?_ GE247.out | refine below_set ?_ GE248.out) | exact HB.out)⟩⟩
        case round =>
         clear H'
         try clear c1
         try clear c2
         try clear p2
         try clear c3
         try clear c5
         try clear c5b0
         try clear c5b1
         try clear p6
         try clear c9
         try clear c13
         try clear c15
         try clear c17
         try clear c19
         try clear c21
         try clear c21b0
         try clear c22
         try clear c24
         try clear c24b0
         try clear c25
         try clear c27
         try clear c27b0
         try clear c28
         try clear c30
         try clear c30b0
         try clear c31
         try clear c33
         try clear c34
         try clear c35
         try clear hcz10_0
         try clear hcz10_1
         try clear hcz16_0
         try clear hcz16_1
         try clear hcz16_2
         try clear hcz16_3
         try clear hcz16_4
         try clear hcz18_0
         try clear hcz18_1
         try clear hcz18_2
         try clear hcz18_3
         try clear hcz18_4
         try clear hcz23_0
         try clear hcz23_1
         try clear hcz23_2
         try clear hcz23_3
         try clear hcz23_4
         try clear hcz26_0
         try clear hcz26_1
         try clear hcz26_2
         try clear hcz26_3
         try clear hcz26_4
         try clear hcz29_0
         try clear hcz29_1
         try clear hcz29_2
         try clear hcz29_3
         try clear hcz29_4
         try clear hcz32_0
         try clear hcz32_1
         try clear hcz32_2
         try clear hcz32_3
         try clear hcz32_4
         try clear hcz34_0
         try clear hcz34_1
         try clear hcz34_2
         try clear hcz34_3
         try clear hcz34_4
         try clear hfz10_0
         try clear hfz10_1
         try clear hfz16_0
         try clear hfz16_1
         try clear hfz16_2
         try clear hfz16_3
         try clear hfz16_4
         try clear hfz18_0
         try clear hfz18_1
         try clear hfz18_2
         try clear hfz18_3
         try clear hfz18_4
         try clear hfz23_0
         try clear hfz23_1
         try clear hfz23_2
         try clear hfz23_3
         try clear hfz23_4
         try clear hfz26_0
         try clear hfz26_1
         try clear hfz26_2
         try clear hfz26_3
         try clear hfz26_4
         try clear hfz29_0
         try clear hfz29_1
         try clear hfz29_2
         try clear hfz29_3
         try clear hfz29_4
         try clear hfz32_0
         try clear hfz32_1
         try clear hfz32_2
         try clear hfz32_3
         try clear hfz32_4
         try clear hfz34_0
         try clear hfz34_1
         try clear hfz34_2
         try clear hfz34_3
         try clear hfz34_4
         try clear p2
         try clear p6
         obtain ⟨x8_3, rfl, HA, HK3, BK247, BK248, HB⟩ := hrel
         cases gk with
         | zero => exact absurd HA.out (by simp [plenumref36_Check.l0])
         | succ k3 =>
          have H := HA.out
          clear HA
          simp only [plenumref36_Check.l0] at H
          by_cases c36 : x8_3 < (l2.length : Int)
          ·
           rw [if_pos c36] at H
           have c36b0 : decide (x8_3 < (l2.length : Int)) = true := decide_eq_true c36
           clear c36
           by_cases c37 : 0 ≤ x8_3
           ·
            rw [if_pos c37] at H
            have c37b0 : decide (0 ≤ x8_3) = true := decide_eq_true c37
            clear c37
            replace H := Option.bind_eq_some_iff.mp H
            obtain ⟨t253, A380, H⟩ := H
            replace H : (if t253 = true then (plenumref36_Check.l0 k3 l2 (wrap64 (x8_3 + 1))) else (some 6)) = some r := H
            have A38 := Aside0.mk A380
            clear A380
            by_cases c39 : t253 = true
            ·
             subst c39
             have H1 : (plenumref36_Check.l0 k3 l2 (wrap64 (x8_3 + 1))) = some r := by rw [if_pos rfl] at H; exact H
             clear H
             have H := H1
             clear H1
             have H' := Aside0.mk H
             clear H
             have p252 : 0 ≤ (x8_3 : Int) := of_decide_eq_true (by first | (with_reducible assumption) | assumption)
             have q252 : x8_3 < (l2.length : Int) := of_decide_eq_true (by first | (with_reducible assumption) | assumption)
             obtain ⟨ad252, e252, hx252_0⟩ := Kd.at_int HR2.out x8_3 p252 q252
             cases e252
             replace hx252_0 := (HB.out.cell (World.block_lt_of_cell? w _ hx252_0)).trans hx252_0
             replace p252 := eq_true p252
             replace q252 := eq_true q252
             go_wp2_with (first | ((with_reducible refine gate_callee (f := 31) rfl ?_); refine goesL_ (some 67) rfl rfl Try.func31 (by kernel_rfl) rfl #[.int .i64 (rd l2 x8_3)] rfl (by (try simp only [List.map_toArray, List.map_cons, List.map_nil]); first | done | rfl | (simp only [List.length_drop, List.length_take]; rfl)) ?_; (with_reducible refine (plenumref35_Temp.calls (rd l2 x8_3) true _ A38.out).mono ?_); rintro e w' ⟨rfl, ⟨nd, rfl⟩⟩; refine ⟨_, rfl, ?_⟩))
             go_roundg k3
             case measure => have := HJ5.out; have := HJ19.out; have := HK3.out; omega
             case rel => exact ⟨(wrap64 (x8_3 + 1)), (by first | rfl | (simp; done) | (simp [*]; done)), H', ⟨by have := HJ5.out; have := HJ19.out; have := HK3.out; omega⟩, ⟨by (with_reducible repeat (first | refine blk_drewN ?_ _ | refine blk_drew ?_ | refine blk_alloc ?_ _)); exact BK247.out⟩, ⟨by (with_reducible repeat (first | refine blk_drewN ?_ _ | refine blk_drew ?_ | refine blk_alloc ?_ _)); exact BK248.out⟩, ⟨by repeat (first | (with_reducible first | exact HB.out | apply below_alloc | apply pw_below_drewN | apply below_drew1 | refine below_set ?_ GE247.out | refine below_set ?_ GE248.out) | exact HB.out)⟩⟩
            ·
             replace c39 := Bool.eq_false_iff.mpr c39
             subst c39
             have H1 : (some 6) = some r := by rw [if_neg (show ¬ (false = true) by decide)] at H; exact H
             clear H
             have H := H1
             clear H1
             obtain rfl := Option.some.inj H
             have p252 : 0 ≤ (x8_3 : Int) := of_decide_eq_true (by first | (with_reducible assumption) | assumption)
             have q252 : x8_3 < (l2.length : Int) := of_decide_eq_true (by first | (with_reducible assumption) | assumption)
             obtain ⟨ad252, e252, hx252_0⟩ := Kd.at_int HR2.out x8_3 p252 q252
             cases e252
             replace hx252_0 := (HB.out.cell (World.block_lt_of_cell? w _ hx252_0)).trans hx252_0
             replace p252 := eq_true p252
             replace q252 := eq_true q252
             go_wp2_with (first | ((with_reducible refine gate_callee (f := 31) rfl ?_); refine goesL_ (some 67) rfl rfl Try.func31 (by kernel_rfl) rfl #[.int .i64 (rd l2 x8_3)] rfl (by (try simp only [List.map_toArray, List.map_cons, List.map_nil]); first | done | rfl | (simp only [List.length_drop, List.length_take]; rfl)) ?_; (with_reducible refine (plenumref35_Temp.calls (rd l2 x8_3) false _ A38.out).mono ?_); rintro e w' ⟨rfl, ⟨nd, rfl⟩⟩; refine ⟨_, rfl, ?_⟩))
             go_ret
             exact ⟨by first | rfl | (simp [errW_none, errW_some] <;> rfl) | (simp [*, errW_none, errW_some] <;> rfl), by repeat (first | (with_reducible first | exact HB.out | apply below_alloc | apply pw_below_drewN | apply below_drew1 | refine below_set ?_ GE247.out | refine below_set ?_ GE248.out) | exact HB.out)⟩
           ·
            rw [if_neg c37] at H
            exact absurd H (by simp)
          ·
           rw [if_neg c36] at H
           have c36b0 : decide (x8_3 < (l2.length : Int)) = false := decide_eq_false c36
           clear c36
           obtain rfl := Option.some.inj H
           go_wp2
           go_ret
           exact ⟨by first | rfl | (simp [errW_none, errW_some] <;> rfl) | (simp [*, errW_none, errW_some] <;> rfl), by repeat (first | (with_reducible first | exact HB.out | apply below_alloc | apply pw_below_drewN | apply below_drew1 | refine below_set ?_ GE247.out | refine below_set ?_ GE248.out) | exact HB.out)⟩
 ·
  rw [if_neg c5] at H
  have c5b0 : (t249 == 0) = false := beq_eq_false_iff_ne.mpr c5
  have c5b1 : (t249 != 0) = true := bne_iff_ne.mpr c5
  obtain rfl := Option.some.inj H
  go_enter Try.func19, Try.ntmps19
  go_wp2_with (first | ((with_reducible refine gate_dst (N := 3) rfl ?_); (try (refine gate_guard (by rfl) ?_; dsimp only)); refine box_event ?hg (N := 3) ?hd (cs := #[.int .i64 a0_0, .int .i64 a0_1]) (t := 23) ?hr ?_; (case hd => rfl); (case hg => rfl); (case hr => first | (go_simp; done) | (go_simp; rfl)); intro gb247 hg w40 hbox hb; have n0_ := Aside0.mk (below_step (by repeat (first | (with_reducible first | exact HB.out | apply below_alloc | apply pw_below_drewN | apply below_drew1) | exact HB.out)) hb); have n1_ := Aside0.mk (hbox); have n2_ := Aside0.mk ((by rw [hg]; exact (below_size (by repeat (first | (with_reducible first | exact HB.out | apply below_alloc | apply pw_below_drewN | apply below_drew1) | exact HB.out))) : w.heap.size ≤ gb247)); have n3_ := Aside0.mk ((by rw [hg]; exact (below_size (by repeat (first | (with_reducible first | exact HB.out | apply below_alloc | apply pw_below_drewN | apply below_drew1) | exact HB.out))) : w.heap.size ≤ gb247)); clear HB; have HB := n0_; have BK247 := n1_; have GW247 := n2_; have GE247 := n3_; clear n0_ n1_ n2_ n3_; clear hb hbox hg) | ((with_reducible refine gate_dst (N := 4) rfl ?_); (try (refine gate_guard (by rfl) ?_; dsimp only)); refine box_event ?hg (N := 4) ?hd (cs := #[.int .i64 a1_0, .int .i64 a1_1, .int .i64 a1_2, .int .i64 a1_3, .bool a1_4]) (t := 25) ?hr ?_; (case hd => rfl); (case hg => rfl); (case hr => first | (go_simp; done) | (go_simp; rfl)); intro gb248 hg w41 hbox hb; have n0_ := Aside0.mk (blk_below (g := gb247) (o := .cells #[.int .i64 a0_0, .int .i64 a0_1] 23 (0, 0)) (by (with_reducible repeat (first | refine blk_drewN ?_ _ | refine blk_drew ?_ | refine blk_alloc ?_ _)); exact BK247.out) hb); have n1_ := Aside0.mk (below_step (by repeat (first | (with_reducible first | exact HB.out | apply below_alloc | apply pw_below_drewN | apply below_drew1 | refine below_set ?_ GE247.out) | exact HB.out)) hb); have n2_ := Aside0.mk (hbox); have n3_ := Aside0.mk ((by rw [hg]; exact (below_size (by repeat (first | (with_reducible first | exact HB.out | apply below_alloc | apply pw_below_drewN | apply below_drew1 | refine below_set ?_ GE247.out) | exact HB.out))) : w.heap.size ≤ gb248)); have n4_ := Aside0.mk ((by rw [hg]; exact (below_size (by repeat (first | (with_reducible first | exact HB.out | apply below_alloc | apply pw_below_drewN | apply below_drew1 | refine below_set ?_ GE247.out) | exact HB.out))) : w.heap.size ≤ gb248)); have n5_ := Aside0.mk ((by rw [hg]; exact Nat.ne_of_lt (blk_lt (g := gb247) (o := .cells #[.int .i64 a0_0, .int .i64 a0_1] 23 (0, 0)) (by (with_reducible repeat (first | refine blk_drewN ?_ _ | refine blk_drew ?_ | refine blk_alloc ?_ _)); exact BK247.out)) : gb247 ≠ gb248)); have n6_ := Aside0.mk ((by rw [hg]; exact Nat.ne_of_gt (blk_lt (g := gb247) (o := .cells #[.int .i64 a0_0, .int .i64 a0_1] 23 (0, 0)) (by (with_reducible repeat (first | refine blk_drewN ?_ _ | refine blk_drew ?_ | refine blk_alloc ?_ _)); exact BK247.out)) : gb248 ≠ gb247)); clear BK247; clear HB; have BK247 := n0_; have HB := n1_; have BK248 := n2_; have GW248 := n3_; have GE248 := n4_; have NB247_248 := n5_; have NB248_247 := n6_; clear n0_ n1_ n2_ n3_ n4_ n5_ n6_; clear hb hbox hg; have hnb42 := NB247_248.out; have hnc42 := NB248_247.out; have hcz43_0 : w41.cell? ⟨gb247, 0, none⟩ = some (.int .i64 a0_0) := (blk_cell BK247.out 0).trans rfl; have hcz43_1 : w41.cell? ⟨gb247, 1, none⟩ = some (.int .i64 a0_1) := (blk_cell BK247.out 1).trans rfl; have hfz43_0 := blk_frozen BK247.out 0; have hfz43_1 := blk_frozen BK247.out 1) | ((with_reducible refine gate_callee (f := 34) rfl ?_); refine goesL_ (some 10) rfl rfl Try.func34 (by kernel_rfl) rfl #[.agg #[.int .i64 a0_0, .int .i64 a0_1]] rfl (by (try simp only [List.map_toArray, List.map_cons, List.map_nil]); first | done | rfl | (simp only [List.length_drop, List.length_take]; rfl)) ?_; (with_reducible refine (plenumref35_Check.calls a0_0 a0_1 t249 _ A4.out).mono ?_); rintro e w44 ⟨rfl, hb⟩; refine ⟨_, rfl, ?_⟩; have n0_ := Aside0.mk (blk_below (g := gb247) (o := .cells #[.int .i64 a0_0, .int .i64 a0_1] 23 (0, 0)) (by (with_reducible repeat (first | refine blk_drewN ?_ _ | refine blk_drew ?_ | refine blk_alloc ?_ _)); exact BK247.out) hb); have n1_ := Aside0.mk (blk_below (g := gb248) (o := .cells #[.int .i64 a1_0, .int .i64 a1_1, .int .i64 a1_2, .int .i64 a1_3, .bool a1_4] 25 (0, 0)) (by (with_reducible repeat (first | refine blk_drewN ?_ _ | refine blk_drew ?_ | refine blk_alloc ?_ _)); exact BK248.out) hb); have n2_ := Aside0.mk (below_step (by repeat (first | (with_reducible first | exact HB.out | apply below_alloc | apply pw_below_drewN | apply below_drew1 | refine below_set ?_ GE247.out | refine below_set ?_ GE248.out) | exact HB.out)) hb); clear BK247; clear BK248; clear HB; have BK247 := n0_; have BK248 := n1_; have HB := n2_; clear n0_ n1_ n2_; (try clear hb); (try clear hb2); (try clear hk); (try clear hi)))
  go_ret
  exact ⟨by first | rfl | (simp [errW_none, errW_some] <;> rfl) | (simp [*, errW_none, errW_some] <;> rfl), by repeat (first | (with_reducible first | exact HB.out | apply below_alloc | apply pw_below_drewN | apply below_drew1 | refine below_set ?_ GE247.out | refine below_set ?_ GE248.out) | exact HB.out)⟩
end Go.Proofs.Ytpehicdglooeaaa.PT
