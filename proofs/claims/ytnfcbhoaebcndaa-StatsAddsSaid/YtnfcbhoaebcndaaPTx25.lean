-- Laid by hp.py (a program of this session's) through the kit's printer. (squeezed)
import Derived.Test.YtnfcbhoaebcndaaPTx0
namespace Go.Proofs.Ytnfcbhoaebcndaa.PT
open Go.RowKit Go.Proofs.YtnfcbhoaebcndaaW.PrintWords Go.Proofs.YtnfcbhoaebcndaaW.PrintLast Go.Proofs.YtnfcbhoaebcndaaW.PrintMore
attribute [local go_sem] max2_int min2_int max_two min_two max_three min_three max_four min_four   -- for this text's walks alone
set_option linter.unusedVariables false
set_option linter.unusedSimpArgs false
/-! ### plenumref44_Parts: function 50 -/
mutual
def plenumref44_Parts.l0 : Nat → List (S57) → Int → Int → List (S81) → Int → Option ((List (S81)))
 | 0, _, _, _, _, _ => none
 | k + 1, x0, x1, x2, x7, x8 => if x8 < (x0.length : Int) then (if x8 ≥ 0 then (if 0 ≤ x8 then (plenumref44_Parts.j1 k x0 x1 x2 x7 x8 ((rd_T57 x0 x8).f0) x2 ((rd_T57 x0 x8).f1.f0) ((rd_T57 x0 x8).f1.f1)) else (none)) else (plenumref44_Parts.j1 k x0 x1 x2 x7 x8 0 x2 0 0)) else (some x7)
def plenumref44_Parts.j1 : Nat → List (S57) → Int → Int → List (S81) → Int → Int → Int → Int → Int → Option ((List (S81)))
 | 0, _, _, _, _, _, _, _, _, _ => none
 | k + 1, x0, x1, x2, x7, x8, x9, x10, x196000, x196001 => if (wrap64 (x8 + 1)) < (x0.length : Int) then (if 0 ≤ (wrap64 (x8 + 1)) then (if (mx x9 x1) < (mn x10 ((rd_T57 x0 (wrap64 (x8 + 1))).f0)) then (if x7.length < 5864062014805 then (plenumref44_Parts.l0 k x0 x1 x2 (x7 ++ [(⟨(⟨x196000, x196001⟩ : S45), wrap64 ((mn x10 ((rd_T57 x0 (wrap64 (x8 + 1))).f0)) - (mx x9 x1))⟩ : S81)]) (wrap64 (x8 + 1))) else (none)) else (plenumref44_Parts.l0 k x0 x1 x2 x7 (wrap64 (x8 + 1)))) else (none)) else (if (mx x9 x1) < x10 then (if x7.length < 5864062014805 then (plenumref44_Parts.l0 k x0 x1 x2 (x7 ++ [(⟨(⟨x196000, x196001⟩ : S45), wrap64 (x10 - (mx x9 x1))⟩ : S81)]) (wrap64 (x8 + 1))) else (none)) else (plenumref44_Parts.l0 k x0 x1 x2 x7 (wrap64 (x8 + 1))))
end
def plenumref44_Parts.f (k : Nat) (l0 : List (S57)) (a1 : Int) (a2 : Int) : Option ((List (S81))) := plenumref44_Parts.l0 k l0 a1 a2 (([] : List (S81))) (-1)
theorem plenumref44_Parts.mono_l : ∀ k, (∀ y0 y1 y2 y3 y4, LeO (plenumref44_Parts.l0 k y0 y1 y2 y3 y4) (plenumref44_Parts.l0 (k + 1) y0 y1 y2 y3 y4)) ∧ (∀ y0 y1 y2 y3 y4 y5 y6 y7 y8, LeO (plenumref44_Parts.j1 k y0 y1 y2 y3 y4 y5 y6 y7 y8) (plenumref44_Parts.j1 (k + 1) y0 y1 y2 y3 y4 y5 y6 y7 y8))
 | 0 => ⟨fun _ _ _ _ _ r h => by simp [plenumref44_Parts.l0] at h, fun _ _ _ _ _ _ _ _ _ r h => by simp [plenumref44_Parts.j1] at h⟩
 | k + 1 => by
  obtain ⟨ih0, ih1⟩ := plenumref44_Parts.mono_l k
  refine ⟨?_, ?_⟩
  ·
   intro y0 y1 y2 y3 y4
   unfold plenumref44_Parts.l0
   repeat' first
   | (with_reducible exact ih0 _ _ _ _ _)
   | (with_reducible exact ih1 _ _ _ _ _ _ _ _ _)
   | (with_reducible exact LeO.refl _)
   | (with_reducible exact LeO.none _)
   | (with_reducible refine LeO.ite ?_ ?_)
   | (with_reducible refine LeO.bind ?_ (fun _ => ?_))
   | exact ih0 _ _ _ _ _
   | exact ih1 _ _ _ _ _ _ _ _ _
   | exact LeO.none _
   | refine LeO.ite ?_ ?_
   | refine LeO.bind ?_ (fun _ => ?_)
  ·
   intro y0 y1 y2 y3 y4 y5 y6 y7 y8
   unfold plenumref44_Parts.j1
   repeat' first
   | (with_reducible exact ih0 _ _ _ _ _)
   | (with_reducible exact ih1 _ _ _ _ _ _ _ _ _)
   | (with_reducible exact LeO.refl _)
   | (with_reducible exact LeO.none _)
   | (with_reducible refine LeO.ite ?_ ?_)
   | (with_reducible refine LeO.bind ?_ (fun _ => ?_))
   | exact ih0 _ _ _ _ _
   | exact ih1 _ _ _ _ _ _ _ _ _
   | exact LeO.none _
   | refine LeO.ite ?_ ?_
   | refine LeO.bind ?_ (fun _ => ?_)
theorem plenumref44_Parts.mono : ∀ a0 a1 a2 k, LeO (plenumref44_Parts.f k a0 a1 a2) (plenumref44_Parts.f (k + 1) a0 a1 a2) := by
 intro a0 a1 a2 k
 obtain ⟨ih0, ih1⟩ := plenumref44_Parts.mono_l k
 unfold plenumref44_Parts.f
 repeat' first
  | (with_reducible exact ih0 _ _ _ _ _)
  | (with_reducible exact ih1 _ _ _ _ _ _ _ _ _)
  | (with_reducible exact LeO.refl _)
  | (with_reducible exact LeO.none _)
  | (with_reducible refine LeO.ite ?_ ?_)
  | (with_reducible refine LeO.bind ?_ (fun _ => ?_))
  | exact ih0 _ _ _ _ _
  | exact ih1 _ _ _ _ _ _ _ _ _
  | exact LeO.none _
  | refine LeO.ite ?_ ?_
  | refine LeO.bind ?_ (fun _ => ?_)
def plenumref44_Parts.T7 : Bool × List (List Nat × List Nat) := (true, [([], []), ([], []), ([0, 1], [0, 1]), ([2], [2]), ([3], [3]), ([], []), ([], []), ([5, 6], [5, 6]), ([7], [7]), ([8], [8]), ([4, 0, 1, 2, 3, 4], [4]), ([9, 10, 0, 1, 2, 3, 4, 5, 6, 7, 8, 9, 10], [9])])
def plenumref44_Parts.B7 : List Nat := [0, 0, 3, 7, 15, 0, 0, 96, 224, 480, 31, 2047]
theorem plenumref44_Parts.tab7 : rtab .any (opsOf Try.f50 7) = plenumref44_Parts.T7 := by kernel_rfl
theorem plenumref44_Parts.bits7 : waitsOk plenumref44_Parts.T7.2 plenumref44_Parts.B7 = true := by kernel_rfl
set_option maxHeartbeats 8000000 in
set_option maxRecDepth 100000 in
theorem plenumref44_Parts.calls (k : Nat) (A0 : Option Addr) (c0 : Nat) (l0 : List (S57)) (a1 : Int) (a2 : Int) (r : List (S81)) (w : World) (hr0 : Kd.C k57 w A0 l0.length l0) (hc0 : l0.length ≤ c0) (h : plenumref44_Parts.f k l0 a1 a2 = some r) :
 Calls Try.prog 50 #[.slice A0 l0.length c0, .int .i64 a1, .int .i64 a2] w fun e w' => ∃ v0_ : Value, e = .returned (v0_) ∧ Kd.R k81 81 w' w.heap.size (fun _ => True) v0_ r ∧ Below w.heap.size w w' := by
 have hu45 := Try.underlying45
 have hu81 := Try.underlying81
 have HR0 := Aside0.mk hr0
 have HC0 := Aside0.mk hc0
 clear hr0 hc0
 have HB := Aside0.mk (Below.refl w.heap.size w)
 have H : (plenumref44_Parts.l0 k l0 a1 a2 (([] : List (S81))) (-1)) = some r := h
 clear h
 obtain ⟨y192, hy192⟩ : ∃ y_ : List (S81), y_ = (([] : List (S81))) := ⟨_, rfl⟩
 replace H : (plenumref44_Parts.l0 k l0 a1 a2 y192 (-1)) = some r := by first | (rw [hy192]; with_reducible exact H) | (have H2_ := (Option.bind_some _ _).symm.trans H; rw [hy192]; with_reducible exact H2_) | (have H2_ := (Option.bind_some _ _).symm.trans H; with_reducible exact H2_) | with_reducible exact H | (rw [hy192]; exact H) | exact H
 have Ny192 := Aside0.mk hy192
 clear hy192
 have H' := Aside0.mk H
 clear H
 go_enter Try.func50, Try.ntmps50
 go_wp2_with (first | ((with_reducible refine gate_dst (N := 12) rfl ?_); refine Kd.R_lit k81 _ 81 ?hg (N := 12) ?hd (xs := ([] : List (S81))) (inner := []) (ok := fun _ => True) (okp := fun _ => True) ?hr ?hp (fun _ hk => hk) trivial (Below.refl _ _) (Nat.le_refl _) (by simp) ?_; (case hd => rfl); (case hg => rfl); (case hr => first | (go_simp; done) | (go_simp; rfl)); (case hp => exact (Reps.none _ _)); intro v193 w4 ho5 hb hg_ hnew_; clear hg_ hnew_; (first | rw [← Ny192.out] at ho5 | (simp only [Int.reduceToNat] at ho5; rw [← Ny192.out] at ho5)); have n0_ := Aside0.mk (Kd.R_lower ho5 (below_size (by repeat (first | (with_reducible first | exact HB.out | apply below_alloc | apply pw_below_drewN | apply below_drew1) | exact HB.out)))); have n1_ := Aside0.mk (below_step (by repeat (first | (with_reducible first | exact HB.out | apply below_alloc | apply pw_below_drewN | apply below_drew1) | exact HB.out)) hb); clear HB; have HO194 := n0_; have HB := n1_; clear n0_ n1_; clear hb ho5))
 go_loopg [7, 8] k (fun kq v7 v8 w' => ∃ (x7_1 : List (S81)) (x8_1 : Int), v8 = .int .i64 x8_1 ∧ Aside0 (plenumref44_Parts.l0 kq l0 a1 a2 x7_1 x8_1 = some r) ∧ Aside0 (kq ≤ k) ∧ Aside0 (Kd.R k81 81 w' w.heap.size (fun _ => True) v7 x7_1) ∧ Aside0 (Below w.heap.size w w'))
 case atStart => exact ⟨(y192), ((-1)), (by first | rfl | (simp; done) | (simp [*]; done)), H', ⟨Nat.le_refl _⟩, ⟨by (with_reducible repeat (first | apply Kd.R_alloc | apply Kd.R_drewN | apply Kd.R_drew)); exact HO194.out⟩, ⟨by repeat (first | (with_reducible first | exact HB.out | apply below_alloc | apply pw_below_drewN | apply below_drew1) | exact HB.out)⟩⟩
 case round =>
  clear H'
  try clear p2
  try clear c5
  obtain ⟨x7_1, x8_1, rfl, HA, HK1, HO_7, HB⟩ := hrel
  cases gk with
  | zero => exact absurd HA.out (by simp [plenumref44_Parts.l0])
  | succ k1 =>
   have H := HA.out
   clear HA
   simp only [plenumref44_Parts.l0] at H
   by_cases c6 : x8_1 < (l0.length : Int)
   ·
    rw [if_pos c6] at H
    have c6b0 : decide (x8_1 < (l0.length : Int)) = true := decide_eq_true c6
    clear c6
    have HC7 := Aside0.mk H
    clear H
    go_upto_if 22 with (first | ((with_reducible refine gate_dst (N := 11) rfl ?_); refine box_event ?hg (N := 11) ?hd (cs := #[.int .i64 0, .int .i64 0]) (t := 45) ?hr ?_; (case hd => rfl); (case hg => rfl); (case hr => first | (go_simp; done) | (go_simp; rfl)); intro gb195 hg w8 hbox hb; have n0_ := Aside0.mk (Kd.R_below (by (with_reducible repeat (first | apply Kd.R_alloc | apply Kd.R_drewN | apply Kd.R_drew)); exact HO_7.out) hb); have n1_ := Aside0.mk (below_step (by repeat (first | (with_reducible first | exact HB.out | apply below_alloc | apply pw_below_drewN | apply below_drew1) | exact HB.out)) hb); have n2_ := Aside0.mk (hbox); have n3_ := Aside0.mk ((by rw [hg]; exact (below_size (by repeat (first | (with_reducible first | exact HB.out | apply below_alloc | apply pw_below_drewN | apply below_drew1) | exact HB.out))) : w.heap.size ≤ gb195)); have n4_ := Aside0.mk ((by rw [hg]; exact (below_size (by repeat (first | (with_reducible first | exact HB.out | apply below_alloc | apply pw_below_drewN | apply below_drew1) | exact HB.out))) : w.heap.size ≤ gb195)); clear HO_7; clear HB; have HO_7 := n0_; have HB := n1_; have BK195 := n2_; have GW195 := n3_; have GE195 := n4_; clear n0_ n1_ n2_ n3_ n4_; clear hb hbox hg; have hcz9_0 : w8.cell? ⟨gb195, 0, none⟩ = some (.int .i64 0) := (blk_cell BK195.out 0).trans rfl; have hcz9_1 : w8.cell? ⟨gb195, 1, none⟩ = some (.int .i64 0) := (blk_cell BK195.out 1).trans rfl; have hfz9_0 := blk_frozen BK195.out 0; have hfz9_1 := blk_frozen BK195.out 1))
    (try simp only [Act.put, List.setIfInBounds_toArray, List.set_cons_zero, List.set_cons_succ])
    go_cut [9] (fun v9 wc => ∃ (kq : Nat) (x9_6 : Int) (x196000_6 : Int) (x196001_6 : Int), v9 = .int .i64 x9_6 ∧ Aside0 (plenumref44_Parts.j1 kq l0 a1 a2 x7_1 x8_1 x9_6 a2 x196000_6 x196001_6 = some r) ∧ Aside0 (kq ≤ k1) ∧ Aside0 (Kd.R k81 81 wc w.heap.size (fun _ => True) u7 x7_1) ∧ Aside0 (wc.heap[gb195]? = some (.cells #[.int .i64 x196000_6, .int .i64 x196001_6] 45 (0, 0))) ∧ Aside0 (Below w.heap.size w wc))
    case first =>
     have H := HC7.out
     clear HC7
     by_cases c10 : x8_1 ≥ 0
     ·
      rw [if_pos c10] at H
      have c10b0 : decide (0 ≤ x8_1) = true := decide_eq_true c10
      clear c10
      (first | rw [c10b0] | (simp only [i64_w, i32_w]; rw [c10b0]) | skip)
      by_cases c11 : 0 ≤ x8_1
      ·
       rw [if_pos c11] at H
       have c11b0 : decide (0 ≤ x8_1) = true := decide_eq_true c11
       clear c11
       have H' := Aside0.mk H
       clear H
       try go_wp2
       have n0_ : Aside0 (Kd.R k81 81 ((w8.setCell ⟨gb195, 0, none⟩ (.int .i64 0)).setCell ⟨gb195, 1, none⟩ (.int .i64 0)) w.heap.size (fun _ => True) u7 x7_1) := ⟨by (with_reducible repeat (first | apply Kd.R_alloc | apply Kd.R_drewN | apply Kd.R_drew)); exact Kd.R_mono (Kd.R_far (p := ⟨gb195, 1, none⟩) (Kd.R_far (p := ⟨gb195, 0, none⟩) (Kd.R_types HO_7.out BK195.out (by decide)) (fun _ hk => hk.2) (.int .i64 0)) (fun _ hk => hk.2) (.int .i64 0)) (fun _ hk => trivial)⟩
       have n1_ : Aside0 (((w8.setCell ⟨gb195, 0, none⟩ (.int .i64 0)).setCell ⟨gb195, 1, none⟩ (.int .i64 0)).heap[gb195]? = some (.cells #[.int .i64 0, .int .i64 0] 45 (0, 0))) := ⟨by (with_reducible repeat (first | refine blk_drewN ?_ _ | refine blk_drew ?_ | refine blk_alloc ?_ _)); refine blk_put (cs := #[.int .i64 0, .int .i64 0]) ?_ 1 _ rfl; (with_reducible repeat (first | refine blk_drewN ?_ _ | refine blk_drew ?_ | refine blk_alloc ?_ _)); refine blk_put (cs := #[.int .i64 0, .int .i64 0]) ?_ 0 _ rfl; (with_reducible repeat (first | refine blk_drewN ?_ _ | refine blk_drew ?_ | refine blk_alloc ?_ _)); exact BK195.out⟩
       have n2_ : Aside0 (Below w.heap.size w ((w8.setCell ⟨gb195, 0, none⟩ (.int .i64 0)).setCell ⟨gb195, 1, none⟩ (.int .i64 0))) := ⟨by repeat (first | (with_reducible first | exact HB.out | apply below_alloc | apply pw_below_drewN | apply below_drew1 | refine below_set ?_ GE195.out) | exact HB.out)⟩
       (try clear HO_7)
       (try clear BK195)
       (try clear HB)
       generalize ((w8.setCell ⟨gb195, 0, none⟩ (.int .i64 0)).setCell ⟨gb195, 1, none⟩ (.int .i64 0)) = w12 at n0_ n1_ n2_ ⊢
       have HO_7 := n0_
       have BK195 := n1_
       have HB := n2_
       clear n0_ n1_ n2_
       have n0_ := Aside0.mk (Kd.R_drew HO_7.out)
       have n1_ := Aside0.mk (blk_drew BK195.out)
       have n2_ := Aside0.mk (below_drew1 HB.out)
       clear HO_7
       clear BK195
       clear HB
       have HO_7 := n0_
       have BK195 := n1_
       have HB := n2_
       clear n0_ n1_ n2_
       have p196 : 0 ≤ (x8_1 : Int) := of_decide_eq_true (by first | (with_reducible assumption) | assumption)
       have q196 : x8_1 < (l0.length : Int) := of_decide_eq_true (by first | (with_reducible assumption) | assumption)
       obtain ⟨ad196, e196, hx196_0, hx196_1, hx196_2⟩ := at_T57 HR0.out x8_1 p196 q196
       have hw196_2 := hx196_2
       have hw196_1 := hx196_1
       have hw196_0 := hx196_0
       cases e196
       replace hx196_0 := (HB.out.cell (World.block_lt_of_cell? w _ hx196_0)).trans hx196_0
       replace hx196_1 := (HB.out.cell (World.block_lt_of_cell? w _ hx196_1)).trans hx196_1
       replace hx196_2 := (HB.out.cell (World.block_lt_of_cell? w _ hx196_2)).trans hx196_2
       replace p196 := eq_true p196
       replace q196 := eq_true q196
       have p197 : 0 ≤ (x8_1 : Int) := of_decide_eq_true (by first | (with_reducible assumption) | assumption)
       have q197 : x8_1 < (l0.length : Int) := of_decide_eq_true (by first | (with_reducible assumption) | assumption)
       obtain ⟨ad197, e197, hx197_0, hx197_1, hx197_2⟩ := at_T57 HR0.out x8_1 p197 q197
       have hw197_2 := hx197_2
       have hw197_1 := hx197_1
       have hw197_0 := hx197_0
       obtain rfl : ad196 = ad197 := (by injection e197)
       replace hx197_0 := (HB.out.cell (World.block_lt_of_cell? w _ hx197_0)).trans hx197_0
       replace hx197_1 := (HB.out.cell (World.block_lt_of_cell? w _ hx197_1)).trans hx197_1
       replace hx197_2 := (HB.out.cell (World.block_lt_of_cell? w _ hx197_2)).trans hx197_2
       replace p197 := eq_true p197
       replace q197 := eq_true q197
       refine start_ (n := 12) (S := fun w' => w'.cell? (ad196.add ((x8_1).toNat * 3)) = some (.int .i64 ((rd_T57 l0 x8_1).f0)) ∧ w'.cell? ⟨(ad196.add ((x8_1).toNat * 3)).block, (ad196.add ((x8_1).toNat * 3)).off + 1, none⟩ = some (.int .i64 ((rd_T57 l0 x8_1).f1.f0)) ∧ w'.cell? ⟨(ad196.add ((x8_1).toNat * 3)).block, (ad196.add ((x8_1).toNat * 3)).off + 2, none⟩ = some (.int .i64 ((rd_T57 l0 x8_1).f1.f1)) ∧ w'.cell? (ad196.add ((x8_1).toNat * 3)) = some (.int .i64 ((rd_T57 l0 x8_1).f0)) ∧ w'.cell? ⟨(ad196.add ((x8_1).toNat * 3)).block, (ad196.add ((x8_1).toNat * 3)).off + 1, none⟩ = some (.int .i64 ((rd_T57 l0 x8_1).f1.f0)) ∧ w'.cell? ⟨(ad196.add ((x8_1).toNat * 3)).block, (ad196.add ((x8_1).toNat * 3)).off + 2, none⟩ = some (.int .i64 ((rd_T57 l0 x8_1).f1.f1))) (ds := []) #[false, false, false, false, false, false, false, false, false, false, false, false] (by kernel_rfl) rfl rfl ⟨((HB.out.cell (World.block_lt_of_cell? w _ hw196_0)).trans hw196_0), ((HB.out.cell (World.block_lt_of_cell? w _ hw196_1)).trans hw196_1), ((HB.out.cell (World.block_lt_of_cell? w _ hw196_2)).trans hw196_2), ((HB.out.cell (World.block_lt_of_cell? w _ hw197_0)).trans hw197_0), ((HB.out.cell (World.block_lt_of_cell? w _ hw197_1)).trans hw197_1), ((HB.out.cell (World.block_lt_of_cell? w _ hw197_2)).trans hw197_2)⟩ (fun hHeld => ?_); refine with_tabW plenumref44_Parts.tab7 plenumref44_Parts.bits7 (fun HT_ HW_ => ?_)
       generalize w12.drew = w13 at HO_7 BK195 HB hx196_0 hx196_1 hx196_2 hx197_0 hx197_1 hx197_2 hHeld ⊢
       refine pure_ (i := 0) (N := some 23) (v := ?_) (a' := ?_) #[true, false, false, false, false, false, false, false, false, false, false, false] rfl rfl (any_of HT_.out (by kernel_rfl)) (fun _ _ _ h => h) (Or.inl ⟨by rfl, ?_⟩) ?_ ?_
       rotate_left
       ·
        intro w'
        go_simp
        with_reducible rfl
       rotate_left
       ·
        simp only [Act.put, List.setIfInBounds_toArray, List.set_cons_zero, List.set_cons_succ, i64_w, i32_w]
        rfl
       refine pure_ (i := 1) (N := some 24) (v := ?_) (a' := ?_) #[true, true, false, false, false, false, false, false, false, false, false, false] rfl rfl (any_of HT_.out (by kernel_rfl)) (fun _ _ _ h => h) (Or.inl ⟨by rfl, ?_⟩) ?_ ?_
       rotate_left
       ·
        intro w'
        go_simp
        with_reducible rfl
       rotate_left
       ·
        simp only [Act.put, List.setIfInBounds_toArray, List.set_cons_zero, List.set_cons_succ, i64_w, i32_w]
        rfl
       refine pure_ (i := 2) (N := some 25) (v := ?_) (a' := ?_) #[true, true, true, false, false, false, false, false, false, false, false, false] rfl rfl (any_of HT_.out (by kernel_rfl)) (fun _ _ _ h => h) (Or.inl ⟨by rfl, ?_⟩) ?_ ?_
       rotate_left
       ·
        intro w'
        go_simp
        with_reducible rfl
       rotate_left
       ·
        simp only [Act.put, List.setIfInBounds_toArray, List.set_cons_zero, List.set_cons_succ, i64_w, i32_w]
        rfl
       refine pure_ (i := 3) (N := some 26) (v := ?_) (a' := ?_) #[true, true, true, true, false, false, false, false, false, false, false, false] rfl rfl (any_of HT_.out (by kernel_rfl)) (fun _ _ _ h => h) (Or.inl ⟨by rfl, ?_⟩) ?_ ?_
       rotate_left
       ·
        intro w'
        go_simp
        with_reducible rfl
       rotate_left
       ·
        simp only [Act.put, List.setIfInBounds_toArray, List.set_cons_zero, List.set_cons_succ, i64_w, i32_w]
        rfl
       refine pure_ (i := 5) (N := some 28) (v := ?_) (a' := ?_) #[true, true, true, true, false, true, false, false, false, false, false, false] rfl rfl (any_of HT_.out (by kernel_rfl)) (fun _ _ _ h => h) (Or.inl ⟨by rfl, ?_⟩) ?_ ?_
       rotate_left
       ·
        intro w'
        go_simp
        with_reducible rfl
       rotate_left
       ·
        simp only [Act.put, List.setIfInBounds_toArray, List.set_cons_zero, List.set_cons_succ, i64_w, i32_w]
        rfl
       refine pure_ (i := 6) (N := some 29) (v := ?_) (a' := ?_) #[true, true, true, true, false, true, true, false, false, false, false, false] rfl rfl (any_of HT_.out (by kernel_rfl)) (fun _ _ _ h => h) (Or.inl ⟨by rfl, ?_⟩) ?_ ?_
       rotate_left
       ·
        intro w'
        go_simp
        with_reducible rfl
       rotate_left
       ·
        simp only [Act.put, List.setIfInBounds_toArray, List.set_cons_zero, List.set_cons_succ, i64_w, i32_w]
        rfl
       refine pure_ (i := 7) (N := some 30) (v := ?_) (a' := ?_) #[true, true, true, true, false, true, true, true, false, false, false, false] rfl rfl (any_of HT_.out (by kernel_rfl)) (fun _ _ _ h => h) (Or.inl ⟨by rfl, ?_⟩) ?_ ?_
       rotate_left
       ·
        intro w'
        go_simp
        with_reducible rfl
       rotate_left
       ·
        simp only [Act.put, List.setIfInBounds_toArray, List.set_cons_zero, List.set_cons_succ, i64_w, i32_w]
        rfl
       refine pure_ (i := 8) (N := some 31) (v := ?_) (a' := ?_) #[true, true, true, true, false, true, true, true, true, false, false, false] rfl rfl (any_of HT_.out (by kernel_rfl)) (fun _ _ _ h => h) (Or.inl ⟨by rfl, ?_⟩) ?_ ?_
       rotate_left
       ·
        intro w'
        go_simp
        with_reducible rfl
       rotate_left
       ·
        simp only [Act.put, List.setIfInBounds_toArray, List.set_cons_zero, List.set_cons_succ, i64_w, i32_w]
        rfl
       refine take_ (i := 4) (N := some 27) (v := ?_) (a' := ?_) #[true, true, true, true, true, true, true, true, true, false, false, false] rfl rfl (take_ofW HT_.out HW_.out (by kernel_rfl)) (fun _ _ _ h => h) (Or.inl ⟨by rfl, ?_⟩) hHeld ?_ ?_
       rotate_left
       ·
        rintro w' ⟨s0, s1, s2, s3, s4, s5⟩
        go_simp
        with_reducible rfl
       rotate_left
       ·
        simp only [Act.put, List.setIfInBounds_toArray, List.set_cons_zero, List.set_cons_succ, i64_w, i32_w]
        rfl
       refine pure_ (i := 10) (N := some 9) (v := ?_) (a' := ?_) #[true, true, true, true, true, true, true, true, true, false, true, false] rfl rfl (any_of HT_.out (by kernel_rfl)) (fun _ _ _ h => h) (Or.inl ⟨by rfl, ?_⟩) ?_ ?_
       rotate_left
       ·
        intro w'
        go_simp
        with_reducible rfl
       rotate_left
       ·
        simp only [Act.put, List.setIfInBounds_toArray, List.set_cons_zero, List.set_cons_succ, i64_w, i32_w]
        rfl
       refine take_ (i := 9) (N := some 32) (v := ?_) (a' := ?_) #[true, true, true, true, true, true, true, true, true, true, true, false] rfl rfl (take_ofW HT_.out HW_.out (by kernel_rfl)) (fun _ _ _ h => h) (Or.inl ⟨by rfl, ?_⟩) hHeld ?_ ?_
       rotate_left
       ·
        rintro w' ⟨s0, s1, s2, s3, s4, s5⟩
        go_simp
        with_reducible rfl
       rotate_left
       ·
        simp only [Act.put, List.setIfInBounds_toArray, List.set_cons_zero, List.set_cons_succ, i64_w, i32_w]
        rfl
       refine one_ (i := 11) (N := none) #[true, true, true, true, true, true, true, true, true, true, true, true] rfl rfl (one_of HT_.out (by kernel_rfl)) (by decide) (fun K hK => ?_)
       have hs14 : w13.cell? ⟨gb195, 0, none⟩ = some (.int .i64 0) := (blk_cell BK195.out 0).trans rfl
       have hfs14 := blk_frozen BK195.out 0
       have hs15 : w13.cell? ⟨gb195, 1, none⟩ = some (.int .i64 0) := (blk_cell BK195.out 1).trans rfl
       have hfs15 := blk_frozen BK195.out 1
       refine skip_ (w1 := ?_) (by rfl) rfl ?_ ?_
       rotate_left
       ·
        go_simp
        rfl
       refine hK.out _ _ ⟨((cell_far (p := ⟨gb195, _, none⟩) (by first | exact Nat.ne_of_lt (Nat.lt_of_lt_of_le (by have := World.block_lt_of_cell? _ _ hw196_0; first | rwa [add_block] at this | exact this) GW195.out) | (rw [add_block]; exact Nat.ne_of_lt (Nat.lt_of_lt_of_le (by have := World.block_lt_of_cell? _ _ hw196_0; first | rwa [add_block] at this | exact this) GW195.out)) | (show (Addr.add _ _).block ≠ _; rw [add_block]; exact Nat.ne_of_lt (Nat.lt_of_lt_of_le (by have := World.block_lt_of_cell? _ _ hw196_0; first | rwa [add_block] at this | exact this) GW195.out)) | (dsimp only; exact Nat.ne_of_lt (Nat.lt_of_lt_of_le (by have := World.block_lt_of_cell? _ _ hw196_0; first | rwa [add_block] at this | exact this) GW195.out))) _).trans (((cell_far (p := ⟨gb195, _, none⟩) (by first | exact Nat.ne_of_lt (Nat.lt_of_lt_of_le (by have := World.block_lt_of_cell? _ _ hw196_0; first | rwa [add_block] at this | exact this) GW195.out) | (rw [add_block]; exact Nat.ne_of_lt (Nat.lt_of_lt_of_le (by have := World.block_lt_of_cell? _ _ hw196_0; first | rwa [add_block] at this | exact this) GW195.out)) | (show (Addr.add _ _).block ≠ _; rw [add_block]; exact Nat.ne_of_lt (Nat.lt_of_lt_of_le (by have := World.block_lt_of_cell? _ _ hw196_0; first | rwa [add_block] at this | exact this) GW195.out)) | (dsimp only; exact Nat.ne_of_lt (Nat.lt_of_lt_of_le (by have := World.block_lt_of_cell? _ _ hw196_0; first | rwa [add_block] at this | exact this) GW195.out))) _).trans (hHeld.1)))), ((cell_far (p := ⟨gb195, _, none⟩) (by first | exact Nat.ne_of_lt (Nat.lt_of_lt_of_le (by have := World.block_lt_of_cell? _ _ hw196_1; first | rwa [add_block] at this | exact this) GW195.out) | (rw [add_block]; exact Nat.ne_of_lt (Nat.lt_of_lt_of_le (by have := World.block_lt_of_cell? _ _ hw196_1; first | rwa [add_block] at this | exact this) GW195.out)) | (show (Addr.add _ _).block ≠ _; rw [add_block]; exact Nat.ne_of_lt (Nat.lt_of_lt_of_le (by have := World.block_lt_of_cell? _ _ hw196_1; first | rwa [add_block] at this | exact this) GW195.out)) | (dsimp only; exact Nat.ne_of_lt (Nat.lt_of_lt_of_le (by have := World.block_lt_of_cell? _ _ hw196_1; first | rwa [add_block] at this | exact this) GW195.out))) _).trans (((cell_far (p := ⟨gb195, _, none⟩) (by first | exact Nat.ne_of_lt (Nat.lt_of_lt_of_le (by have := World.block_lt_of_cell? _ _ hw196_1; first | rwa [add_block] at this | exact this) GW195.out) | (rw [add_block]; exact Nat.ne_of_lt (Nat.lt_of_lt_of_le (by have := World.block_lt_of_cell? _ _ hw196_1; first | rwa [add_block] at this | exact this) GW195.out)) | (show (Addr.add _ _).block ≠ _; rw [add_block]; exact Nat.ne_of_lt (Nat.lt_of_lt_of_le (by have := World.block_lt_of_cell? _ _ hw196_1; first | rwa [add_block] at this | exact this) GW195.out)) | (dsimp only; exact Nat.ne_of_lt (Nat.lt_of_lt_of_le (by have := World.block_lt_of_cell? _ _ hw196_1; first | rwa [add_block] at this | exact this) GW195.out))) _).trans (hHeld.2.1)))), ((cell_far (p := ⟨gb195, _, none⟩) (by first | exact Nat.ne_of_lt (Nat.lt_of_lt_of_le (by have := World.block_lt_of_cell? _ _ hw196_2; first | rwa [add_block] at this | exact this) GW195.out) | (rw [add_block]; exact Nat.ne_of_lt (Nat.lt_of_lt_of_le (by have := World.block_lt_of_cell? _ _ hw196_2; first | rwa [add_block] at this | exact this) GW195.out)) | (show (Addr.add _ _).block ≠ _; rw [add_block]; exact Nat.ne_of_lt (Nat.lt_of_lt_of_le (by have := World.block_lt_of_cell? _ _ hw196_2; first | rwa [add_block] at this | exact this) GW195.out)) | (dsimp only; exact Nat.ne_of_lt (Nat.lt_of_lt_of_le (by have := World.block_lt_of_cell? _ _ hw196_2; first | rwa [add_block] at this | exact this) GW195.out))) _).trans (((cell_far (p := ⟨gb195, _, none⟩) (by first | exact Nat.ne_of_lt (Nat.lt_of_lt_of_le (by have := World.block_lt_of_cell? _ _ hw196_2; first | rwa [add_block] at this | exact this) GW195.out) | (rw [add_block]; exact Nat.ne_of_lt (Nat.lt_of_lt_of_le (by have := World.block_lt_of_cell? _ _ hw196_2; first | rwa [add_block] at this | exact this) GW195.out)) | (show (Addr.add _ _).block ≠ _; rw [add_block]; exact Nat.ne_of_lt (Nat.lt_of_lt_of_le (by have := World.block_lt_of_cell? _ _ hw196_2; first | rwa [add_block] at this | exact this) GW195.out)) | (dsimp only; exact Nat.ne_of_lt (Nat.lt_of_lt_of_le (by have := World.block_lt_of_cell? _ _ hw196_2; first | rwa [add_block] at this | exact this) GW195.out))) _).trans (hHeld.2.2.1)))), ((cell_far (p := ⟨gb195, _, none⟩) (by first | exact Nat.ne_of_lt (Nat.lt_of_lt_of_le (by have := World.block_lt_of_cell? _ _ hw197_0; first | rwa [add_block] at this | exact this) GW195.out) | (rw [add_block]; exact Nat.ne_of_lt (Nat.lt_of_lt_of_le (by have := World.block_lt_of_cell? _ _ hw197_0; first | rwa [add_block] at this | exact this) GW195.out)) | (show (Addr.add _ _).block ≠ _; rw [add_block]; exact Nat.ne_of_lt (Nat.lt_of_lt_of_le (by have := World.block_lt_of_cell? _ _ hw197_0; first | rwa [add_block] at this | exact this) GW195.out)) | (dsimp only; exact Nat.ne_of_lt (Nat.lt_of_lt_of_le (by have := World.block_lt_of_cell? _ _ hw197_0; first | rwa [add_block] at this | exact this) GW195.out))) _).trans (((cell_far (p := ⟨gb195, _, none⟩) (by first | exact Nat.ne_of_lt (Nat.lt_of_lt_of_le (by have := World.block_lt_of_cell? _ _ hw197_0; first | rwa [add_block] at this | exact this) GW195.out) | (rw [add_block]; exact Nat.ne_of_lt (Nat.lt_of_lt_of_le (by have := World.block_lt_of_cell? _ _ hw197_0; first | rwa [add_block] at this | exact this) GW195.out)) | (show (Addr.add _ _).block ≠ _; rw [add_block]; exact Nat.ne_of_lt (Nat.lt_of_lt_of_le (by have := World.block_lt_of_cell? _ _ hw197_0; first | rwa [add_block] at this | exact this) GW195.out)) | (dsimp only; exact Nat.ne_of_lt (Nat.lt_of_lt_of_le (by have := World.block_lt_of_cell? _ _ hw197_0; first | rwa [add_block] at this | exact this) GW195.out))) _).trans (hHeld.2.2.2.1)))), ((cell_far (p := ⟨gb195, _, none⟩) (by first | exact Nat.ne_of_lt (Nat.lt_of_lt_of_le (by have := World.block_lt_of_cell? _ _ hw197_1; first | rwa [add_block] at this | exact this) GW195.out) | (rw [add_block]; exact Nat.ne_of_lt (Nat.lt_of_lt_of_le (by have := World.block_lt_of_cell? _ _ hw197_1; first | rwa [add_block] at this | exact this) GW195.out)) | (show (Addr.add _ _).block ≠ _; rw [add_block]; exact Nat.ne_of_lt (Nat.lt_of_lt_of_le (by have := World.block_lt_of_cell? _ _ hw197_1; first | rwa [add_block] at this | exact this) GW195.out)) | (dsimp only; exact Nat.ne_of_lt (Nat.lt_of_lt_of_le (by have := World.block_lt_of_cell? _ _ hw197_1; first | rwa [add_block] at this | exact this) GW195.out))) _).trans (((cell_far (p := ⟨gb195, _, none⟩) (by first | exact Nat.ne_of_lt (Nat.lt_of_lt_of_le (by have := World.block_lt_of_cell? _ _ hw197_1; first | rwa [add_block] at this | exact this) GW195.out) | (rw [add_block]; exact Nat.ne_of_lt (Nat.lt_of_lt_of_le (by have := World.block_lt_of_cell? _ _ hw197_1; first | rwa [add_block] at this | exact this) GW195.out)) | (show (Addr.add _ _).block ≠ _; rw [add_block]; exact Nat.ne_of_lt (Nat.lt_of_lt_of_le (by have := World.block_lt_of_cell? _ _ hw197_1; first | rwa [add_block] at this | exact this) GW195.out)) | (dsimp only; exact Nat.ne_of_lt (Nat.lt_of_lt_of_le (by have := World.block_lt_of_cell? _ _ hw197_1; first | rwa [add_block] at this | exact this) GW195.out))) _).trans (hHeld.2.2.2.2.1)))), ((cell_far (p := ⟨gb195, _, none⟩) (by first | exact Nat.ne_of_lt (Nat.lt_of_lt_of_le (by have := World.block_lt_of_cell? _ _ hw197_2; first | rwa [add_block] at this | exact this) GW195.out) | (rw [add_block]; exact Nat.ne_of_lt (Nat.lt_of_lt_of_le (by have := World.block_lt_of_cell? _ _ hw197_2; first | rwa [add_block] at this | exact this) GW195.out)) | (show (Addr.add _ _).block ≠ _; rw [add_block]; exact Nat.ne_of_lt (Nat.lt_of_lt_of_le (by have := World.block_lt_of_cell? _ _ hw197_2; first | rwa [add_block] at this | exact this) GW195.out)) | (dsimp only; exact Nat.ne_of_lt (Nat.lt_of_lt_of_le (by have := World.block_lt_of_cell? _ _ hw197_2; first | rwa [add_block] at this | exact this) GW195.out))) _).trans (((cell_far (p := ⟨gb195, _, none⟩) (by first | exact Nat.ne_of_lt (Nat.lt_of_lt_of_le (by have := World.block_lt_of_cell? _ _ hw197_2; first | rwa [add_block] at this | exact this) GW195.out) | (rw [add_block]; exact Nat.ne_of_lt (Nat.lt_of_lt_of_le (by have := World.block_lt_of_cell? _ _ hw197_2; first | rwa [add_block] at this | exact this) GW195.out)) | (show (Addr.add _ _).block ≠ _; rw [add_block]; exact Nat.ne_of_lt (Nat.lt_of_lt_of_le (by have := World.block_lt_of_cell? _ _ hw197_2; first | rwa [add_block] at this | exact this) GW195.out)) | (dsimp only; exact Nat.ne_of_lt (Nat.lt_of_lt_of_le (by have := World.block_lt_of_cell? _ _ hw197_2; first | rwa [add_block] at this | exact this) GW195.out))) _).trans (hHeld.2.2.2.2.2))))⟩ (fun hHeld => ?_)
       clear hK K
       refine done_ (done_of HT_.out (by kernel_rfl)) ?_
       try go_wp2
       go_meet
       case rel => exact ⟨_, ((rd_T57 l0 x8_1).f0), ((rd_T57 l0 x8_1).f1.f0), ((rd_T57 l0 x8_1).f1.f1), (by first | rfl | (simp; done) | (simp [*]; done)), H', ⟨by have := HK1.out; first | omega | exact Nat.le_refl _⟩, ⟨by (with_reducible repeat (first | apply Kd.R_alloc | apply Kd.R_drewN | apply Kd.R_drew)); exact Kd.R_mono (Kd.R_far (p := ⟨gb195, 1, none⟩) (Kd.R_far (p := ⟨gb195, 0, none⟩) (Kd.R_types HO_7.out BK195.out (by decide)) (fun _ hk => hk.2) (.int .i64 ((rd_T57 l0 x8_1).f1.f0))) (fun _ hk => hk.2) (.int .i64 ((rd_T57 l0 x8_1).f1.f1))) (fun _ hk => trivial)⟩, ⟨by (with_reducible repeat (first | refine blk_drewN ?_ _ | refine blk_drew ?_ | refine blk_alloc ?_ _)); refine blk_put (cs := #[.int .i64 ((rd_T57 l0 x8_1).f1.f0), .int .i64 0]) ?_ 1 _ rfl; (with_reducible repeat (first | refine blk_drewN ?_ _ | refine blk_drew ?_ | refine blk_alloc ?_ _)); refine blk_put (cs := #[.int .i64 0, .int .i64 0]) ?_ 0 _ rfl; (with_reducible repeat (first | refine blk_drewN ?_ _ | refine blk_drew ?_ | refine blk_alloc ?_ _)); exact BK195.out⟩, ⟨by repeat (first | (with_reducible first | exact HB.out | apply below_alloc | apply pw_below_drewN | apply below_drew1 | refine below_set ?_ GE195.out) | exact HB.out)⟩⟩
      ·
       rw [if_neg c11] at H
       exact absurd H (by simp)
     ·
      rw [if_neg c10] at H
      have c10b0 : decide (0 ≤ x8_1) = false := decide_eq_false c10
      clear c10
      (first | rw [c10b0] | (simp only [i64_w, i32_w]; rw [c10b0]) | skip)
      have H' := Aside0.mk H
      clear H
      go_wp2
      go_meet
      case rel => exact ⟨_, (0), (0), (0), (by first | rfl | (simp; done) | (simp [*]; done)), H', ⟨by have := HK1.out; first | omega | exact Nat.le_refl _⟩, ⟨by (with_reducible repeat (first | apply Kd.R_alloc | apply Kd.R_drewN | apply Kd.R_drew)); exact Kd.R_mono (Kd.R_far (p := ⟨gb195, 1, none⟩) (Kd.R_far (p := ⟨gb195, 0, none⟩) (Kd.R_types HO_7.out BK195.out (by decide)) (fun _ hk => hk.2) (.int .i64 0)) (fun _ hk => hk.2) (.int .i64 0)) (fun _ hk => trivial)⟩, ⟨by (with_reducible repeat (first | refine blk_drewN ?_ _ | refine blk_drew ?_ | refine blk_alloc ?_ _)); refine blk_put (cs := #[.int .i64 0, .int .i64 0]) ?_ 1 _ rfl; (with_reducible repeat (first | refine blk_drewN ?_ _ | refine blk_drew ?_ | refine blk_alloc ?_ _)); refine blk_put (cs := #[.int .i64 0, .int .i64 0]) ?_ 0 _ rfl; (with_reducible repeat (first | refine blk_drewN ?_ _ | refine blk_drew ?_ | refine blk_alloc ?_ _)); exact BK195.out⟩, ⟨by repeat (first | (with_reducible first | exact HB.out | apply below_alloc | apply pw_below_drewN | apply below_drew1 | refine below_set ?_ GE195.out) | exact HB.out)⟩⟩
    case rest =>
     clear HC7
     try clear c1
     try clear p1
     try clear q1
     try clear hx1
     try clear p2
     try clear c5
     try clear c6
     try clear c6b0
     try clear c10
     try clear c10b0
     try clear c11
     try clear c11b0
     try clear hcz9_0
     try clear hcz9_1
     try clear hfz9_0
     try clear hfz9_1
     try clear hx196_0
     try clear hx196_1
     try clear hx196_2
     try clear hx197_0
     try clear hx197_1
     try clear hx197_2
     try clear p196
     try clear p197
     try clear p2
     try clear q196
     try clear q197
     obtain ⟨kq, x9_6, x196000_6, x196001_6, rfl, HA, HJ6, HO_7, BK195, HB⟩ := hcut
     cases kq with
     | zero => exact absurd HA.out (by simp [plenumref44_Parts.j1])
     | succ kj6 =>
      have H := HA.out
      clear HA
      simp only [plenumref44_Parts.j1] at H
      by_cases c16 : (wrap64 (x8_1 + 1)) < (l0.length : Int)
      ·
       rw [if_pos c16] at H
       have c16b0 : decide ((wrap64 (x8_1 + 1)) < (l0.length : Int)) = true := decide_eq_true c16
       clear c16
       obtain ⟨ji17, hji17⟩ : ∃ j_ : Int, (wrap64 (x8_1 + 1)) = j_ := ⟨_, rfl⟩
       replace H : (if 0 ≤ (ji17) then (if (mx x9_6 a1) < (mn a2 ((rd_T57 l0 (ji17)).f0)) then (if x7_1.length < 5864062014805 then (plenumref44_Parts.l0 kj6 l0 a1 a2 (x7_1 ++ [(⟨(⟨x196000_6, x196001_6⟩ : S45), wrap64 ((mn a2 ((rd_T57 l0 (ji17)).f0)) - (mx x9_6 a1))⟩ : S81)]) ji17) else (none)) else (plenumref44_Parts.l0 kj6 l0 a1 a2 x7_1 ji17)) else (none)) = some r := by first | (rw [hji17] at H; exact H) | (simp only [hji17] at H ⊢; exact H)
       (try rw [hji17] at c16b0)
       have hji17w : (IntKind.i64.wrap (x8_1 + 1)) = ji17 := (i64_w _).trans hji17
       by_cases c18 : 0 ≤ (ji17)
       ·
        rw [if_pos c18] at H
        have c18b0 : decide (0 ≤ (ji17)) = true := decide_eq_true c18
        clear c18
        obtain ⟨ji19, hji19⟩ : ∃ j_ : Int, (mn a2 ((rd_T57 l0 (ji17)).f0)) = j_ := ⟨_, rfl⟩
        replace H : (if (mx x9_6 a1) < (ji19) then (if x7_1.length < 5864062014805 then (plenumref44_Parts.l0 kj6 l0 a1 a2 (x7_1 ++ [(⟨(⟨x196000_6, x196001_6⟩ : S45), wrap64 ((ji19) - (mx x9_6 a1))⟩ : S81)]) ji17) else (none)) else (plenumref44_Parts.l0 kj6 l0 a1 a2 x7_1 ji17)) = some r := by first | (rw [hji19] at H; exact H) | (simp only [hji19] at H ⊢; exact H)
        have hji19_ : (if ((rd_T57 l0 (ji17)).f0) < a2 then ((rd_T57 l0 (ji17)).f0) else a2) = ji19 := hji19
        obtain ⟨ji20, hji20⟩ : ∃ j_ : Int, (mx x9_6 a1) = j_ := ⟨_, rfl⟩
        replace H : (if (ji20) < (ji19) then (if x7_1.length < 5864062014805 then (plenumref44_Parts.l0 kj6 l0 a1 a2 (x7_1 ++ [(⟨(⟨x196000_6, x196001_6⟩ : S45), wrap64 ((ji19) - (ji20))⟩ : S81)]) ji17) else (none)) else (plenumref44_Parts.l0 kj6 l0 a1 a2 x7_1 ji17)) = some r := by first | (rw [hji20] at H; exact H) | (simp only [hji20] at H ⊢; exact H)
        have hji20_ : (if x9_6 < a1 then a1 else x9_6) = ji20 := hji20
        by_cases c21 : (ji20) < (ji19)
        ·
         rw [if_pos c21] at H
         have c21b0 : decide ((ji20) < (ji19)) = true := decide_eq_true c21
         clear c21
         by_cases c22 : x7_1.length < 5864062014805
         ·
          rw [if_pos c22] at H
          have LMc22 := Aside0.mk c22
          clear c22
          obtain ⟨y199, hy199⟩ : ∃ y_ : List (S81), y_ = (x7_1 ++ [(⟨(⟨x196000_6, x196001_6⟩ : S45), wrap64 ((ji19) - (ji20))⟩ : S81)]) := ⟨_, rfl⟩
          replace H : (plenumref44_Parts.l0 kj6 l0 a1 a2 y199 ji17) = some r := by first | (rw [hy199]; with_reducible exact H) | (have H2_ := (Option.bind_some _ _).symm.trans H; rw [hy199]; with_reducible exact H2_) | (have H2_ := (Option.bind_some _ _).symm.trans H; with_reducible exact H2_) | with_reducible exact H | (rw [hy199]; exact H) | exact H
          have Ny199 := Aside0.mk hy199
          clear hy199
          have H' := Aside0.mk H
          clear H
          have p198 : 0 ≤ ((ji17) : Int) := of_decide_eq_true (by first | (with_reducible assumption) | assumption)
          have q198 : (ji17) < (l0.length : Int) := of_decide_eq_true (by first | (with_reducible assumption) | assumption)
          obtain ⟨ad198, e198, hx198_0, hx198_1, hx198_2⟩ := at_T57 HR0.out (ji17) p198 q198
          cases e198
          replace hx198_0 := (HB.out.cell (World.block_lt_of_cell? w _ hx198_0)).trans hx198_0
          replace hx198_1 := (HB.out.cell (World.block_lt_of_cell? w _ hx198_1)).trans hx198_1
          replace hx198_2 := (HB.out.cell (World.block_lt_of_cell? w _ hx198_2)).trans hx198_2
          replace p198 := eq_true p198
          replace q198 := eq_true q198
          have hcz23_0 : wc.cell? ⟨gb195, 0, none⟩ = some (.int .i64 x196000_6) := (blk_cell BK195.out 0).trans rfl
          have hcz23_1 : wc.cell? ⟨gb195, 1, none⟩ = some (.int .i64 x196001_6) := (blk_cell BK195.out 1).trans rfl
          have hfz23_0 := blk_frozen BK195.out 0
          have hfz23_1 := blk_frozen BK195.out 1
          go_wp2_with (first | ((with_reducible refine gate_builtin (b := .append) (xs := #[.tmp 52, .tmp 58]) rfl ?_); at_builtin; refine Kd.R_append k81 (w0 := w) w.heap.size rfl (.tmp 52) (.tmp 58) 78 81 (.agg #[(.int .i64 0), (.int .i64 0), (.int .i64 0)]) 24 rfl Try.underlying78 info81 rfl (by decide) (by omega) u7 x7_1 (⟨(⟨x196000_6, x196001_6⟩ : S45), wrap64 ((ji19) - (ji20))⟩ : S81) [.int .i64 x196000_6, .int .i64 x196001_6, .int .i64 (wrap64 ((ji19) - (ji20)))] (fun _ => True) (fun _ => False) rfl rfl ?aP (fun _ hk => hk.elim) ?aF ?aO ?aB ?aS ?aL ?_; (case aP => exact k81_mkM _ _ _ (⟨(⟨x196000_6, x196001_6⟩ : S45), wrap64 ((ji19) - (ji20))⟩ : S81)); (case aB => exact (by repeat (first | (with_reducible first | exact HB.out | apply below_alloc | apply pw_below_drewN | apply below_drew1 | refine below_set ?_ GE195.out) | exact HB.out))); (case aF => exact (fun _ _ => trivial)); (case aO => exact (by (with_reducible repeat (first | apply Kd.R_alloc | apply Kd.R_drewN | apply Kd.R_drew)); exact HO_7.out)); (case aS => exact (below_size (by repeat (first | (with_reducible first | exact HB.out | apply below_alloc | apply pw_below_drewN | apply below_drew1 | refine below_set ?_ GE195.out) | exact HB.out)))); (case aL => have := LMc22.out; omega); intro v200 w24 ho hb hg hat; rw [← Ny199.out] at ho; have n0_ := Aside0.mk (blk_grown (g := gb195) (o := .cells #[.int .i64 x196000_6, .int .i64 x196001_6] 45 (0, 0)) (by (with_reducible repeat (first | refine blk_drewN ?_ _ | refine blk_drew ?_ | refine blk_alloc ?_ _)); exact BK195.out) hg (Kd.R_ne HO_7.out BK195.out (by decide))); have n1_ := Aside0.mk (hb); have n2_ := Aside0.mk (ho); clear BK195; clear HB; clear HO_7; have BK195 := n0_; have HB := n1_; have HO201 := n2_; clear n0_ n1_ n2_; clear ho hb hg hat))
          go_roundg kj6
          case measure => have := HK1.out; have := HJ6.out; omega
          case rel => exact ⟨(y199), (ji17), (by first | rfl | (simp; done) | (simp only [← hji17] <;> (first | rfl | simp)) | (simp [*]; done)), H', ⟨by have := HK1.out; have := HJ6.out; omega⟩, ⟨by (with_reducible repeat (first | apply Kd.R_alloc | apply Kd.R_drewN | apply Kd.R_drew)); exact HO201.out⟩, ⟨by repeat (first | (with_reducible first | exact HB.out | apply below_alloc | apply pw_below_drewN | apply below_drew1 | refine below_set ?_ GE195.out) | exact HB.out)⟩⟩
         ·
          rw [if_neg c22] at H
          exact absurd H (by simp)
        ·
         rw [if_neg c21] at H
         have c21b0 : decide ((ji20) < (ji19)) = false := decide_eq_false c21
         clear c21
         have H' := Aside0.mk H
         clear H
         have p198 : 0 ≤ ((ji17) : Int) := of_decide_eq_true (by first | (with_reducible assumption) | assumption)
         have q198 : (ji17) < (l0.length : Int) := of_decide_eq_true (by first | (with_reducible assumption) | assumption)
         obtain ⟨ad198, e198, hx198_0, hx198_1, hx198_2⟩ := at_T57 HR0.out (ji17) p198 q198
         cases e198
         replace hx198_0 := (HB.out.cell (World.block_lt_of_cell? w _ hx198_0)).trans hx198_0
         replace hx198_1 := (HB.out.cell (World.block_lt_of_cell? w _ hx198_1)).trans hx198_1
         replace hx198_2 := (HB.out.cell (World.block_lt_of_cell? w _ hx198_2)).trans hx198_2
         replace p198 := eq_true p198
         replace q198 := eq_true q198
         go_wp2
         go_roundg kj6
         case measure => have := HK1.out; have := HJ6.out; omega
         case rel => exact ⟨(x7_1), (ji17), (by first | rfl | (simp; done) | (simp only [← hji17] <;> (first | rfl | simp)) | (simp [*]; done)), H', ⟨by have := HK1.out; have := HJ6.out; omega⟩, ⟨by (with_reducible repeat (first | apply Kd.R_alloc | apply Kd.R_drewN | apply Kd.R_drew)); exact HO_7.out⟩, ⟨by repeat (first | (with_reducible first | exact HB.out | apply below_alloc | apply pw_below_drewN | apply below_drew1 | refine below_set ?_ GE195.out) | exact HB.out)⟩⟩
       ·
        rw [if_neg c18] at H
        exact absurd H (by simp)
      ·
       rw [if_neg c16] at H
       have c16b0 : decide ((wrap64 (x8_1 + 1)) < (l0.length : Int)) = false := decide_eq_false c16
       clear c16
       obtain ⟨ji25, hji25⟩ : ∃ j_ : Int, (mx x9_6 a1) = j_ := ⟨_, rfl⟩
       replace H : (if (ji25) < a2 then (if x7_1.length < 5864062014805 then (plenumref44_Parts.l0 kj6 l0 a1 a2 (x7_1 ++ [(⟨(⟨x196000_6, x196001_6⟩ : S45), wrap64 (a2 - (ji25))⟩ : S81)]) (wrap64 (x8_1 + 1))) else (none)) else (plenumref44_Parts.l0 kj6 l0 a1 a2 x7_1 (wrap64 (x8_1 + 1)))) = some r := by first | (rw [hji25] at H; exact H) | (simp only [hji25] at H ⊢; exact H)
       have hji25_ : (if x9_6 < a1 then a1 else x9_6) = ji25 := hji25
       by_cases c26 : (ji25) < a2
       ·
        rw [if_pos c26] at H
        have c26b0 : decide ((ji25) < a2) = true := decide_eq_true c26
        clear c26
        by_cases c27 : x7_1.length < 5864062014805
        ·
         rw [if_pos c27] at H
         have LMc27 := Aside0.mk c27
         clear c27
         obtain ⟨y202, hy202⟩ : ∃ y_ : List (S81), y_ = (x7_1 ++ [(⟨(⟨x196000_6, x196001_6⟩ : S45), wrap64 (a2 - (ji25))⟩ : S81)]) := ⟨_, rfl⟩
         replace H : (plenumref44_Parts.l0 kj6 l0 a1 a2 y202 (wrap64 (x8_1 + 1))) = some r := by first | (rw [hy202]; with_reducible exact H) | (have H2_ := (Option.bind_some _ _).symm.trans H; rw [hy202]; with_reducible exact H2_) | (have H2_ := (Option.bind_some _ _).symm.trans H; with_reducible exact H2_) | with_reducible exact H | (rw [hy202]; exact H) | exact H
         have Ny202 := Aside0.mk hy202
         clear hy202
         have H' := Aside0.mk H
         clear H
         have hcz28_0 : wc.cell? ⟨gb195, 0, none⟩ = some (.int .i64 x196000_6) := (blk_cell BK195.out 0).trans rfl
         have hcz28_1 : wc.cell? ⟨gb195, 1, none⟩ = some (.int .i64 x196001_6) := (blk_cell BK195.out 1).trans rfl
         have hfz28_0 := blk_frozen BK195.out 0
         have hfz28_1 := blk_frozen BK195.out 1
         go_wp2_with (first | ((with_reducible refine gate_builtin (b := .append) (xs := #[.tmp 52, .tmp 58]) rfl ?_); at_builtin; refine Kd.R_append k81 (w0 := w) w.heap.size rfl (.tmp 52) (.tmp 58) 78 81 (.agg #[(.int .i64 0), (.int .i64 0), (.int .i64 0)]) 24 rfl Try.underlying78 info81 rfl (by decide) (by omega) u7 x7_1 (⟨(⟨x196000_6, x196001_6⟩ : S45), wrap64 (a2 - (ji25))⟩ : S81) [.int .i64 x196000_6, .int .i64 x196001_6, .int .i64 (wrap64 (a2 - (ji25)))] (fun _ => True) (fun _ => False) rfl rfl ?aP (fun _ hk => hk.elim) ?aF ?aO ?aB ?aS ?aL ?_; (case aP => exact k81_mkM _ _ _ (⟨(⟨x196000_6, x196001_6⟩ : S45), wrap64 (a2 - (ji25))⟩ : S81)); (case aB => exact (by repeat (first | (with_reducible first | exact HB.out | apply below_alloc | apply pw_below_drewN | apply below_drew1 | refine below_set ?_ GE195.out) | exact HB.out))); (case aF => exact (fun _ _ => trivial)); (case aO => exact (by (with_reducible repeat (first | apply Kd.R_alloc | apply Kd.R_drewN | apply Kd.R_drew)); exact HO_7.out)); (case aS => exact (below_size (by repeat (first | (with_reducible first | exact HB.out | apply below_alloc | apply pw_below_drewN | apply below_drew1 | refine below_set ?_ GE195.out) | exact HB.out)))); (case aL => have := LMc27.out; omega); intro v203 w29 ho hb hg hat; rw [← Ny202.out] at ho; have n0_ := Aside0.mk (blk_grown (g := gb195) (o := .cells #[.int .i64 x196000_6, .int .i64 x196001_6] 45 (0, 0)) (by (with_reducible repeat (first | refine blk_drewN ?_ _ | refine blk_drew ?_ | refine blk_alloc ?_ _)); exact BK195.out) hg (Kd.R_ne HO_7.out BK195.out (by decide))); have n1_ := Aside0.mk (hb); have n2_ := Aside0.mk (ho); clear BK195; clear HB; clear HO_7; have BK195 := n0_; have HB := n1_; have HO204 := n2_; clear n0_ n1_ n2_; clear ho hb hg hat))
         go_roundg kj6
         case measure => have := HK1.out; have := HJ6.out; omega
         case rel => exact ⟨(y202), (wrap64 (x8_1 + 1)), (by first | rfl | (simp; done) | (simp [*]; done)), H', ⟨by have := HK1.out; have := HJ6.out; omega⟩, ⟨by (with_reducible repeat (first | apply Kd.R_alloc | apply Kd.R_drewN | apply Kd.R_drew)); exact HO204.out⟩, ⟨by repeat (first | (with_reducible first | exact HB.out | apply below_alloc | apply pw_below_drewN | apply below_drew1 | refine below_set ?_ GE195.out) | exact HB.out)⟩⟩
        ·
         rw [if_neg c27] at H
         exact absurd H (by simp)
       ·
        rw [if_neg c26] at H
        have c26b0 : decide ((ji25) < a2) = false := decide_eq_false c26
        clear c26
        have H' := Aside0.mk H
        clear H
        go_wp2
        go_roundg kj6
        case measure => have := HK1.out; have := HJ6.out; omega
        case rel => exact ⟨(x7_1), (wrap64 (x8_1 + 1)), (by first | rfl | (simp; done) | (simp [*]; done)), H', ⟨by have := HK1.out; have := HJ6.out; omega⟩, ⟨by (with_reducible repeat (first | apply Kd.R_alloc | apply Kd.R_drewN | apply Kd.R_drew)); exact HO_7.out⟩, ⟨by repeat (first | (with_reducible first | exact HB.out | apply below_alloc | apply pw_below_drewN | apply below_drew1 | refine below_set ?_ GE195.out) | exact HB.out)⟩⟩
   ·
    rw [if_neg c6] at H
    have c6b0 : decide (x8_1 < (l0.length : Int)) = false := decide_eq_false c6
    clear c6
    obtain rfl := Option.some.inj H
    go_wp2
    go_ret
    exact ⟨_, by first | rfl | (simp [errW_none, errW_some] <;> rfl) | (simp [*, errW_none, errW_some] <;> rfl), by (with_reducible repeat (first | apply Kd.R_alloc | apply Kd.R_drewN | apply Kd.R_drew)); exact HO_7.out, by repeat (first | (with_reducible first | exact HB.out | apply below_alloc | apply pw_below_drewN | apply below_drew1) | exact HB.out)⟩
end Go.Proofs.Ytnfcbhoaebcndaa.PT
