-- Laid by hp.py (a program of this session's) through the kit's printer. (squeezed)
import Derived.Test.YtpehicdglooeaaaPTx0
namespace Go.Proofs.Ytpehicdglooeaaa.PT
open Go.RowKit Go.Proofs.YtpehicdglooeaaaW.PrintWords Go.Proofs.YtpehicdglooeaaaW.PrintLast Go.Proofs.YtpehicdglooeaaaW.PrintMore
attribute [local go_sem] max2_int min2_int max_two min_two max_three min_three max_four min_four   -- for this text's walks alone
set_option linter.unusedVariables false
set_option linter.unusedSimpArgs false
/-! ### plenumref35_Next: function 32 -/
def plenumref35_Next.f (a0_0 : Int) (a0_1 : Int) (a1 : Int) (a2 : Int) (a3 : Int) (a4 : Int) : Option (Int) := if (Int.tmod (wrap64 ((wrap64 ((wrap64 (a0_0 * (wrap64 (a2 - a1)))) + (wrap64 (a0_1 * a3)))) * a4)) 3600000) < 0 then (some (mx (-1000000) (mn 1000000 (wrap64 (a1 + (wrap64 ((wrap64 (Int.tdiv (wrap64 ((wrap64 ((wrap64 (a0_0 * (wrap64 (a2 - a1)))) + (wrap64 (a0_1 * a3)))) * a4)) 3600000)) - 1))))))) else (some (mx (-1000000) (mn 1000000 (wrap64 (a1 + (wrap64 (Int.tdiv (wrap64 ((wrap64 ((wrap64 (a0_0 * (wrap64 (a2 - a1)))) + (wrap64 (a0_1 * a3)))) * a4)) 3600000)))))))
set_option maxHeartbeats 8000000 in
set_option maxRecDepth 100000 in
theorem plenumref35_Next.calls (a0_0 : Int) (a0_1 : Int) (a1 : Int) (a2 : Int) (a3 : Int) (a4 : Int) (r : Int) (w : World) (h : plenumref35_Next.f a0_0 a0_1 a1 a2 a3 a4 = some r) :
 Calls Try.prog 32 #[.agg #[.int .i64 a0_0, .int .i64 a0_1], .int .i64 a1, .int .i64 a2, .int .i64 a3, .int .i64 a4] w fun e w' => e = .returned (.int .i64 r) ∧ Below w.heap.size w w' := by
 have hu23 := Try.underlying23
 have HB := Aside0.mk (Below.refl w.heap.size w)
 have H : (if (Int.tmod (wrap64 ((wrap64 ((wrap64 (a0_0 * (wrap64 (a2 - a1)))) + (wrap64 (a0_1 * a3)))) * a4)) 3600000) < 0 then (some (mx (-1000000) (mn 1000000 (wrap64 (a1 + (wrap64 ((wrap64 (Int.tdiv (wrap64 ((wrap64 ((wrap64 (a0_0 * (wrap64 (a2 - a1)))) + (wrap64 (a0_1 * a3)))) * a4)) 3600000)) - 1))))))) else (some (mx (-1000000) (mn 1000000 (wrap64 (a1 + (wrap64 (Int.tdiv (wrap64 ((wrap64 ((wrap64 (a0_0 * (wrap64 (a2 - a1)))) + (wrap64 (a0_1 * a3)))) * a4)) 3600000)))))))) = some r := h
 clear h
 by_cases c6 : (Int.tmod (wrap64 ((wrap64 ((wrap64 (a0_0 * (wrap64 (a2 - a1)))) + (wrap64 (a0_1 * a3)))) * a4)) 3600000) < 0
 ·
  rw [if_pos c6] at H
  have c6b0 : decide ((Int.tmod (wrap64 ((wrap64 ((wrap64 (a0_0 * (wrap64 (a2 - a1)))) + (wrap64 (a0_1 * a3)))) * a4)) 3600000) < 0) = true := decide_eq_true c6
  clear c6
  obtain ⟨ji7, hji7⟩ : ∃ j_ : Int, (mn 1000000 (wrap64 (a1 + (wrap64 ((wrap64 (Int.tdiv (wrap64 ((wrap64 ((wrap64 (a0_0 * (wrap64 (a2 - a1)))) + (wrap64 (a0_1 * a3)))) * a4)) 3600000)) - 1))))) = j_ := ⟨_, rfl⟩
  replace H : (some (mx (-1000000) (ji7))) = some r := by first | (rw [hji7] at H; exact H) | (simp only [hji7] at H ⊢; exact H)
  (try (have hji7h : ji7 ≤ 1000000 := by (rw [← hji7]; unfold mn; (repeat' split) <;> omega)))
  (try (have hji7g : ji7 ≤ 64 := by omega))
  have hji7_ : (if (wrap64 (a1 + (wrap64 ((wrap64 (Int.tdiv (wrap64 ((wrap64 ((wrap64 (a0_0 * (wrap64 (a2 - a1)))) + (wrap64 (a0_1 * a3)))) * a4)) 3600000)) - 1)))) < 1000000 then (wrap64 (a1 + (wrap64 ((wrap64 (Int.tdiv (wrap64 ((wrap64 ((wrap64 (a0_0 * (wrap64 (a2 - a1)))) + (wrap64 (a0_1 * a3)))) * a4)) 3600000)) - 1)))) else 1000000) = ji7 := hji7
  obtain ⟨ji8, hji8⟩ : ∃ j_ : Int, (mx (-1000000) (ji7)) = j_ := ⟨_, rfl⟩
  replace H : (some ji8) = some r := by first | (rw [hji8] at H; exact H) | (simp only [hji8] at H ⊢; exact H)
  have hji8_ : (if (-1000000) < (ji7) then (ji7) else (-1000000)) = ji8 := hji8
  obtain rfl := Option.some.inj H
  go_enter Try.func32, Try.ntmps32
  go_wp2_with (first | ((with_reducible refine gate_dst (N := 5) rfl ?_); refine box_event ?hg (N := 5) ?hd (cs := #[.int .i64 a0_0, .int .i64 a0_1]) (t := 23) ?hr ?_; (case hd => rfl); (case hg => rfl); (case hr => first | (go_simp; done) | (go_simp; rfl)); intro gb222 hg w9 hbox hb; have n0_ := Aside0.mk (below_step (by repeat (first | (with_reducible first | exact HB.out | apply below_alloc | apply pw_below_drewN | apply below_drew1) | exact HB.out)) hb); have n1_ := Aside0.mk (hbox); have n2_ := Aside0.mk ((by rw [hg]; exact (below_size (by repeat (first | (with_reducible first | exact HB.out | apply below_alloc | apply pw_below_drewN | apply below_drew1) | exact HB.out))) : w.heap.size ≤ gb222)); have n3_ := Aside0.mk ((by rw [hg]; exact (below_size (by repeat (first | (with_reducible first | exact HB.out | apply below_alloc | apply pw_below_drewN | apply below_drew1) | exact HB.out))) : w.heap.size ≤ gb222)); clear HB; have HB := n0_; have BK222 := n1_; have GW222 := n2_; have GE222 := n3_; clear n0_ n1_ n2_ n3_; clear hb hbox hg; have hcz10_0 : w9.cell? ⟨gb222, 0, none⟩ = some (.int .i64 a0_0) := (blk_cell BK222.out 0).trans rfl; have hcz10_1 : w9.cell? ⟨gb222, 1, none⟩ = some (.int .i64 a0_1) := (blk_cell BK222.out 1).trans rfl; have hfz10_0 := blk_frozen BK222.out 0; have hfz10_1 := blk_frozen BK222.out 1))
  go_ret
  exact ⟨by first | rfl | (simp [errW_none, errW_some] <;> rfl) | (simp only [← hji7, ← hji8]; first | rfl | (simp [errW_none, errW_some] <;> rfl)) | (simp [*, errW_none, errW_some] <;> rfl), by repeat (first | (with_reducible first | exact HB.out | apply below_alloc | apply pw_below_drewN | apply below_drew1 | refine below_set ?_ GE222.out) | exact HB.out)⟩
 ·
  rw [if_neg c6] at H
  have c6b0 : decide ((Int.tmod (wrap64 ((wrap64 ((wrap64 (a0_0 * (wrap64 (a2 - a1)))) + (wrap64 (a0_1 * a3)))) * a4)) 3600000) < 0) = false := decide_eq_false c6
  clear c6
  obtain ⟨ji11, hji11⟩ : ∃ j_ : Int, (mn 1000000 (wrap64 (a1 + (wrap64 (Int.tdiv (wrap64 ((wrap64 ((wrap64 (a0_0 * (wrap64 (a2 - a1)))) + (wrap64 (a0_1 * a3)))) * a4)) 3600000))))) = j_ := ⟨_, rfl⟩
  replace H : (some (mx (-1000000) (ji11))) = some r := by first | (rw [hji11] at H; exact H) | (simp only [hji11] at H ⊢; exact H)
  (try (have hji11h : ji11 ≤ 1000000 := by (rw [← hji11]; unfold mn; (repeat' split) <;> omega)))
  (try (have hji11g : ji11 ≤ 64 := by omega))
  have hji11_ : (if (wrap64 (a1 + (wrap64 (Int.tdiv (wrap64 ((wrap64 ((wrap64 (a0_0 * (wrap64 (a2 - a1)))) + (wrap64 (a0_1 * a3)))) * a4)) 3600000)))) < 1000000 then (wrap64 (a1 + (wrap64 (Int.tdiv (wrap64 ((wrap64 ((wrap64 (a0_0 * (wrap64 (a2 - a1)))) + (wrap64 (a0_1 * a3)))) * a4)) 3600000)))) else 1000000) = ji11 := hji11
  obtain ⟨ji12, hji12⟩ : ∃ j_ : Int, (mx (-1000000) (ji11)) = j_ := ⟨_, rfl⟩
  replace H : (some ji12) = some r := by first | (rw [hji12] at H; exact H) | (simp only [hji12] at H ⊢; exact H)
  have hji12_ : (if (-1000000) < (ji11) then (ji11) else (-1000000)) = ji12 := hji12
  obtain rfl := Option.some.inj H
  go_enter Try.func32, Try.ntmps32
  go_wp2_with (first | ((with_reducible refine gate_dst (N := 5) rfl ?_); refine box_event ?hg (N := 5) ?hd (cs := #[.int .i64 a0_0, .int .i64 a0_1]) (t := 23) ?hr ?_; (case hd => rfl); (case hg => rfl); (case hr => first | (go_simp; done) | (go_simp; rfl)); intro gb222 hg w13 hbox hb; have n0_ := Aside0.mk (below_step (by repeat (first | (with_reducible first | exact HB.out | apply below_alloc | apply pw_below_drewN | apply below_drew1) | exact HB.out)) hb); have n1_ := Aside0.mk (hbox); have n2_ := Aside0.mk ((by rw [hg]; exact (below_size (by repeat (first | (with_reducible first | exact HB.out | apply below_alloc | apply pw_below_drewN | apply below_drew1) | exact HB.out))) : w.heap.size ≤ gb222)); have n3_ := Aside0.mk ((by rw [hg]; exact (below_size (by repeat (first | (with_reducible first | exact HB.out | apply below_alloc | apply pw_below_drewN | apply below_drew1) | exact HB.out))) : w.heap.size ≤ gb222)); clear HB; have HB := n0_; have BK222 := n1_; have GW222 := n2_; have GE222 := n3_; clear n0_ n1_ n2_ n3_; clear hb hbox hg; have hcz14_0 : w13.cell? ⟨gb222, 0, none⟩ = some (.int .i64 a0_0) := (blk_cell BK222.out 0).trans rfl; have hcz14_1 : w13.cell? ⟨gb222, 1, none⟩ = some (.int .i64 a0_1) := (blk_cell BK222.out 1).trans rfl; have hfz14_0 := blk_frozen BK222.out 0; have hfz14_1 := blk_frozen BK222.out 1))
  go_ret
  exact ⟨by first | rfl | (simp [errW_none, errW_some] <;> rfl) | (simp only [← hji11, ← hji12]; first | rfl | (simp [errW_none, errW_some] <;> rfl)) | (simp [*, errW_none, errW_some] <;> rfl), by repeat (first | (with_reducible first | exact HB.out | apply below_alloc | apply pw_below_drewN | apply below_drew1 | refine below_set ?_ GE222.out) | exact HB.out)⟩
end Go.Proofs.Ytpehicdglooeaaa.PT
