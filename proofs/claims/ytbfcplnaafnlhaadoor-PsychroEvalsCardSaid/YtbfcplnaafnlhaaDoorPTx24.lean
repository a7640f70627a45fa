-- Laid by hp.py (a program of this session's) through the kit's printer. (squeezed)
import Derived.Test.YtbfcplnaafnlhaaDoorPTx0
namespace Go.Proofs.YtbfcplnaafnlhaaDoor.PT
open Go.RowKit Go.Proofs.YtbfcplnaafnlhaaDoorW.PrintWords Go.Proofs.YtbfcplnaafnlhaaDoorW.PrintLast Go.Proofs.YtbfcplnaafnlhaaDoorW.PrintMore
attribute [local go_sem] max2_int min2_int max_two min_two max_three min_three max_four min_four   -- for this text's walks alone
set_option linter.unusedVariables false
set_option linter.unusedSimpArgs false
/-! ### plenumref22_table: function 37 -/
def plenumref22_table.f  : Option (List Int) := some (([637, 1020, 1603, 2487, 3789, 5424, 7661, 10694, 14757, 20170, 27329, 36756, 49141, 65411, 86858, 115321, 153540] : List Int))
set_option maxHeartbeats 8000000 in
set_option maxRecDepth 100000 in
theorem plenumref22_table.calls  (r : List Int) (w : World) (h : plenumref22_table.f  = some r) :
 Calls Tryd.prog 37 #[] w fun e w' => ∃ v0_ : Value, e = .returned (v0_) ∧ Kd.R (Kd.int .i64) 2 w' w.heap.size (fun _ => True) v0_ r ∧ Below w.heap.size w w' := by
 have HB := Aside0.mk (Below.refl w.heap.size w)
 have H : (some (([637, 1020, 1603, 2487, 3789, 5424, 7661, 10694, 14757, 20170, 27329, 36756, 49141, 65411, 86858, 115321, 153540] : List Int))) = some r := h
 clear h
 obtain ⟨y189, hy189⟩ : ∃ y_ : List Int, y_ = (([637, 1020, 1603, 2487, 3789, 5424, 7661, 10694, 14757, 20170, 27329, 36756, 49141, 65411, 86858, 115321, 153540] : List Int)) := ⟨_, rfl⟩
 replace H : (some y189) = some r := by first | (rw [hy189]; with_reducible exact H) | (have H2_ := (Option.bind_some _ _).symm.trans H; rw [hy189]; with_reducible exact H2_) | (have H2_ := (Option.bind_some _ _).symm.trans H; with_reducible exact H2_) | with_reducible exact H | (rw [hy189]; exact H) | exact H
 have Ny189 := Aside0.mk hy189
 clear hy189
 obtain rfl := Option.some.inj H
 go_enter Tryd.func37, Tryd.ntmps37
 go_wp2_with (first | ((with_reducible refine gate_dst (N := 1) rfl ?_); refine Kd.R_lit (Kd.int .i64) _ 2 ?hg (N := 1) ?hd (xs := ([637, 1020, 1603, 2487, 3789, 5424, 7661, 10694, 14757, 20170, 27329, 36756, 49141, 65411, 86858, 115321, 153540] : List Int)) (inner := [.int .i64 637, .int .i64 1020, .int .i64 1603, .int .i64 2487, .int .i64 3789, .int .i64 5424, .int .i64 7661, .int .i64 10694, .int .i64 14757, .int .i64 20170, .int .i64 27329, .int .i64 36756, .int .i64 49141, .int .i64 65411, .int .i64 86858, .int .i64 115321, .int .i64 153540]) (ok := fun _ => True) (okp := fun _ => True) ?hr ?hp (fun _ hk => hk) trivial (Below.refl _ _) (Nat.le_refl _) (by simp) ?_; (case hd => rfl); (case hg => rfl); (case hr => first | (go_simp; done) | (go_simp; rfl)); (case hp => exact (Reps.one (show Kd.M (Kd.int .i64) _ _ _ 637 [.int .i64 637] from rfl) (Reps.one (show Kd.M (Kd.int .i64) _ _ _ 1020 [.int .i64 1020] from rfl) (Reps.one (show Kd.M (Kd.int .i64) _ _ _ 1603 [.int .i64 1603] from rfl) (Reps.one (show Kd.M (Kd.int .i64) _ _ _ 2487 [.int .i64 2487] from rfl) (Reps.one (show Kd.M (Kd.int .i64) _ _ _ 3789 [.int .i64 3789] from rfl) (Reps.one (show Kd.M (Kd.int .i64) _ _ _ 5424 [.int .i64 5424] from rfl) (Reps.one (show Kd.M (Kd.int .i64) _ _ _ 7661 [.int .i64 7661] from rfl) (Reps.one (show Kd.M (Kd.int .i64) _ _ _ 10694 [.int .i64 10694] from rfl) (Reps.one (show Kd.M (Kd.int .i64) _ _ _ 14757 [.int .i64 14757] from rfl) (Reps.one (show Kd.M (Kd.int .i64) _ _ _ 20170 [.int .i64 20170] from rfl) (Reps.one (show Kd.M (Kd.int .i64) _ _ _ 27329 [.int .i64 27329] from rfl) (Reps.one (show Kd.M (Kd.int .i64) _ _ _ 36756 [.int .i64 36756] from rfl) (Reps.one (show Kd.M (Kd.int .i64) _ _ _ 49141 [.int .i64 49141] from rfl) (Reps.one (show Kd.M (Kd.int .i64) _ _ _ 65411 [.int .i64 65411] from rfl) (Reps.one (show Kd.M (Kd.int .i64) _ _ _ 86858 [.int .i64 86858] from rfl) (Reps.one (show Kd.M (Kd.int .i64) _ _ _ 115321 [.int .i64 115321] from rfl) (Reps.one (show Kd.M (Kd.int .i64) _ _ _ 153540 [.int .i64 153540] from rfl) (Reps.none _ _))))))))))))))))))); intro v190 w1 ho2 hb hg_ hnew_; clear hg_ hnew_; (first | rw [← Ny189.out] at ho2 | (simp only [Int.reduceToNat] at ho2; rw [← Ny189.out] at ho2)); have n0_ := Aside0.mk (Kd.R_lower ho2 (below_size (by repeat (first | (with_reducible first | exact HB.out | apply below_alloc | apply pw_below_drewN | apply below_drew1) | exact HB.out)))); have n1_ := Aside0.mk (below_step (by repeat (first | (with_reducible first | exact HB.out | apply below_alloc | apply pw_below_drewN | apply below_drew1) | exact HB.out)) hb); clear HB; have HO191 := n0_; have HB := n1_; clear n0_ n1_; clear hb ho2))
 go_ret
 exact ⟨_, by first | rfl | (simp [errW_none, errW_some] <;> rfl) | (simp [*, errW_none, errW_some] <;> rfl), by (with_reducible repeat (first | apply Kd.R_alloc | apply Kd.R_drewN | apply Kd.R_drew)); exact HO191.out, by repeat (first | (with_reducible first | exact HB.out | apply below_alloc | apply pw_below_drewN | apply below_drew1) | exact HB.out)⟩
/-! ### plenumref22_degrees: function 38 -/
def plenumref22_degrees.f (a0 : Int) : Option (Int) := some (wrap64 ((-20000) + (wrap64 (5000 * a0))))
set_option maxHeartbeats 8000000 in
set_option maxRecDepth 100000 in
theorem plenumref22_degrees.calls (a0 : Int) (r : Int) (w : World) (h : plenumref22_degrees.f a0 = some r) :
 Calls Tryd.prog 38 #[.int .i64 a0] w fun e w' => e = .returned (.int .i64 r) ∧ Drawn0 w w' := by
 have H : (some (wrap64 ((-20000) + (wrap64 (5000 * a0))))) = some r := h
 clear h
 obtain rfl := Option.some.inj H
 go_enter Tryd.func38, Tryd.ntmps38
 go_wp2
 go_ret
 exact ⟨by first | rfl | (simp; done) | (simp [*]; done), by repeat (first | exact Drawn0.refl _ | apply Drawn0.step)⟩
end Go.Proofs.YtbfcplnaafnlhaaDoor.PT
