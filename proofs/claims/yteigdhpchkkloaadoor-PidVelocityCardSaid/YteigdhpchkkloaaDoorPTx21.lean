-- Laid by hp.py (a program of this session's) through the kit's printer. (squeezed)
import Derived.Test.YteigdhpchkkloaaDoorPTx0
import Derived.Test.YteigdhpchkkloaaDoorPTx19
namespace Go.Proofs.YteigdhpchkkloaaDoor.PT
open Go.RowKit Go.Proofs.YteigdhpchkkloaaDoorW.PrintWords Go.Proofs.YteigdhpchkkloaaDoorW.PrintLast Go.Proofs.YteigdhpchkkloaaDoorW.PrintMore
attribute [local go_sem] max2_int min2_int max_two min_two max_three min_three max_four min_four   -- for this text's walks alone
set_option linter.unusedVariables false
set_option linter.unusedSimpArgs false
/-! ### pid_Settle: function 12 -/
def pid_Settle.j0 : Nat → Int → Int → Int → Option (Int × Int)
 | 0, _, _, _ => none
 | k + 1, x4, x12, x13 => if x12 = 0 then (some (0, 0)) else (if x13 = 0 then (some (0, 9)) else (if (wrap64 (x13 * x4)) = 0 then (none) else (some (wrap64 (Int.tdiv (wrap64 ((wrap64 (x12 + (wrap64 (x13 * x4)))) - 1)) (wrap64 (x13 * x4))), 0))))
def pid_Settle.f (k : Nat) (a0 : Int) (a1 : Int) (a2 : Int) (a3 : Int) (a4 : Int) : Option (Int × Int) := (pid_paced.f k a0 a1 a2 a3 a4).bind fun t171 => (if t171 = true then (if (wrap64 (a1 - a0)) < 0 then (pid_Settle.j0 k a4 (wrap64 (-(wrap64 (a1 - a0)))) a3) else (pid_Settle.j0 k a4 (wrap64 (a1 - a0)) a2)) else (some (0, 1)))
theorem pid_Settle.mono_l : ∀ k, (∀ y0 y1 y2, LeO (pid_Settle.j0 k y0 y1 y2) (pid_Settle.j0 (k + 1) y0 y1 y2))
 | 0 => fun _ _ _ r h => by simp [pid_Settle.j0] at h
 | k + 1 => by
  have ih0 := pid_Settle.mono_l k
  ·
   intro y0 y1 y2
   unfold pid_Settle.j0
   repeat' first
   | (with_reducible exact ih0 _ _ _)
   | (with_reducible exact pid_paced.mono _ _ _ _ _ _)
   | (with_reducible exact LeO.refl _)
   | (with_reducible exact LeO.none _)
   | (with_reducible refine LeO.ite ?_ ?_)
   | (with_reducible refine LeO.bind ?_ (fun _ => ?_))
   | exact ih0 _ _ _
   | exact pid_paced.mono _ _ _ _ _ _
   | exact LeO.none _
   | refine LeO.ite ?_ ?_
   | refine LeO.bind ?_ (fun _ => ?_)
theorem pid_Settle.mono : ∀ a0 a1 a2 a3 a4 k, LeO (pid_Settle.f k a0 a1 a2 a3 a4) (pid_Settle.f (k + 1) a0 a1 a2 a3 a4) := by
 intro a0 a1 a2 a3 a4 k
 have ih0 := pid_Settle.mono_l k
 unfold pid_Settle.f
 repeat' first
  | (with_reducible exact ih0 _ _ _)
  | (with_reducible exact pid_paced.mono _ _ _ _ _ _)
  | (with_reducible exact LeO.refl _)
  | (with_reducible exact LeO.none _)
  | (with_reducible refine LeO.ite ?_ ?_)
  | (with_reducible refine LeO.bind ?_ (fun _ => ?_))
  | exact ih0 _ _ _
  | exact pid_paced.mono _ _ _ _ _ _
  | exact LeO.none _
  | refine LeO.ite ?_ ?_
  | refine LeO.bind ?_ (fun _ => ?_)
set_option maxHeartbeats 8000000 in
set_option maxRecDepth 100000 in
theorem pid_Settle.calls (k : Nat) (a0 : Int) (a1 : Int) (a2 : Int) (a3 : Int) (a4 : Int) (r1 : Int) (r2 : Int) (w : World) (h : pid_Settle.f k a0 a1 a2 a3 a4 = some (r1, r2)) :
 Calls Tryd.prog 12 #[.int .i64 a0, .int .i64 a1, .int .i64 a2, .int .i64 a3, .int .i64 a4] w fun e w' => e = .returned (.tuple #[.int .i64 r1, .int .i64 r2]) ∧ Below w.heap.size w w' := by
 have HB := Aside0.mk (Below.refl w.heap.size w)
 have H : ((pid_paced.f k a0 a1 a2 a3 a4).bind fun t171 => (if t171 = true then (if (wrap64 (a1 - a0)) < 0 then (pid_Settle.j0 k a4 (wrap64 (-(wrap64 (a1 - a0)))) a3) else (pid_Settle.j0 k a4 (wrap64 (a1 - a0)) a2)) else (some (0, 1)))) = some (r1, r2) := h
 clear h
 replace H := Option.bind_eq_some_iff.mp H
 obtain ⟨t171, A60, H⟩ := H
 replace H : (if t171 = true then (if (wrap64 (a1 - a0)) < 0 then (pid_Settle.j0 k a4 (wrap64 (-(wrap64 (a1 - a0)))) a3) else (pid_Settle.j0 k a4 (wrap64 (a1 - a0)) a2)) else (some (0, 1))) = some (r1, r2) := H
 have A6 := Aside0.mk A60
 clear A60
 by_cases c7 : t171 = true
 ·
  subst c7
  have H1 : (if (wrap64 (a1 - a0)) < 0 then (pid_Settle.j0 k a4 (wrap64 (-(wrap64 (a1 - a0)))) a3) else (pid_Settle.j0 k a4 (wrap64 (a1 - a0)) a2)) = some (r1, r2) := by rw [if_pos rfl] at H; exact H
  clear H
  have H := H1
  clear H1
  have HC8 := Aside0.mk H
  clear H
  go_enter Tryd.func12, Tryd.ntmps12
  go_upto_if 26 with (first | ((with_reducible refine gate_callee (f := 23) rfl ?_); refine goesL_ (some 19) rfl rfl Tryd.func23 (by kernel_rfl) rfl #[.int .i64 a0, .int .i64 a1, .int .i64 a2, .int .i64 a3, .int .i64 a4] rfl (by (try simp only [List.map_toArray, List.map_cons, List.map_nil]); first | done | rfl | (simp only [List.length_drop, List.length_take]; rfl)) ?_; (with_reducible refine (pid_paced.calls k a0 a1 a2 a3 a4 true _ A6.out).mono ?_); rintro e w9 ⟨rfl, hb⟩; refine ⟨_, rfl, ?_⟩; have n0_ := Aside0.mk (below_step (by repeat (first | (with_reducible first | exact HB.out | apply below_alloc | apply pw_below_drewN | apply below_drew1) | exact HB.out)) hb); clear HB; have HB := n0_; clear n0_; (try clear hb); (try clear hb2); (try clear hk); (try clear hi)))
  (try simp only [Act.put, List.setIfInBounds_toArray, List.set_cons_zero, List.set_cons_succ])
  go_cut [12, 13] (fun v12 v13 wc => ∃ (kq : Nat) (x12_7 : Int) (x13_7 : Int), v12 = .int .i64 x12_7 ∧ v13 = .int .i64 x13_7 ∧ Aside0 (pid_Settle.j0 kq a4 x12_7 x13_7 = some (r1, r2)) ∧ Aside0 (kq ≤ k) ∧ Aside0 (Below w.heap.size w wc))
  case first =>
   have H := HC8.out
   clear HC8
   by_cases c10 : (wrap64 (a1 - a0)) < 0
   ·
    rw [if_pos c10] at H
    have c10b0 : decide ((wrap64 (a1 - a0)) < 0) = true := decide_eq_true c10
    clear c10
    (first | rw [c10b0] | (simp only [i64_w, i32_w]; rw [c10b0]) | skip)
    have H' := Aside0.mk H
    clear H
    go_wp2
    go_meet
    case rel => exact ⟨_, (wrap64 (-(wrap64 (a1 - a0)))), (a3), (by first | rfl | (simp; done) | (simp [*]; done)), (by first | rfl | (simp; done) | (simp [*]; done)), H', ⟨by first | omega | exact Nat.le_refl _⟩, ⟨by repeat (first | (with_reducible first | exact HB.out | apply below_alloc | apply pw_below_drewN | apply below_drew1) | exact HB.out)⟩⟩
   ·
    rw [if_neg c10] at H
    have c10b0 : decide ((wrap64 (a1 - a0)) < 0) = false := decide_eq_false c10
    clear c10
    (first | rw [c10b0] | (simp only [i64_w, i32_w]; rw [c10b0]) | skip)
    have H' := Aside0.mk H
    clear H
    go_wp2
    go_meet
    case rel => exact ⟨_, (wrap64 (a1 - a0)), (a2), (by first | rfl | (simp; done) | (simp [*]; done)), (by first | rfl | (simp; done) | (simp [*]; done)), H', ⟨by first | omega | exact Nat.le_refl _⟩, ⟨by repeat (first | (with_reducible first | exact HB.out | apply below_alloc | apply pw_below_drewN | apply below_drew1) | exact HB.out)⟩⟩
  case rest =>
   clear HC8
   try clear c1
   try clear c2
   try clear p2
   try clear p6
   try clear c7
   try clear c10
   try clear c10b0
   obtain ⟨kq, x12_7, x13_7, rfl, rfl, HA, HJ7, HB⟩ := hcut
   cases kq with
   | zero => exact absurd HA.out (by simp [pid_Settle.j0])
   | succ kj7 =>
    have H := HA.out
    clear HA
    simp only [pid_Settle.j0] at H
    by_cases c11 : x12_7 = 0
    ·
     rw [if_pos c11] at H
     have c11b0 : (x12_7 == 0) = true := beq_iff_eq.mpr c11
     have c11b1 : (x12_7 != 0) = false := bne_eq_false_iff_eq.mpr c11
     clear c11
     simp only [Option.some.injEq, Prod.mk.injEq] at H
     obtain ⟨rfl, rfl⟩ := H
     go_wp2
     go_ret2
     exact ⟨by first | rfl | (simp [errW_none, errW_some] <;> rfl) | (simp [*, errW_none, errW_some] <;> rfl), by repeat (first | (with_reducible first | exact HB.out | apply below_alloc | apply pw_below_drewN | apply below_drew1) | exact HB.out)⟩
    ·
     rw [if_neg c11] at H
     have c11b0 : (x12_7 == 0) = false := beq_eq_false_iff_ne.mpr c11
     have c11b1 : (x12_7 != 0) = true := bne_iff_ne.mpr c11
     by_cases c12 : x13_7 = 0
     ·
      rw [if_pos c12] at H
      have c12b0 : (x13_7 == 0) = true := beq_iff_eq.mpr c12
      have c12b1 : (x13_7 != 0) = false := bne_eq_false_iff_eq.mpr c12
      clear c12
      simp only [Option.some.injEq, Prod.mk.injEq] at H
      obtain ⟨rfl, rfl⟩ := H
      go_wp2
      go_ret2
      exact ⟨by first | rfl | (simp [errW_none, errW_some] <;> rfl) | (simp [*, errW_none, errW_some] <;> rfl), by repeat (first | (with_reducible first | exact HB.out | apply below_alloc | apply pw_below_drewN | apply below_drew1) | exact HB.out)⟩
     ·
      rw [if_neg c12] at H
      have c12b0 : (x13_7 == 0) = false := beq_eq_false_iff_ne.mpr c12
      have c12b1 : (x13_7 != 0) = true := bne_iff_ne.mpr c12
      by_cases c13 : (wrap64 (x13_7 * a4)) = 0
      ·
       rw [if_pos c13] at H
       exact absurd H (by simp)
      ·
       rw [if_neg c13] at H
       have c13b0 : ((wrap64 (x13_7 * a4)) == 0) = false := beq_eq_false_iff_ne.mpr c13
       have c13b1 : ((wrap64 (x13_7 * a4)) != 0) = true := bne_iff_ne.mpr c13
       simp only [Option.some.injEq, Prod.mk.injEq] at H
       obtain ⟨rfl, rfl⟩ := H
       go_wp2
       go_ret2
       exact ⟨by first | rfl | (simp [errW_none, errW_some] <;> rfl) | (simp [*, errW_none, errW_some] <;> rfl), by repeat (first | (with_reducible first | exact HB.out | apply below_alloc | apply pw_below_drewN | apply below_drew1) | exact HB.out)⟩
 ·
  replace c7 := Bool.eq_false_iff.mpr c7
  subst c7
  have H1 : (some (0, 1)) = some (r1, r2) := by rw [if_neg (show ¬ (false = true) by decide)] at H; exact H
  clear H
  have H := H1
  clear H1
  simp only [Option.some.injEq, Prod.mk.injEq] at H
  obtain ⟨rfl, rfl⟩ := H
  go_enter Tryd.func12, Tryd.ntmps12
  go_wp2_with (first | ((with_reducible refine gate_callee (f := 23) rfl ?_); refine goesL_ (some 19) rfl rfl Tryd.func23 (by kernel_rfl) rfl #[.int .i64 a0, .int .i64 a1, .int .i64 a2, .int .i64 a3, .int .i64 a4] rfl (by (try simp only [List.map_toArray, List.map_cons, List.map_nil]); first | done | rfl | (simp only [List.length_drop, List.length_take]; rfl)) ?_; (with_reducible refine (pid_paced.calls k a0 a1 a2 a3 a4 false _ A6.out).mono ?_); rintro e w14 ⟨rfl, hb⟩; refine ⟨_, rfl, ?_⟩; have n0_ := Aside0.mk (below_step (by repeat (first | (with_reducible first | exact HB.out | apply below_alloc | apply pw_below_drewN | apply below_drew1) | exact HB.out)) hb); clear HB; have HB := n0_; clear n0_; (try clear hb); (try clear hb2); (try clear hk); (try clear hi)))
  go_ret2
  exact ⟨by first | rfl | (simp [errW_none, errW_some] <;> rfl) | (simp [*, errW_none, errW_some] <;> rfl), by repeat (first | (with_reducible first | exact HB.out | apply below_alloc | apply pw_below_drewN | apply below_drew1) | exact HB.out)⟩
end Go.Proofs.YteigdhpchkkloaaDoor.PT
