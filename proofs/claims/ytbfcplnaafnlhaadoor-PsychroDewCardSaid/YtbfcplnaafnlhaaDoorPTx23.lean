-- Laid by hp.py (a program of this session's) through the kit's printer. (squeezed)
import Derived.Test.YtbfcplnaafnlhaaDoorPTx0
import Derived.Test.YtbfcplnaafnlhaaDoorLaid
import Derived.Test.YtbfcplnaafnlhaaDoorPTx12
import Derived.Test.YtbfcplnaafnlhaaDoorPTx13
import Derived.Test.YtbfcplnaafnlhaaDoorPTx14
import Derived.Test.YtbfcplnaafnlhaaDoorPTx15
namespace Go.Proofs.YtbfcplnaafnlhaaDoor.PT
open Go.RowKit Go.Proofs.YtbfcplnaafnlhaaDoorW.PrintWords Go.Proofs.YtbfcplnaafnlhaaDoorW.PrintLast Go.Proofs.YtbfcplnaafnlhaaDoorW.PrintMore
attribute [local go_sem] max2_int min2_int max_two min_two max_three min_three max_four min_four   -- for this text's walks alone
set_option linter.unusedVariables false
set_option linter.unusedSimpArgs false
/-! ### plenumlaw22_PsychroDew: function 4 -/
mutual
def plenumlaw22_PsychroDew.j0 : Nat → Int → Bool → Option (Bool)
 | 0, _, _ => none
 | k + 1, x2, x21 => if x21 = true then (some false) else (if x2 < 637 then (plenumlaw22_PsychroDew.j1 k x2 true) else (plenumlaw22_PsychroDew.j1 k x2 (decide (x2 > 153540))))
def plenumlaw22_PsychroDew.j1 : Nat → Int → Bool → Option (Bool)
 | 0, _, _ => none
 | k + 1, x2, x27 => if x27 = true then ((psychro_Dew.f k x2).bind fun t184 => (if t184 = (-20000) then (if x2 < 637 then (some true) else ((psychro_Dew.f k x2).bind fun t185 => (some (t185 == 60000)))) else ((psychro_Dew.f k x2).bind fun t186 => (some (t186 == 60000))))) else ((psychro_Dew.f k x2).bind fun t187 => ((psychro_Saturation.f k t187).bind fun t188 => (if (wrap64 (t188 - x2)) ≥ (-5) then (some (decide ((wrap64 (t188 - x2)) ≤ 5))) else (some false))))
end
def plenumlaw22_PsychroDew.f (k : Nat) (a0 : Int) (a1 : Int) (a2 : Int) : Option (Bool) := (plenumlaw22_awake.f).bind fun t181 => (if t181 = true then (if a0 ≥ (-20000) then ((psychro_Ratio.f k a0 a1).bind fun t182 => ((psychro_Dew.f k t182).bind fun t183 => (plenumlaw22_PsychroDew.j0 k a2 (decide (t183 > (wrap64 ((mn a0 200000) + 7))))))) else (plenumlaw22_PsychroDew.j0 k a2 false)) else (some false))
theorem plenumlaw22_PsychroDew.mono_l : ∀ k, (∀ y0 y1, LeO (plenumlaw22_PsychroDew.j0 k y0 y1) (plenumlaw22_PsychroDew.j0 (k + 1) y0 y1)) ∧ (∀ y0 y1, LeO (plenumlaw22_PsychroDew.j1 k y0 y1) (plenumlaw22_PsychroDew.j1 (k + 1) y0 y1))
 | 0 => ⟨fun _ _ r h => by simp [plenumlaw22_PsychroDew.j0] at h, fun _ _ r h => by simp [plenumlaw22_PsychroDew.j1] at h⟩
 | k + 1 => by
  obtain ⟨ih0, ih1⟩ := plenumlaw22_PsychroDew.mono_l k
  refine ⟨?_, ?_⟩
  ·
   intro y0 y1
   unfold plenumlaw22_PsychroDew.j0
   repeat' first
   | (with_reducible exact ih0 _ _)
   | (with_reducible exact ih1 _ _)
   | (with_reducible exact psychro_Dew.mono _ _)
   | (with_reducible exact psychro_Ratio.mono _ _ _)
   | (with_reducible exact psychro_Saturation.mono _ _)
   | (with_reducible exact LeO.refl _)
   | (with_reducible exact LeO.none _)
   | (with_reducible refine LeO.ite ?_ ?_)
   | (with_reducible refine LeO.bind ?_ (fun _ => ?_))
   | exact ih0 _ _
   | exact ih1 _ _
   | exact psychro_Dew.mono _ _
   | exact psychro_Ratio.mono _ _ _
   | exact psychro_Saturation.mono _ _
   | exact LeO.none _
   | refine LeO.ite ?_ ?_
   | refine LeO.bind ?_ (fun _ => ?_)
  ·
   intro y0 y1
   unfold plenumlaw22_PsychroDew.j1
   repeat' first
   | (with_reducible exact ih0 _ _)
   | (with_reducible exact ih1 _ _)
   | (with_reducible exact psychro_Dew.mono _ _)
   | (with_reducible exact psychro_Ratio.mono _ _ _)
   | (with_reducible exact psychro_Saturation.mono _ _)
   | (with_reducible exact LeO.refl _)
   | (with_reducible exact LeO.none _)
   | (with_reducible refine LeO.ite ?_ ?_)
   | (with_reducible refine LeO.bind ?_ (fun _ => ?_))
   | exact ih0 _ _
   | exact ih1 _ _
   | exact psychro_Dew.mono _ _
   | exact psychro_Ratio.mono _ _ _
   | exact psychro_Saturation.mono _ _
   | exact LeO.none _
   | refine LeO.ite ?_ ?_
   | refine LeO.bind ?_ (fun _ => ?_)
theorem plenumlaw22_PsychroDew.mono : ∀ a0 a1 a2 k, LeO (plenumlaw22_PsychroDew.f k a0 a1 a2) (plenumlaw22_PsychroDew.f (k + 1) a0 a1 a2) := by
 intro a0 a1 a2 k
 obtain ⟨ih0, ih1⟩ := plenumlaw22_PsychroDew.mono_l k
 unfold plenumlaw22_PsychroDew.f
 repeat' first
  | (with_reducible exact ih0 _ _)
  | (with_reducible exact ih1 _ _)
  | (with_reducible exact psychro_Dew.mono _ _)
  | (with_reducible exact psychro_Ratio.mono _ _ _)
  | (with_reducible exact psychro_Saturation.mono _ _)
  | (with_reducible exact LeO.refl _)
  | (with_reducible exact LeO.none _)
  | (with_reducible refine LeO.ite ?_ ?_)
  | (with_reducible refine LeO.bind ?_ (fun _ => ?_))
  | exact ih0 _ _
  | exact ih1 _ _
  | exact psychro_Dew.mono _ _
  | exact psychro_Ratio.mono _ _ _
  | exact psychro_Saturation.mono _ _
  | exact LeO.none _
  | refine LeO.ite ?_ ?_
  | refine LeO.bind ?_ (fun _ => ?_)
set_option maxHeartbeats 8000000 in
set_option maxRecDepth 100000 in
theorem plenumlaw22_PsychroDew.calls (k : Nat) (a0 : Int) (a1 : Int) (a2 : Int) (r : Bool) (w : World) (hL : LaidT w) (h : plenumlaw22_PsychroDew.f k a0 a1 a2 = some r) :
 Calls Tryd.prog 4 #[.int .i64 a0, .int .i64 a1, .int .i64 a2] w fun e w' => e = .returned (.bool r) ∧ Below w.heap.size w w' := by
 have HL := Aside0.mk hL
 have HB := Aside0.mk (Below.refl w.heap.size w)
 have H : ((plenumlaw22_awake.f).bind fun t181 => (if t181 = true then (if a0 ≥ (-20000) then ((psychro_Ratio.f k a0 a1).bind fun t182 => ((psychro_Dew.f k t182).bind fun t183 => (plenumlaw22_PsychroDew.j0 k a2 (decide (t183 > (wrap64 ((mn a0 200000) + 7))))))) else (plenumlaw22_PsychroDew.j0 k a2 false)) else (some false))) = some r := h
 clear h
 replace H := Option.bind_eq_some_iff.mp H
 obtain ⟨t181, A40, H⟩ := H
 replace H : (if t181 = true then (if a0 ≥ (-20000) then ((psychro_Ratio.f k a0 a1).bind fun t182 => ((psychro_Dew.f k t182).bind fun t183 => (plenumlaw22_PsychroDew.j0 k a2 (decide (t183 > (wrap64 ((mn a0 200000) + 7))))))) else (plenumlaw22_PsychroDew.j0 k a2 false)) else (some false)) = some r := H
 have A4 := Aside0.mk A40
 clear A40
 by_cases c5 : t181 = true
 ·
  subst c5
  have H1 : (if a0 ≥ (-20000) then ((psychro_Ratio.f k a0 a1).bind fun t182 => ((psychro_Dew.f k t182).bind fun t183 => (plenumlaw22_PsychroDew.j0 k a2 (decide (t183 > (wrap64 ((mn a0 200000) + 7))))))) else (plenumlaw22_PsychroDew.j0 k a2 false)) = some r := by rw [if_pos rfl] at H; exact H
  clear H
  have H := H1
  clear H1
  have HC6 := Aside0.mk H
  clear H
  go_enter Tryd.func4, Tryd.ntmps4
  go_upto_region 3 with (first | ((with_reducible refine gate_callee (f := 10) rfl ?_); refine goesL_ (some 8) rfl rfl Tryd.func10 (by kernel_rfl) rfl #[] rfl (by (try simp only [List.map_toArray, List.map_cons, List.map_nil]); first | done | rfl | (simp only [List.length_drop, List.length_take]; rfl)) ?_; (with_reducible refine (plenumlaw22_awake.calls  true _ ?sideL A4.out).mono ?_); (case sideL => exact LaidT.below HL.out (by repeat (first | (with_reducible first | exact HB.out | apply below_alloc | apply pw_below_drewN | apply below_drew1) | exact HB.out))); rintro e w7 ⟨rfl, hb⟩; refine ⟨_, rfl, ?_⟩; have n0_ := Aside0.mk (below_step (by repeat (first | (with_reducible first | exact HB.out | apply below_alloc | apply pw_below_drewN | apply below_drew1) | exact HB.out)) hb); clear HB; have HB := n0_; clear n0_; (try clear hb); (try clear hb2); (try clear hk); (try clear hi)))
  (try simp only [Act.put, List.setIfInBounds_toArray, List.set_cons_zero, List.set_cons_succ])
  go_cut [21] (fun v21 wc => ∃ (kq : Nat) (x21_5 : Bool), v21 = .bool x21_5 ∧ Aside0 (plenumlaw22_PsychroDew.j0 kq a2 x21_5 = some r) ∧ Aside0 (kq ≤ k) ∧ Aside0 (Below w.heap.size w wc))
  case first =>
   have H := HC6.out
   clear HC6
   by_cases c8 : a0 ≥ (-20000)
   ·
    rw [if_pos c8] at H
    have c8b0 : decide ((-20000) ≤ a0) = true := decide_eq_true c8
    clear c8
    (first | rw [c8b0] | (simp only [i64_w, i32_w]; rw [c8b0]) | skip)
    replace H := Option.bind_eq_some_iff.mp H
    obtain ⟨t182, A90, H⟩ := H
    replace H : ((psychro_Dew.f k t182).bind fun t183 => (plenumlaw22_PsychroDew.j0 k a2 (decide (t183 > (wrap64 ((mn a0 200000) + 7)))))) = some r := H
    have A9 := Aside0.mk A90
    clear A90
    replace H := Option.bind_eq_some_iff.mp H
    obtain ⟨t183, A100, H⟩ := H
    replace H : (plenumlaw22_PsychroDew.j0 k a2 (decide (t183 > (wrap64 ((mn a0 200000) + 7))))) = some r := H
    have A10 := Aside0.mk A100
    clear A100
    obtain ⟨ji11, hji11⟩ : ∃ j_ : Int, (mn a0 200000) = j_ := ⟨_, rfl⟩
    replace H : (plenumlaw22_PsychroDew.j0 k a2 (decide (t183 > (wrap64 ((ji11) + 7))))) = some r := by first | (rw [hji11] at H; exact H) | (simp only [hji11] at H ⊢; exact H)
    (try rw [hji11] at A9)
    (try rw [hji11] at A10)
    (try (have hji11h : ji11 ≤ 200000 := by (rw [← hji11]; unfold mn; (repeat' split) <;> omega)))
    (try (have hji11g : ji11 ≤ 64 := by omega))
    have hji11_ : (if 200000 < a0 then 200000 else a0) = ji11 := hji11
    have H' := Aside0.mk H
    clear H
    go_wp2_with (first | (go_at_call 14; (with_reducible refine (psychro_Ratio.calls k a0 a1 t182 _ ?sideL A9.out).mono ?_); (case sideL => exact LaidT.below HL.out (by repeat (first | (with_reducible first | exact HB.out | apply below_alloc | apply pw_below_drewN | apply below_drew1) | exact HB.out))); rintro e w12 ⟨rfl, hb⟩; have n0_ := Aside0.mk (below_step (by repeat (first | (with_reducible first | exact HB.out | apply below_alloc | apply pw_below_drewN | apply below_drew1) | exact HB.out)) hb); clear HB; have HB := n0_; clear n0_; (try clear hb); (try clear hb2); (try clear hk); (try clear hi)) | (go_at_call 13; (with_reducible refine (psychro_Dew.calls k t182 t183 _ ?sideL A10.out).mono ?_); (case sideL => exact LaidT.below HL.out (by repeat (first | (with_reducible first | exact HB.out | apply below_alloc | apply pw_below_drewN | apply below_drew1) | exact HB.out))); rintro e w13 ⟨rfl, hb⟩; have n0_ := Aside0.mk (below_step (by repeat (first | (with_reducible first | exact HB.out | apply below_alloc | apply pw_below_drewN | apply below_drew1) | exact HB.out)) hb); clear HB; have HB := n0_; clear n0_; (try clear hb); (try clear hb2); (try clear hk); (try clear hi)))
    go_meet
    case rel => exact ⟨_, (decide (t183 > (wrap64 ((ji11) + 7)))), (by first | rfl | (simp; done) | (simp only [← hji11] <;> (first | rfl | simp)) | (simp [*]; done)), H', ⟨by first | omega | exact Nat.le_refl _⟩, ⟨by repeat (first | (with_reducible first | exact HB.out | apply below_alloc | apply pw_below_drewN | apply below_drew1) | exact HB.out)⟩⟩
   ·
    rw [if_neg c8] at H
    have c8b0 : decide ((-20000) ≤ a0) = false := decide_eq_false c8
    clear c8
    (first | rw [c8b0] | (simp only [i64_w, i32_w]; rw [c8b0]) | skip)
    have H' := Aside0.mk H
    clear H
    go_wp2
    go_meet
    case rel => exact ⟨_, (false), (by first | rfl | (simp; done) | (simp [*]; done)), H', ⟨by first | omega | exact Nat.le_refl _⟩, ⟨by repeat (first | (with_reducible first | exact HB.out | apply below_alloc | apply pw_below_drewN | apply below_drew1) | exact HB.out)⟩⟩
  case rest =>
   clear HC6
   try clear c1
   try clear p2
   try clear c4
   try clear c5
   try clear p6
   try clear c8
   try clear c8b0
   try clear c10
   obtain ⟨kq, x21_5, rfl, HA, HJ5, HB⟩ := hcut
   cases kq with
   | zero => exact absurd HA.out (by simp [plenumlaw22_PsychroDew.j0])
   | succ kj5 =>
    have H := HA.out
    clear HA
    simp only [plenumlaw22_PsychroDew.j0] at H
    by_cases c14 : x21_5 = true
    ·
     subst c14
     have H1 : (some false) = some r := by rw [if_pos rfl] at H; exact H
     clear H
     have H := H1
     clear H1
     obtain rfl := Option.some.inj H
     go_wp2
     go_ret
     exact ⟨by first | rfl | (simp [errW_none, errW_some] <;> rfl) | (simp [*, errW_none, errW_some] <;> rfl), by repeat (first | (with_reducible first | exact HB.out | apply below_alloc | apply pw_below_drewN | apply below_drew1) | exact HB.out)⟩
    ·
     replace c14 := Bool.eq_false_iff.mpr c14
     subst c14
     have H1 : (if a2 < 637 then (plenumlaw22_PsychroDew.j1 kj5 a2 true) else (plenumlaw22_PsychroDew.j1 kj5 a2 (decide (a2 > 153540)))) = some r := by rw [if_neg (show ¬ (false = true) by decide)] at H; exact H
     clear H
     have H := H1
     clear H1
     have HC15 := Aside0.mk H
     clear H
     go_upto_region 5 with (fail)
     go_cut [27] (fun v27 wc => ∃ (kq : Nat) (x27_14 : Bool), v27 = .bool x27_14 ∧ Aside0 (plenumlaw22_PsychroDew.j1 kq a2 x27_14 = some r) ∧ Aside0 (kq ≤ kj5) ∧ Aside0 (Below w.heap.size w wc))
     case first =>
      have H := HC15.out
      clear HC15
      by_cases c16 : a2 < 637
      ·
       rw [if_pos c16] at H
       have c16b0 : decide (a2 < 637) = true := decide_eq_true c16
       clear c16
       (first | rw [c16b0] | (simp only [i64_w, i32_w]; rw [c16b0]) | skip)
       have H' := Aside0.mk H
       clear H
       go_wp2
       go_meet
       case rel => exact ⟨_, (true), (by first | rfl | (simp; done) | (simp [*]; done)), H', ⟨by have := HJ5.out; first | omega | exact Nat.le_refl _⟩, ⟨by repeat (first | (with_reducible first | exact HB.out | apply below_alloc | apply pw_below_drewN | apply below_drew1) | exact HB.out)⟩⟩
      ·
       rw [if_neg c16] at H
       have c16b0 : decide (a2 < 637) = false := decide_eq_false c16
       clear c16
       (first | rw [c16b0] | (simp only [i64_w, i32_w]; rw [c16b0]) | skip)
       have H' := Aside0.mk H
       clear H
       go_wp2
       go_meet
       case rel => exact ⟨_, (decide (a2 > 153540)), (by first | rfl | (simp; done) | (simp [*]; done)), H', ⟨by have := HJ5.out; first | omega | exact Nat.le_refl _⟩, ⟨by repeat (first | (with_reducible first | exact HB.out | apply below_alloc | apply pw_below_drewN | apply below_drew1) | exact HB.out)⟩⟩
     case rest =>
      clear HC15
      try clear c1
      try clear p2
      try clear c4
      try clear c5
      try clear p6
      try clear c8
      try clear c8b0
      try clear c10
      try clear c14
      try clear c16
      try clear c16b0
      try clear p2
      try clear p6
      obtain ⟨kq, x27_14, rfl, HA, HJ14, HB⟩ := hcut
      cases kq with
      | zero => exact absurd HA.out (by simp [plenumlaw22_PsychroDew.j1])
      | succ kj14 =>
       have H := HA.out
       clear HA
       simp only [plenumlaw22_PsychroDew.j1] at H
       by_cases c17 : x27_14 = true
       ·
        subst c17
        have H1 : ((psychro_Dew.f kj14 a2).bind fun t184 => (if t184 = (-20000) then (if a2 < 637 then (some true) else ((psychro_Dew.f kj14 a2).bind fun t185 => (some (t185 == 60000)))) else ((psychro_Dew.f kj14 a2).bind fun t186 => (some (t186 == 60000))))) = some r := by rw [if_pos rfl] at H; exact H
        clear H
        have H := H1
        clear H1
        replace H := Option.bind_eq_some_iff.mp H
        obtain ⟨t184, A180, H⟩ := H
        replace H : (if t184 = (-20000) then (if a2 < 637 then (some true) else ((psychro_Dew.f kj14 a2).bind fun t185 => (some (t185 == 60000)))) else ((psychro_Dew.f kj14 a2).bind fun t186 => (some (t186 == 60000)))) = some r := H
        have A18 := Aside0.mk A180
        clear A180
        by_cases c19 : t184 = (-20000)
        ·
         rw [if_pos c19] at H
         have c19b0 : (t184 == (-20000)) = true := beq_iff_eq.mpr c19
         have c19b1 : (t184 != (-20000)) = false := bne_eq_false_iff_eq.mpr c19
         clear c19
         by_cases c20 : a2 < 637
         ·
          rw [if_pos c20] at H
          have c20b0 : decide (a2 < 637) = true := decide_eq_true c20
          clear c20
          obtain rfl := Option.some.inj H
          go_wp2_with (first | ((with_reducible refine gate_callee (f := 13) rfl ?_); refine goesL_ (some 29) rfl rfl Tryd.func13 (by kernel_rfl) rfl #[.int .i64 a2] rfl (by (try simp only [List.map_toArray, List.map_cons, List.map_nil]); first | done | rfl | (simp only [List.length_drop, List.length_take]; rfl)) ?_; (with_reducible refine (psychro_Dew.calls kj14 a2 t184 _ ?sideL A18.out).mono ?_); (case sideL => exact LaidT.below HL.out (by repeat (first | (with_reducible first | exact HB.out | apply below_alloc | apply pw_below_drewN | apply below_drew1) | exact HB.out))); rintro e w21 ⟨rfl, hb⟩; refine ⟨_, rfl, ?_⟩; have n0_ := Aside0.mk (below_step (by repeat (first | (with_reducible first | exact HB.out | apply below_alloc | apply pw_below_drewN | apply below_drew1) | exact HB.out)) hb); clear HB; have HB := n0_; clear n0_; (try clear hb); (try clear hb2); (try clear hk); (try clear hi)))
          go_ret
          exact ⟨by first | rfl | (simp [errW_none, errW_some] <;> rfl) | (simp [*, errW_none, errW_some] <;> rfl), by repeat (first | (with_reducible first | exact HB.out | apply below_alloc | apply pw_below_drewN | apply below_drew1) | exact HB.out)⟩
         ·
          rw [if_neg c20] at H
          have c20b0 : decide (a2 < 637) = false := decide_eq_false c20
          clear c20
          replace H := Option.bind_eq_some_iff.mp H
          obtain ⟨t185, A220, H⟩ := H
          replace H : (some (t185 == 60000)) = some r := H
          have A22 := Aside0.mk A220
          clear A220
          obtain rfl := Option.some.inj H
          go_wp2_with (first | ((with_reducible refine gate_callee (f := 13) rfl ?_); refine goesL_ (some 29) rfl rfl Tryd.func13 (by kernel_rfl) rfl #[.int .i64 a2] rfl (by (try simp only [List.map_toArray, List.map_cons, List.map_nil]); first | done | rfl | (simp only [List.length_drop, List.length_take]; rfl)) ?_; (with_reducible refine (psychro_Dew.calls kj14 a2 t184 _ ?sideL A18.out).mono ?_); (case sideL => exact LaidT.below HL.out (by repeat (first | (with_reducible first | exact HB.out | apply below_alloc | apply pw_below_drewN | apply below_drew1) | exact HB.out))); rintro e w23 ⟨rfl, hb⟩; refine ⟨_, rfl, ?_⟩; have n0_ := Aside0.mk (below_step (by repeat (first | (with_reducible first | exact HB.out | apply below_alloc | apply pw_below_drewN | apply below_drew1) | exact HB.out)) hb); clear HB; have HB := n0_; clear n0_; (try clear hb); (try clear hb2); (try clear hk); (try clear hi)) | (go_at_call 13; (with_reducible refine (psychro_Dew.calls kj14 a2 t185 _ ?sideL A22.out).mono ?_); (case sideL => exact LaidT.below HL.out (by repeat (first | (with_reducible first | exact HB.out | apply below_alloc | apply pw_below_drewN | apply below_drew1) | exact HB.out))); rintro e w24 ⟨rfl, hb⟩; have n0_ := Aside0.mk (below_step (by repeat (first | (with_reducible first | exact HB.out | apply below_alloc | apply pw_below_drewN | apply below_drew1) | exact HB.out)) hb); clear HB; have HB := n0_; clear n0_; (try clear hb); (try clear hb2); (try clear hk); (try clear hi)))
          go_ret
          exact ⟨by first | rfl | (simp [errW_none, errW_some] <;> rfl) | (simp [*, errW_none, errW_some] <;> rfl), by repeat (first | (with_reducible first | exact HB.out | apply below_alloc | apply pw_below_drewN | apply below_drew1) | exact HB.out)⟩
        ·
         rw [if_neg c19] at H
         have c19b0 : (t184 == (-20000)) = false := beq_eq_false_iff_ne.mpr c19
         have c19b1 : (t184 != (-20000)) = true := bne_iff_ne.mpr c19
         replace H := Option.bind_eq_some_iff.mp H
         obtain ⟨t186, A250, H⟩ := H
         replace H : (some (t186 == 60000)) = some r := H
         have A25 := Aside0.mk A250
         clear A250
         obtain rfl := Option.some.inj H
         go_wp2_with (first | ((with_reducible refine gate_callee (f := 13) rfl ?_); refine goesL_ (some 29) rfl rfl Tryd.func13 (by kernel_rfl) rfl #[.int .i64 a2] rfl (by (try simp only [List.map_toArray, List.map_cons, List.map_nil]); first | done | rfl | (simp only [List.length_drop, List.length_take]; rfl)) ?_; (with_reducible refine (psychro_Dew.calls kj14 a2 t184 _ ?sideL A18.out).mono ?_); (case sideL => exact LaidT.below HL.out (by repeat (first | (with_reducible first | exact HB.out | apply below_alloc | apply pw_below_drewN | apply below_drew1) | exact HB.out))); rintro e w26 ⟨rfl, hb⟩; refine ⟨_, rfl, ?_⟩; have n0_ := Aside0.mk (below_step (by repeat (first | (with_reducible first | exact HB.out | apply below_alloc | apply pw_below_drewN | apply below_drew1) | exact HB.out)) hb); clear HB; have HB := n0_; clear n0_; (try clear hb); (try clear hb2); (try clear hk); (try clear hi)) | (go_at_call 13; (with_reducible refine (psychro_Dew.calls kj14 a2 t186 _ ?sideL A25.out).mono ?_); (case sideL => exact LaidT.below HL.out (by repeat (first | (with_reducible first | exact HB.out | apply below_alloc | apply pw_below_drewN | apply below_drew1) | exact HB.out))); rintro e w27 ⟨rfl, hb⟩; have n0_ := Aside0.mk (below_step (by repeat (first | (with_reducible first | exact HB.out | apply below_alloc | apply pw_below_drewN | apply below_drew1) | exact HB.out)) hb); clear HB; have HB := n0_; clear n0_; (try clear hb); (try clear hb2); (try clear hk); (try clear hi)))
         go_ret
         exact ⟨by first | rfl | (simp [errW_none, errW_some] <;> rfl) | (simp [*, errW_none, errW_some] <;> rfl), by repeat (first | (with_reducible first | exact HB.out | apply below_alloc | apply pw_below_drewN | apply below_drew1) | exact HB.out)⟩
       ·
        replace c17 := Bool.eq_false_iff.mpr c17
        subst c17
        have H1 : ((psychro_Dew.f kj14 a2).bind fun t187 => ((psychro_Saturation.f kj14 t187).bind fun t188 => (if (wrap64 (t188 - a2)) ≥ (-5) then (some (decide ((wrap64 (t188 - a2)) ≤ 5))) else (some false)))) = some r := by rw [if_neg (show ¬ (false = true) by decide)] at H; exact H
        clear H
        have H := H1
        clear H1
        replace H := Option.bind_eq_some_iff.mp H
        obtain ⟨t187, A280, H⟩ := H
        replace H : ((psychro_Saturation.f kj14 t187).bind fun t188 => (if (wrap64 (t188 - a2)) ≥ (-5) then (some (decide ((wrap64 (t188 - a2)) ≤ 5))) else (some false))) = some r := H
        have A28 := Aside0.mk A280
        clear A280
        replace H := Option.bind_eq_some_iff.mp H
        obtain ⟨t188, A290, H⟩ := H
        replace H : (if (wrap64 (t188 - a2)) ≥ (-5) then (some (decide ((wrap64 (t188 - a2)) ≤ 5))) else (some false)) = some r := H
        have A29 := Aside0.mk A290
        clear A290
        by_cases c30 : (wrap64 (t188 - a2)) ≥ (-5)
        ·
         rw [if_pos c30] at H
         have c30b0 : decide ((-5) ≤ (wrap64 (t188 - a2))) = true := decide_eq_true c30
         clear c30
         obtain rfl := Option.some.inj H
         go_wp2_with (first | ((with_reducible refine gate_callee (f := 13) rfl ?_); refine goesL_ (some 41) rfl rfl Tryd.func13 (by kernel_rfl) rfl #[.int .i64 a2] rfl (by (try simp only [List.map_toArray, List.map_cons, List.map_nil]); first | done | rfl | (simp only [List.length_drop, List.length_take]; rfl)) ?_; (with_reducible refine (psychro_Dew.calls kj14 a2 t187 _ ?sideL A28.out).mono ?_); (case sideL => exact LaidT.below HL.out (by repeat (first | (with_reducible first | exact HB.out | apply below_alloc | apply pw_below_drewN | apply below_drew1) | exact HB.out))); rintro e w31 ⟨rfl, hb⟩; refine ⟨_, rfl, ?_⟩; have n0_ := Aside0.mk (below_step (by repeat (first | (with_reducible first | exact HB.out | apply below_alloc | apply pw_below_drewN | apply below_drew1) | exact HB.out)) hb); clear HB; have HB := n0_; clear n0_; (try clear hb); (try clear hb2); (try clear hk); (try clear hi)) | ((with_reducible refine gate_callee (f := 15) rfl ?_); refine goesL_ (some 42) rfl rfl Tryd.func15 (by kernel_rfl) rfl #[.int .i64 t187] rfl (by (try simp only [List.map_toArray, List.map_cons, List.map_nil]); first | done | rfl | (simp only [List.length_drop, List.length_take]; rfl)) ?_; (with_reducible refine (psychro_Saturation.calls kj14 t187 t188 _ ?sideL A29.out).mono ?_); (case sideL => exact LaidT.below HL.out (by repeat (first | (with_reducible first | exact HB.out | apply below_alloc | apply pw_below_drewN | apply below_drew1) | exact HB.out))); rintro e w32 ⟨rfl, hb⟩; refine ⟨_, rfl, ?_⟩; have n0_ := Aside0.mk (below_step (by repeat (first | (with_reducible first | exact HB.out | apply below_alloc | apply pw_below_drewN | apply below_drew1) | exact HB.out)) hb); clear HB; have HB := n0_; clear n0_; (try clear hb); (try clear hb2); (try clear hk); (try clear hi)))
         go_ret
         exact ⟨by first | rfl | (simp [errW_none, errW_some] <;> rfl) | (simp [*, errW_none, errW_some] <;> rfl), by repeat (first | (with_reducible first | exact HB.out | apply below_alloc | apply pw_below_drewN | apply below_drew1) | exact HB.out)⟩
        ·
         rw [if_neg c30] at H
         have c30b0 : decide ((-5) ≤ (wrap64 (t188 - a2))) = false := decide_eq_false c30
         clear c30
         obtain rfl := Option.some.inj H
         go_wp2_with (first | ((with_reducible refine gate_callee (f := 13) rfl ?_); refine goesL_ (some 41) rfl rfl Tryd.func13 (by kernel_rfl) rfl #[.int .i64 a2] rfl (by (try simp only [List.map_toArray, List.map_cons, List.map_nil]); first | done | rfl | (simp only [List.length_drop, List.length_take]; rfl)) ?_; (with_reducible refine (psychro_Dew.calls kj14 a2 t187 _ ?sideL A28.out).mono ?_); (case sideL => exact LaidT.below HL.out (by repeat (first | (with_reducible first | exact HB.out | apply below_alloc | apply pw_below_drewN | apply below_drew1) | exact HB.out))); rintro e w33 ⟨rfl, hb⟩; refine ⟨_, rfl, ?_⟩; have n0_ := Aside0.mk (below_step (by repeat (first | (with_reducible first | exact HB.out | apply below_alloc | apply pw_below_drewN | apply below_drew1) | exact HB.out)) hb); clear HB; have HB := n0_; clear n0_; (try clear hb); (try clear hb2); (try clear hk); (try clear hi)) | ((with_reducible refine gate_callee (f := 15) rfl ?_); refine goesL_ (some 42) rfl rfl Tryd.func15 (by kernel_rfl) rfl #[.int .i64 t187] rfl (by (try simp only [List.map_toArray, List.map_cons, List.map_nil]); first | done | rfl | (simp only [List.length_drop, List.length_take]; rfl)) ?_; (with_reducible refine (psychro_Saturation.calls kj14 t187 t188 _ ?sideL A29.out).mono ?_); (case sideL => exact LaidT.below HL.out (by repeat (first | (with_reducible first | exact HB.out | apply below_alloc | apply pw_below_drewN | apply below_drew1) | exact HB.out))); rintro e w34 ⟨rfl, hb⟩; refine ⟨_, rfl, ?_⟩; have n0_ := Aside0.mk (below_step (by repeat (first | (with_reducible first | exact HB.out | apply below_alloc | apply pw_below_drewN | apply below_drew1) | exact HB.out)) hb); clear HB; have HB := n0_; clear n0_; (try clear hb); (try clear hb2); (try clear hk); (try clear hi)))
         go_ret
         exact ⟨by first | rfl | (simp [errW_none, errW_some] <;> rfl) | (simp [*, errW_none, errW_some] <;> rfl), by repeat (first | (with_reducible first | exact HB.out | apply below_alloc | apply pw_below_drewN | apply below_drew1) | exact HB.out)⟩
 ·
  replace c5 := Bool.eq_false_iff.mpr c5
  subst c5
  have H1 : (some false) = some r := by rw [if_neg (show ¬ (false = true) by decide)] at H; exact H
  clear H
  have H := H1
  clear H1
  obtain rfl := Option.some.inj H
  go_enter Tryd.func4, Tryd.ntmps4
  go_wp2_with (first | ((with_reducible refine gate_callee (f := 10) rfl ?_); refine goesL_ (some 8) rfl rfl Tryd.func10 (by kernel_rfl) rfl #[] rfl (by (try simp only [List.map_toArray, List.map_cons, List.map_nil]); first | done | rfl | (simp only [List.length_drop, List.length_take]; rfl)) ?_; (with_reducible refine (plenumlaw22_awake.calls  false _ ?sideL A4.out).mono ?_); (case sideL => exact LaidT.below HL.out (by repeat (first | (with_reducible first | exact HB.out | apply below_alloc | apply pw_below_drewN | apply below_drew1) | exact HB.out))); rintro e w35 ⟨rfl, hb⟩; refine ⟨_, rfl, ?_⟩; have n0_ := Aside0.mk (below_step (by repeat (first | (with_reducible first | exact HB.out | apply below_alloc | apply pw_below_drewN | apply below_drew1) | exact HB.out)) hb); clear HB; have HB := n0_; clear n0_; (try clear hb); (try clear hb2); (try clear hk); (try clear hi)))
  go_ret
  exact ⟨by first | rfl | (simp [errW_none, errW_some] <;> rfl) | (simp [*, errW_none, errW_some] <;> rfl), by repeat (first | (with_reducible first | exact HB.out | apply below_alloc | apply pw_below_drewN | apply below_drew1) | exact HB.out)⟩
/-- THE ONE PURE STATEMENT of plenumlaw22_PsychroDew: yours. -/
def plenumlaw22_PsychroDew.Pure : Prop := ∀ (a0 : Int) (a1 : Int) (a2 : Int), (Lit.int .i64 a0).wf = true → (Lit.int .i64 a1).wf = true → (Lit.int .i64 a2).wf = true → ∃ k, plenumlaw22_PsychroDew.f k a0 a1 a2 = some true
theorem plenumlaw22_PsychroDew.walk (P : plenumlaw22_PsychroDew.Pure) (a0 : Int) (a1 : Int) (a2 : Int) (w : World) (hL : LaidT w) (w0 : (Lit.int .i64 a0).wf = true) (w1 : (Lit.int .i64 a1).wf = true) (w2 : (Lit.int .i64 a2).wf = true) :
 Calls Tryd.prog 4 #[.int .i64 a0, .int .i64 a1, .int .i64 a2] w fun e w' => e = .returned (.bool true) ∧ Below w.heap.size w w' := by
 obtain ⟨k, h⟩ := P a0 a1 a2 w0 w1 w2
 refine (plenumlaw22_PsychroDew.calls k a0 a1 a2 true w hL h).mono ?_
 rintro e w' ⟨rfl, hd⟩
 exact ⟨rfl, hd⟩
end Go.Proofs.YtbfcplnaafnlhaaDoor.PT
