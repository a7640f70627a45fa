-- Laid by hp.py (a program of this session's) through the kit's printer. (squeezed)
import Derived.Test.YtbfcplnaafnlhaaDoorPTx0
import Derived.Test.YtbfcplnaafnlhaaDoorLaid
import Derived.Test.YtbfcplnaafnlhaaDoorPTx14
import Derived.Test.YtbfcplnaafnlhaaDoorPTx15
import Derived.Test.YtbfcplnaafnlhaaDoorPTx34
namespace Go.Proofs.YtbfcplnaafnlhaaDoor.PT
open Go.RowKit Go.Proofs.YtbfcplnaafnlhaaDoorW.PrintWords Go.Proofs.YtbfcplnaafnlhaaDoorW.PrintLast Go.Proofs.YtbfcplnaafnlhaaDoorW.PrintMore
attribute [local go_sem] max2_int min2_int max_two min_two max_three min_three max_four min_four   -- for this text's walks alone
set_option linter.unusedVariables false
set_option linter.unusedSimpArgs false
/-! ### plenumlaw22_PsychroInverse: function 7 -/
def plenumlaw22_PsychroInverse.j0 : Nat → Int → Int → Int → Bool → Option (Bool)
 | 0, _, _, _, _ => none
 | k + 1, x0, x1, x5, x19 => if x19 = true then (some false) else (if x5 < 200000 then ((psychro_Enthalpy.f k x5 x1).bind fun t284 => (if t284 < x0 then (some false) else (if x5 = (-100000) then (some true) else ((psychro_Enthalpy.f k (wrap64 (x5 - 1)) x1).bind fun t285 => (some (decide (t285 < x0))))))) else (if x5 = (-100000) then (some true) else ((psychro_Enthalpy.f k (wrap64 (x5 - 1)) x1).bind fun t286 => (some (decide (t286 < x0))))))
def plenumlaw22_PsychroInverse.f (k : Nat) (a0 : Int) (a1 : Int) : Option (Bool) := (plenumlaw22_awake.f).bind fun t282 => (if t282 = true then ((psychro_Temperature.f k (mx (-1000000000000) (mn 1000000000000 a0)) a1).bind fun t283 => (if t283 < (-100000) then (plenumlaw22_PsychroInverse.j0 k (mx (-1000000000000) (mn 1000000000000 a0)) a1 t283 true) else (plenumlaw22_PsychroInverse.j0 k (mx (-1000000000000) (mn 1000000000000 a0)) a1 t283 (decide (t283 > 200000))))) else (some false))
theorem plenumlaw22_PsychroInverse.mono_l : ∀ k, (∀ y0 y1 y2 y3, LeO (plenumlaw22_PsychroInverse.j0 k y0 y1 y2 y3) (plenumlaw22_PsychroInverse.j0 (k + 1) y0 y1 y2 y3))
 | 0 => fun _ _ _ _ r h => by simp [plenumlaw22_PsychroInverse.j0] at h
 | k + 1 => by
  have ih0 := plenumlaw22_PsychroInverse.mono_l k
  ·
   intro y0 y1 y2 y3
   unfold plenumlaw22_PsychroInverse.j0
   repeat' first
   | (with_reducible exact ih0 _ _ _ _)
   | (with_reducible exact psychro_Enthalpy.mono _ _ _)
   | (with_reducible exact psychro_Temperature.mono _ _ _)
   | (with_reducible exact LeO.refl _)
   | (with_reducible exact LeO.none _)
   | (with_reducible refine LeO.ite ?_ ?_)
   | (with_reducible refine LeO.bind ?_ (fun _ => ?_))
   | exact ih0 _ _ _ _
   | exact psychro_Enthalpy.mono _ _ _
   | exact psychro_Temperature.mono _ _ _
   | exact LeO.none _
   | refine LeO.ite ?_ ?_
   | refine LeO.bind ?_ (fun _ => ?_)
theorem plenumlaw22_PsychroInverse.mono : ∀ a0 a1 k, LeO (plenumlaw22_PsychroInverse.f k a0 a1) (plenumlaw22_PsychroInverse.f (k + 1) a0 a1) := by
 intro a0 a1 k
 have ih0 := plenumlaw22_PsychroInverse.mono_l k
 unfold plenumlaw22_PsychroInverse.f
 repeat' first
  | (with_reducible exact ih0 _ _ _ _)
  | (with_reducible exact psychro_Enthalpy.mono _ _ _)
  | (with_reducible exact psychro_Temperature.mono _ _ _)
  | (with_reducible exact LeO.refl _)
  | (with_reducible exact LeO.none _)
  | (with_reducible refine LeO.ite ?_ ?_)
  | (with_reducible refine LeO.bind ?_ (fun _ => ?_))
  | exact ih0 _ _ _ _
  | exact psychro_Enthalpy.mono _ _ _
  | exact psychro_Temperature.mono _ _ _
  | exact LeO.none _
  | refine LeO.ite ?_ ?_
  | refine LeO.bind ?_ (fun _ => ?_)
set_option maxHeartbeats 8000000 in
set_option maxRecDepth 100000 in
theorem plenumlaw22_PsychroInverse.calls (k : Nat) (a0 : Int) (a1 : Int) (r : Bool) (w : World) (hL : LaidT w) (h : plenumlaw22_PsychroInverse.f k a0 a1 = some r) :
 Calls Tryd.prog 7 #[.int .i64 a0, .int .i64 a1] w fun e w' => e = .returned (.bool r) ∧ Below w.heap.size w w' := by
 have HL := Aside0.mk hL
 have HB := Aside0.mk (Below.refl w.heap.size w)
 have H : ((plenumlaw22_awake.f).bind fun t282 => (if t282 = true then ((psychro_Temperature.f k (mx (-1000000000000) (mn 1000000000000 a0)) a1).bind fun t283 => (if t283 < (-100000) then (plenumlaw22_PsychroInverse.j0 k (mx (-1000000000000) (mn 1000000000000 a0)) a1 t283 true) else (plenumlaw22_PsychroInverse.j0 k (mx (-1000000000000) (mn 1000000000000 a0)) a1 t283 (decide (t283 > 200000))))) else (some false))) = some r := h
 clear h
 replace H := Option.bind_eq_some_iff.mp H
 obtain ⟨t282, A30, H⟩ := H
 replace H : (if t282 = true then ((psychro_Temperature.f k (mx (-1000000000000) (mn 1000000000000 a0)) a1).bind fun t283 => (if t283 < (-100000) then (plenumlaw22_PsychroInverse.j0 k (mx (-1000000000000) (mn 1000000000000 a0)) a1 t283 true) else (plenumlaw22_PsychroInverse.j0 k (mx (-1000000000000) (mn 1000000000000 a0)) a1 t283 (decide (t283 > 200000))))) else (some false)) = some r := H
 have A3 := Aside0.mk A30
 clear A30
 by_cases c4 : t282 = true
 ·
  subst c4
  have H1 : ((psychro_Temperature.f k (mx (-1000000000000) (mn 1000000000000 a0)) a1).bind fun t283 => (if t283 < (-100000) then (plenumlaw22_PsychroInverse.j0 k (mx (-1000000000000) (mn 1000000000000 a0)) a1 t283 true) else (plenumlaw22_PsychroInverse.j0 k (mx (-1000000000000) (mn 1000000000000 a0)) a1 t283 (decide (t283 > 200000))))) = some r := by rw [if_pos rfl] at H; exact H
  clear H
  have H := H1
  clear H1
  obtain ⟨ji5, hji5⟩ : ∃ j_ : Int, (mn 1000000000000 a0) = j_ := ⟨_, rfl⟩
  replace H : ((psychro_Temperature.f k (mx (-1000000000000) (ji5)) a1).bind fun t283 => (if t283 < (-100000) then (plenumlaw22_PsychroInverse.j0 k (mx (-1000000000000) (ji5)) a1 t283 true) else (plenumlaw22_PsychroInverse.j0 k (mx (-1000000000000) (ji5)) a1 t283 (decide (t283 > 200000))))) = some r := by first | (rw [hji5] at H; exact H) | (simp only [hji5] at H ⊢; exact H)
  (try rw [hji5] at A3)
  (try (have hji5h : ji5 ≤ 1000000000000 := by (rw [← hji5]; unfold mn; (repeat' split) <;> omega)))
  (try (have hji5g : ji5 ≤ 64 := by omega))
  have hji5_ : (if a0 < 1000000000000 then a0 else 1000000000000) = ji5 := hji5
  obtain ⟨ji6, hji6⟩ : ∃ j_ : Int, (mx (-1000000000000) (ji5)) = j_ := ⟨_, rfl⟩
  replace H : ((psychro_Temperature.f k (ji6) a1).bind fun t283 => (if t283 < (-100000) then (plenumlaw22_PsychroInverse.j0 k ji6 a1 t283 true) else (plenumlaw22_PsychroInverse.j0 k ji6 a1 t283 (decide (t283 > 200000))))) = some r := by first | (rw [hji6] at H; exact H) | (simp only [hji6] at H ⊢; exact H)
  (try rw [hji6] at A3)
  have hji6_ : (if (-1000000000000) < (ji5) then (ji5) else (-1000000000000)) = ji6 := hji6
  replace H := Option.bind_eq_some_iff.mp H
  obtain ⟨t283, A70, H⟩ := H
  replace H : (if t283 < (-100000) then (plenumlaw22_PsychroInverse.j0 k ji6 a1 t283 true) else (plenumlaw22_PsychroInverse.j0 k ji6 a1 t283 (decide (t283 > 200000)))) = some r := H
  have A7 := Aside0.mk A70
  clear A70
  have HC8 := Aside0.mk H
  clear H
  go_enter Tryd.func7, Tryd.ntmps7
  go_upto_region 5 with (first | ((with_reducible refine gate_callee (f := 10) rfl ?_); refine goesL_ (some 6) rfl rfl Tryd.func10 (by kernel_rfl) rfl #[] rfl (by (try simp only [List.map_toArray, List.map_cons, List.map_nil]); first | done | rfl | (simp only [List.length_drop, List.length_take]; rfl)) ?_; (with_reducible refine (plenumlaw22_awake.calls  true _ ?sideL A3.out).mono ?_); (case sideL => exact LaidT.below HL.out (by repeat (first | (with_reducible first | exact HB.out | apply below_alloc | apply pw_below_drewN | apply below_drew1) | exact HB.out))); rintro e w9 ⟨rfl, hb⟩; refine ⟨_, rfl, ?_⟩; have n0_ := Aside0.mk (below_step (by repeat (first | (with_reducible first | exact HB.out | apply below_alloc | apply pw_below_drewN | apply below_drew1) | exact HB.out)) hb); clear HB; have HB := n0_; clear n0_; (try clear hb); (try clear hb2); (try clear hk); (try clear hi)) | ((with_reducible refine gate_callee (f := 22) rfl ?_); refine goesL_ (some 13) rfl rfl Tryd.func22 (by kernel_rfl) rfl #[.int .i64 ji6, .int .i64 a1] rfl (by (try simp only [List.map_toArray, List.map_cons, List.map_nil]); first | done | (simp only [hji6]; rfl) | rfl | (simp only [List.length_drop, List.length_take]; rfl)) ?_; (with_reducible refine (psychro_Temperature.calls k ji6 a1 t283 _ A7.out).mono ?_); rintro e w10 ⟨rfl, hb⟩; refine ⟨_, rfl, ?_⟩; have n0_ := Aside0.mk (below_step (by repeat (first | (with_reducible first | exact HB.out | apply below_alloc | apply pw_below_drewN | apply below_drew1) | exact HB.out)) hb); clear HB; have HB := n0_; clear n0_; (try clear hb); (try clear hb2); (try clear hk); (try clear hi)))
  (try simp only [Act.put, List.setIfInBounds_toArray, List.set_cons_zero, List.set_cons_succ])
  go_cut [19] (fun v19 wc => ∃ (kq : Nat) (x19_7 : Bool), v19 = .bool x19_7 ∧ Aside0 (plenumlaw22_PsychroInverse.j0 kq ji6 a1 t283 x19_7 = some r) ∧ Aside0 (kq ≤ k) ∧ Aside0 (Below w.heap.size w wc))
  case first =>
   have H := HC8.out
   clear HC8
   by_cases c11 : t283 < (-100000)
   ·
    rw [if_pos c11] at H
    have c11b0 : decide (t283 < (-100000)) = true := decide_eq_true c11
    clear c11
    (first | rw [c11b0] | (simp only [i64_w, i32_w]; rw [c11b0]) | skip)
    have H' := Aside0.mk H
    clear H
    go_wp2
    go_meet
    case rel => exact ⟨_, (true), (by first | rfl | (simp; done) | (simp [*]; done)), H', ⟨by first | omega | exact Nat.le_refl _⟩, ⟨by repeat (first | (with_reducible first | exact HB.out | apply below_alloc | apply pw_below_drewN | apply below_drew1) | exact HB.out)⟩⟩
   ·
    rw [if_neg c11] at H
    have c11b0 : decide (t283 < (-100000)) = false := decide_eq_false c11
    clear c11
    (first | rw [c11b0] | (simp only [i64_w, i32_w]; rw [c11b0]) | skip)
    have H' := Aside0.mk H
    clear H
    go_wp2
    go_meet
    case rel => exact ⟨_, (decide (t283 > 200000)), (by first | rfl | (simp; done) | (simp [*]; done)), H', ⟨by first | omega | exact Nat.le_refl _⟩, ⟨by repeat (first | (with_reducible first | exact HB.out | apply below_alloc | apply pw_below_drewN | apply below_drew1) | exact HB.out)⟩⟩
  case rest =>
   clear HC8
   try clear c1
   try clear c2
   try clear p2
   try clear c4
   try clear c7
   try clear c10
   try clear c11
   try clear c11b0
   obtain ⟨kq, x19_7, rfl, HA, HJ7, HB⟩ := hcut
   cases kq with
   | zero => exact absurd HA.out (by simp [plenumlaw22_PsychroInverse.j0])
   | succ kj7 =>
    have H := HA.out
    clear HA
    simp only [plenumlaw22_PsychroInverse.j0] at H
    by_cases c12 : x19_7 = true
    ·
     subst c12
     have H1 : (some false) = some r := by rw [if_pos rfl] at H; exact H
     clear H
     have H := H1
     clear H1
     obtain rfl := Option.some.inj H
     go_wp2
     go_ret
     exact ⟨by first | rfl | (simp [errW_none, errW_some] <;> rfl) | (simp only [← hji5, ← hji6]; first | rfl | (simp [errW_none, errW_some] <;> rfl)) | (simp [*, errW_none, errW_some] <;> rfl), by repeat (first | (with_reducible first | exact HB.out | apply below_alloc | apply pw_below_drewN | apply below_drew1) | exact HB.out)⟩
    ·
     replace c12 := Bool.eq_false_iff.mpr c12
     subst c12
     have H1 : (if t283 < 200000 then ((psychro_Enthalpy.f kj7 t283 a1).bind fun t284 => (if t284 < ji6 then (some false) else (if t283 = (-100000) then (some true) else ((psychro_Enthalpy.f kj7 (wrap64 (t283 - 1)) a1).bind fun t285 => (some (decide (t285 < ji6))))))) else (if t283 = (-100000) then (some true) else ((psychro_Enthalpy.f kj7 (wrap64 (t283 - 1)) a1).bind fun t286 => (some (decide (t286 < ji6)))))) = some r := by rw [if_neg (show ¬ (false = true) by decide)] at H; exact H
     clear H
     have H := H1
     clear H1
     by_cases c13 : t283 < 200000
     ·
      rw [if_pos c13] at H
      have c13b0 : decide (t283 < 200000) = true := decide_eq_true c13
      clear c13
      replace H := Option.bind_eq_some_iff.mp H
      obtain ⟨t284, A140, H⟩ := H
      replace H : (if t284 < ji6 then (some false) else (if t283 = (-100000) then (some true) else ((psychro_Enthalpy.f kj7 (wrap64 (t283 - 1)) a1).bind fun t285 => (some (decide (t285 < ji6)))))) = some r := H
      have A14 := Aside0.mk A140
      clear A140
      by_cases c15 : t284 < ji6
      ·
       rw [if_pos c15] at H
       have c15b0 : decide (t284 < ji6) = true := decide_eq_true c15
       clear c15
       obtain rfl := Option.some.inj H
       go_wp2_with (first | (go_at_call 21; (with_reducible refine (psychro_Enthalpy.calls kj7 t283 a1 t284 _ A14.out).mono ?_); rintro e w16 ⟨rfl, hb⟩; have n0_ := Aside0.mk (below_step (by repeat (first | (with_reducible first | exact HB.out | apply below_alloc | apply pw_below_drewN | apply below_drew1) | exact HB.out)) hb); clear HB; have HB := n0_; clear n0_; (try clear hb); (try clear hb2); (try clear hk); (try clear hi)))
       go_ret
       exact ⟨by first | rfl | (simp [errW_none, errW_some] <;> rfl) | (simp only [← hji5, ← hji6]; first | rfl | (simp [errW_none, errW_some] <;> rfl)) | (simp [*, errW_none, errW_some] <;> rfl), by repeat (first | (with_reducible first | exact HB.out | apply below_alloc | apply pw_below_drewN | apply below_drew1) | exact HB.out)⟩
      ·
       rw [if_neg c15] at H
       have c15b0 : decide (t284 < ji6) = false := decide_eq_false c15
       clear c15
       by_cases c17 : t283 = (-100000)
       ·
        rw [if_pos c17] at H
        have c17b0 : (t283 == (-100000)) = true := beq_iff_eq.mpr c17
        have c17b1 : (t283 != (-100000)) = false := bne_eq_false_iff_eq.mpr c17
        clear c17
        obtain rfl := Option.some.inj H
        go_wp2_with (first | (go_at_call 21; (with_reducible refine (psychro_Enthalpy.calls kj7 t283 a1 t284 _ A14.out).mono ?_); rintro e w18 ⟨rfl, hb⟩; have n0_ := Aside0.mk (below_step (by repeat (first | (with_reducible first | exact HB.out | apply below_alloc | apply pw_below_drewN | apply below_drew1) | exact HB.out)) hb); clear HB; have HB := n0_; clear n0_; (try clear hb); (try clear hb2); (try clear hk); (try clear hi)))
        go_ret
        exact ⟨by first | rfl | (simp [errW_none, errW_some] <;> rfl) | (simp only [← hji5, ← hji6]; first | rfl | (simp [errW_none, errW_some] <;> rfl)) | (simp [*, errW_none, errW_some] <;> rfl), by repeat (first | (with_reducible first | exact HB.out | apply below_alloc | apply pw_below_drewN | apply below_drew1) | exact HB.out)⟩
       ·
        rw [if_neg c17] at H
        have c17b0 : (t283 == (-100000)) = false := beq_eq_false_iff_ne.mpr c17
        have c17b1 : (t283 != (-100000)) = true := bne_iff_ne.mpr c17
        replace H := Option.bind_eq_some_iff.mp H
        obtain ⟨t285, A190, H⟩ := H
        replace H : (some (decide (t285 < ji6))) = some r := H
        have A19 := Aside0.mk A190
        clear A190
        obtain rfl := Option.some.inj H
        go_wp2_with (first | (go_at_call 21; (with_reducible refine (psychro_Enthalpy.calls kj7 t283 a1 t284 _ A14.out).mono ?_); rintro e w20 ⟨rfl, hb⟩; have n0_ := Aside0.mk (below_step (by repeat (first | (with_reducible first | exact HB.out | apply below_alloc | apply pw_below_drewN | apply below_drew1) | exact HB.out)) hb); clear HB; have HB := n0_; clear n0_; (try clear hb); (try clear hb2); (try clear hk); (try clear hi)) | (go_at_call 21; (first | (with_reducible refine (psychro_Enthalpy.calls kj7 (wrap64 (t283 - 1)) a1 t285 _ A19.out).mono ?_) | (simp only [i64_w, i32_w]; with_reducible refine (psychro_Enthalpy.calls kj7 (wrap64 (t283 - 1)) a1 t285 _ A19.out).mono ?_)); rintro e w21 ⟨rfl, hb⟩; have n0_ := Aside0.mk (below_step (by repeat (first | (with_reducible first | exact HB.out | apply below_alloc | apply pw_below_drewN | apply below_drew1) | exact HB.out)) hb); clear HB; have HB := n0_; clear n0_; (try clear hb); (try clear hb2); (try clear hk); (try clear hi)))
        go_ret
        exact ⟨by first | rfl | (simp [errW_none, errW_some] <;> rfl) | (simp only [← hji5, ← hji6]; first | rfl | (simp [errW_none, errW_some] <;> rfl)) | (simp [*, errW_none, errW_some] <;> rfl), by repeat (first | (with_reducible first | exact HB.out | apply below_alloc | apply pw_below_drewN | apply below_drew1) | exact HB.out)⟩
     ·
      rw [if_neg c13] at H
      have c13b0 : decide (t283 < 200000) = false := decide_eq_false c13
      clear c13
      by_cases c22 : t283 = (-100000)
      ·
       rw [if_pos c22] at H
       have c22b0 : (t283 == (-100000)) = true := beq_iff_eq.mpr c22
       have c22b1 : (t283 != (-100000)) = false := bne_eq_false_iff_eq.mpr c22
       clear c22
       obtain rfl := Option.some.inj H
       go_wp2
       go_ret
       exact ⟨by first | rfl | (simp [errW_none, errW_some] <;> rfl) | (simp only [← hji5, ← hji6]; first | rfl | (simp [errW_none, errW_some] <;> rfl)) | (simp [*, errW_none, errW_some] <;> rfl), by repeat (first | (with_reducible first | exact HB.out | apply below_alloc | apply pw_below_drewN | apply below_drew1) | exact HB.out)⟩
      ·
       rw [if_neg c22] at H
       have c22b0 : (t283 == (-100000)) = false := beq_eq_false_iff_ne.mpr c22
       have c22b1 : (t283 != (-100000)) = true := bne_iff_ne.mpr c22
       replace H := Option.bind_eq_some_iff.mp H
       obtain ⟨t286, A230, H⟩ := H
       replace H : (some (decide (t286 < ji6))) = some r := H
       have A23 := Aside0.mk A230
       clear A230
       obtain rfl := Option.some.inj H
       go_wp2_with (first | (go_at_call 21; (first | (with_reducible refine (psychro_Enthalpy.calls kj7 (wrap64 (t283 - 1)) a1 t286 _ A23.out).mono ?_) | (simp only [i64_w, i32_w]; with_reducible refine (psychro_Enthalpy.calls kj7 (wrap64 (t283 - 1)) a1 t286 _ A23.out).mono ?_)); rintro e w24 ⟨rfl, hb⟩; have n0_ := Aside0.mk (below_step (by repeat (first | (with_reducible first | exact HB.out | apply below_alloc | apply pw_below_drewN | apply below_drew1) | exact HB.out)) hb); clear HB; have HB := n0_; clear n0_; (try clear hb); (try clear hb2); (try clear hk); (try clear hi)))
       go_ret
       exact ⟨by first | rfl | (simp [errW_none, errW_some] <;> rfl) | (simp only [← hji5, ← hji6]; first | rfl | (simp [errW_none, errW_some] <;> rfl)) | (simp [*, errW_none, errW_some] <;> rfl), by repeat (first | (with_reducible first | exact HB.out | apply below_alloc | apply pw_below_drewN | apply below_drew1) | exact HB.out)⟩
 ·
  replace c4 := Bool.eq_false_iff.mpr c4
  subst c4
  have H1 : (some false) = some r := by rw [if_neg (show ¬ (false = true) by decide)] at H; exact H
  clear H
  have H := H1
  clear H1
  obtain rfl := Option.some.inj H
  go_enter Tryd.func7, Tryd.ntmps7
  go_wp2_with (first | ((with_reducible refine gate_callee (f := 10) rfl ?_); refine goesL_ (some 6) rfl rfl Tryd.func10 (by kernel_rfl) rfl #[] rfl (by (try simp only [List.map_toArray, List.map_cons, List.map_nil]); first | done | rfl | (simp only [List.length_drop, List.length_take]; rfl)) ?_; (with_reducible refine (plenumlaw22_awake.calls  false _ ?sideL A3.out).mono ?_); (case sideL => exact LaidT.below HL.out (by repeat (first | (with_reducible first | exact HB.out | apply below_alloc | apply pw_below_drewN | apply below_drew1) | exact HB.out))); rintro e w25 ⟨rfl, hb⟩; refine ⟨_, rfl, ?_⟩; have n0_ := Aside0.mk (below_step (by repeat (first | (with_reducible first | exact HB.out | apply below_alloc | apply pw_below_drewN | apply below_drew1) | exact HB.out)) hb); clear HB; have HB := n0_; clear n0_; (try clear hb); (try clear hb2); (try clear hk); (try clear hi)))
  go_ret
  exact ⟨by first | rfl | (simp [errW_none, errW_some] <;> rfl) | (simp [*, errW_none, errW_some] <;> rfl), by repeat (first | (with_reducible first | exact HB.out | apply below_alloc | apply pw_below_drewN | apply below_drew1) | exact HB.out)⟩
/-- THE ONE PURE STATEMENT of plenumlaw22_PsychroInverse: yours. -/
def plenumlaw22_PsychroInverse.Pure : Prop := ∀ (a0 : Int) (a1 : Int), (Lit.int .i64 a0).wf = true → (Lit.int .i64 a1).wf = true → ∃ k, plenumlaw22_PsychroInverse.f k a0 a1 = some true
theorem plenumlaw22_PsychroInverse.walk (P : plenumlaw22_PsychroInverse.Pure) (a0 : Int) (a1 : Int) (w : World) (hL : LaidT w) (w0 : (Lit.int .i64 a0).wf = true) (w1 : (Lit.int .i64 a1).wf = true) :
 Calls Tryd.prog 7 #[.int .i64 a0, .int .i64 a1] w fun e w' => e = .returned (.bool true) ∧ Below w.heap.size w w' := by
 obtain ⟨k, h⟩ := P a0 a1 w0 w1
 refine (plenumlaw22_PsychroInverse.calls k a0 a1 true w hL h).mono ?_
 rintro e w' ⟨rfl, hd⟩
 exact ⟨rfl, hd⟩
end Go.Proofs.YtbfcplnaafnlhaaDoor.PT
