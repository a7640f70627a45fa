-- Laid by hp.py (a program of this session's) through the kit's printer. (squeezed)
import Derived.Test.YtacheoimnckghaaPTx0
import Derived.Test.YtacheoimnckghaaPTx4
import Derived.Test.YtacheoimnckghaaPTx8
namespace Go.Proofs.Ytacheoimnckghaa.PT
open Go.RowKit Go.Proofs.YtacheoimnckghaaW.PrintWords Go.Proofs.YtacheoimnckghaaW.PrintLast Go.Proofs.YtacheoimnckghaaW.PrintMore
attribute [local go_sem] max2_int min2_int max_two min_two max_three min_three max_four min_four   -- for this text's walks alone
set_option linter.unusedVariables false
set_option linter.unusedSimpArgs false
/-! ### curve_Shift: function 12 -/
def curve_Shift.l0 : Nat → Int → Int → List (S50) → Int → Int → Option ((List (S50)) × Int)
 | 0, _, _, _, _, _ => none
 | k + 1, x1, x2, x9, x29, x30 => if x30 < x29 then (if 0 ≤ x30 then (if x30 < (x9.length : Int) then ((some (x9.set (x30 : Int).toNat (⟨wrap64 (((rd_T50 x9 x30).f0) + x1), (rd_T50 x9 x30).f1⟩ : S50) : List (S50))).bind fun y251 => ((some (y251.set (x30 : Int).toNat (⟨(rd_T50 y251 x30).f0, wrap64 (((rd_T50 y251 x30).f1) + x2)⟩ : S50) : List (S50))).bind fun y253 => ((curve_inside.f ((rd_T50 y253 x30).f0)).bind fun t255 => (if t255 = true then ((curve_inside.f ((rd_T50 y253 x30).f1)).bind fun t257 => (if t257 = true then (curve_Shift.l0 k x1 x2 y253 x29 (wrap64 (x30 + 1))) else (some (([] : List (S50)), 6)))) else (some (([] : List (S50)), 6)))))) else (none)) else (none)) else (some (x9, 0))
def curve_Shift.f (k : Nat) (l0 : List (S50)) (a1 : Int) (a2 : Int) : Option ((List (S50)) × Int) := (curve_Check.f k l0).bind fun t244 => (if t244 = 0 then (if 0 ≤ (l0.length : Int) then (if ((l0.length : Int) : Int).toNat ≤ 17592186044416 then ((some (List.replicate ((l0.length : Int) : Int).toNat z50 : List (S50))).bind fun y245 => ((copyKnots.f y245 l0).bind fun bt248 => (curve_Shift.l0 k (mx (-2000000000001) (mn 2000000000001 a1)) (mx (-2000000000001) (mn 2000000000001 a2)) bt248.2 (y245.length : Int) 0))) else (none)) else (none)) else (some (([] : List (S50)), t244)))
theorem curve_Shift.mono_l : ∀ k, (∀ y0 y1 y2 y3 y4, LeO (curve_Shift.l0 k y0 y1 y2 y3 y4) (curve_Shift.l0 (k + 1) y0 y1 y2 y3 y4))
 | 0 => fun _ _ _ _ _ r h => by simp [curve_Shift.l0] at h
 | k + 1 => by
  have ih0 := curve_Shift.mono_l k
  ·
   intro y0 y1 y2 y3 y4
   unfold curve_Shift.l0
   repeat' first
   | (with_reducible exact ih0 _ _ _ _ _)
   | (with_reducible exact curve_Check.mono _ _)
   | (with_reducible exact LeO.refl _)
   | (with_reducible exact LeO.none _)
   | (with_reducible refine LeO.ite ?_ ?_)
   | (with_reducible refine LeO.bind ?_ (fun _ => ?_))
   | exact ih0 _ _ _ _ _
   | exact curve_Check.mono _ _
   | exact LeO.none _
   | refine LeO.ite ?_ ?_
   | refine LeO.bind ?_ (fun _ => ?_)
theorem curve_Shift.mono : ∀ a0 a1 a2 k, LeO (curve_Shift.f k a0 a1 a2) (curve_Shift.f (k + 1) a0 a1 a2) := by
 intro a0 a1 a2 k
 have ih0 := curve_Shift.mono_l k
 unfold curve_Shift.f
 repeat' first
  | (with_reducible exact ih0 _ _ _ _ _)
  | (with_reducible exact curve_Check.mono _ _)
  | (with_reducible exact LeO.refl _)
  | (with_reducible exact LeO.none _)
  | (with_reducible refine LeO.ite ?_ ?_)
  | (with_reducible refine LeO.bind ?_ (fun _ => ?_))
  | exact ih0 _ _ _ _ _
  | exact curve_Check.mono _ _
  | exact LeO.none _
  | refine LeO.ite ?_ ?_
  | refine LeO.bind ?_ (fun _ => ?_)
set_option maxHeartbeats 8000000 in
set_option maxRecDepth 100000 in
theorem curve_Shift.calls (k : Nat) (A0 : Option Addr) (c0 : Nat) (l0 : List (S50)) (a1 : Int) (a2 : Int) (r1 : List (S50)) (r2 : Int) (w : World) (hr0 : Kd.C k50 w A0 l0.length l0) (hc0 : l0.length ≤ c0) (h : curve_Shift.f k l0 a1 a2 = some (r1, r2)) :
 Calls Try.prog 12 #[.slice A0 l0.length c0, .int .i64 a1, .int .i64 a2] w fun e w' => ∃ v0_ : Value, e = .returned (.tuple #[v0_, .int .i64 r2]) ∧ Kd.R k50 50 w' w.heap.size (fun _ => True) v0_ r1 ∧ Below w.heap.size w w' := by
 have HR0 := Aside0.mk hr0
 have HC0 := Aside0.mk hc0
 clear hr0 hc0
 have HB := Aside0.mk (Below.refl w.heap.size w)
 have H : ((curve_Check.f k l0).bind fun t244 => (if t244 = 0 then (if 0 ≤ (l0.length : Int) then (if ((l0.length : Int) : Int).toNat ≤ 17592186044416 then ((some (List.replicate ((l0.length : Int) : Int).toNat z50 : List (S50))).bind fun y245 => ((copyKnots.f y245 l0).bind fun bt248 => (curve_Shift.l0 k (mx (-2000000000001) (mn 2000000000001 a1)) (mx (-2000000000001) (mn 2000000000001 a2)) bt248.2 (y245.length : Int) 0))) else (none)) else (none)) else (some (([] : List (S50)), t244)))) = some (r1, r2) := h
 clear h
 replace H := Option.bind_eq_some_iff.mp H
 obtain ⟨t244, A40, H⟩ := H
 replace H : (if t244 = 0 then (if 0 ≤ (l0.length : Int) then (if ((l0.length : Int) : Int).toNat ≤ 17592186044416 then ((some (List.replicate ((l0.length : Int) : Int).toNat z50 : List (S50))).bind fun y245 => ((copyKnots.f y245 l0).bind fun bt248 => (curve_Shift.l0 k (mx (-2000000000001) (mn 2000000000001 a1)) (mx (-2000000000001) (mn 2000000000001 a2)) bt248.2 (y245.length : Int) 0))) else (none)) else (none)) else (some (([] : List (S50)), t244))) = some (r1, r2) := H
 have A4 := Aside0.mk A40
 clear A40
 by_cases c5 : t244 = 0
 ·
  rw [if_pos c5] at H
  have c5b0 : (t244 == 0) = true := beq_iff_eq.mpr c5
  have c5b1 : (t244 != 0) = false := bne_eq_false_iff_eq.mpr c5
  clear c5
  obtain ⟨ji6, hji6⟩ : ∃ j_ : Int, (mn 2000000000001 a1) = j_ := ⟨_, rfl⟩
  replace H : (if 0 ≤ (l0.length : Int) then (if ((l0.length : Int) : Int).toNat ≤ 17592186044416 then ((some (List.replicate ((l0.length : Int) : Int).toNat z50 : List (S50))).bind fun y245 => ((copyKnots.f y245 l0).bind fun bt248 => (curve_Shift.l0 k (mx (-2000000000001) (ji6)) (mx (-2000000000001) (mn 2000000000001 a2)) bt248.2 (y245.length : Int) 0))) else (none)) else (none)) = some (r1, r2) := by first | (rw [hji6] at H; exact H) | (simp only [hji6] at H ⊢; exact H)
  (try rw [hji6] at A4)
  (try (have hji6h : ji6 ≤ 2000000000001 := by (rw [← hji6]; unfold mn; (repeat' split) <;> omega)))
  (try (have hji6g : ji6 ≤ 64 := by omega))
  have hji6_ : (if a1 < 2000000000001 then a1 else 2000000000001) = ji6 := hji6
  obtain ⟨ji7, hji7⟩ : ∃ j_ : Int, (mx (-2000000000001) (ji6)) = j_ := ⟨_, rfl⟩
  replace H : (if 0 ≤ (l0.length : Int) then (if ((l0.length : Int) : Int).toNat ≤ 17592186044416 then ((some (List.replicate ((l0.length : Int) : Int).toNat z50 : List (S50))).bind fun y245 => ((copyKnots.f y245 l0).bind fun bt248 => (curve_Shift.l0 k ji7 (mx (-2000000000001) (mn 2000000000001 a2)) bt248.2 (y245.length : Int) 0))) else (none)) else (none)) = some (r1, r2) := by first | (rw [hji7] at H; exact H) | (simp only [hji7] at H ⊢; exact H)
  (try rw [hji7] at A4)
  have hji7_ : (if (-2000000000001) < (ji6) then (ji6) else (-2000000000001)) = ji7 := hji7
  obtain ⟨ji8, hji8⟩ : ∃ j_ : Int, (mn 2000000000001 a2) = j_ := ⟨_, rfl⟩
  replace H : (if 0 ≤ (l0.length : Int) then (if ((l0.length : Int) : Int).toNat ≤ 17592186044416 then ((some (List.replicate ((l0.length : Int) : Int).toNat z50 : List (S50))).bind fun y245 => ((copyKnots.f y245 l0).bind fun bt248 => (curve_Shift.l0 k ji7 (mx (-2000000000001) (ji8)) bt248.2 (y245.length : Int) 0))) else (none)) else (none)) = some (r1, r2) := by first | (rw [hji8] at H; exact H) | (simp only [hji8] at H ⊢; exact H)
  (try rw [hji8] at A4)
  (try (have hji8h : ji8 ≤ 2000000000001 := by (rw [← hji8]; unfold mn; (repeat' split) <;> omega)))
  (try (have hji8g : ji8 ≤ 64 := by omega))
  have hji8_ : (if a2 < 2000000000001 then a2 else 2000000000001) = ji8 := hji8
  obtain ⟨ji9, hji9⟩ : ∃ j_ : Int, (mx (-2000000000001) (ji8)) = j_ := ⟨_, rfl⟩
  replace H : (if 0 ≤ (l0.length : Int) then (if ((l0.length : Int) : Int).toNat ≤ 17592186044416 then ((some (List.replicate ((l0.length : Int) : Int).toNat z50 : List (S50))).bind fun y245 => ((copyKnots.f y245 l0).bind fun bt248 => (curve_Shift.l0 k ji7 ji9 bt248.2 (y245.length : Int) 0))) else (none)) else (none)) = some (r1, r2) := by first | (rw [hji9] at H; exact H) | (simp only [hji9] at H ⊢; exact H)
  (try rw [hji9] at A4)
  have hji9_ : (if (-2000000000001) < (ji8) then (ji8) else (-2000000000001)) = ji9 := hji9
  by_cases c10 : 0 ≤ (l0.length : Int)
  ·
   rw [if_pos c10] at H
   have c10b0 := eq_true c10
   have c10b1 : decide (0 ≤ (l0.length : Int)) = true := decide_eq_true c10
   clear c10
   by_cases c11 : ((l0.length : Int) : Int).toNat ≤ 17592186044416
   ·
    rw [if_pos c11] at H
    have c11b0 := eq_true c11
    have c11b1 : decide (((l0.length : Int) : Int).toNat ≤ 17592186044416) = true := decide_eq_true c11
    clear c11
    obtain ⟨y245, hy245⟩ : ∃ y_ : List (S50), y_ = (List.replicate ((l0.length : Int) : Int).toNat z50) := ⟨_, rfl⟩
    replace H : ((copyKnots.f y245 l0).bind fun bt248 => (curve_Shift.l0 k ji7 ji9 bt248.2 (y245.length : Int) 0)) = some (r1, r2) := by first | (rw [hy245]; with_reducible exact H) | (have H2_ := (Option.bind_some _ _).symm.trans H; rw [hy245]; with_reducible exact H2_) | (have H2_ := (Option.bind_some _ _).symm.trans H; with_reducible exact H2_) | with_reducible exact H | (rw [hy245]; exact H) | exact H
    have Ny245 := Aside0.mk hy245
    clear hy245
    replace H := Option.bind_eq_some_iff.mp H
    obtain ⟨⟨t248, t249⟩, A120, H⟩ := H
    replace H : (curve_Shift.l0 k ji7 ji9 t249 (y245.length : Int) 0) = some (r1, r2) := H
    have A12 := Aside0.mk A120
    clear A120
    have H' := Aside0.mk H
    clear H
    go_enter Try.func12, Try.ntmps12
    go_wp2_with (first | ((with_reducible refine gate_callee (f := 22) rfl ?_); refine goesL_ (some 12) rfl rfl Try.func22 (by kernel_rfl) rfl #[.slice A0 l0.length c0] rfl (by (try simp only [List.map_toArray, List.map_cons, List.map_nil]); first | done | rfl | (simp only [List.length_drop, List.length_take]; rfl)) ?_; (with_reducible refine (curve_Check.calls k _ _ l0 t244 _ ?side1 ?side2 A4.out).mono ?_); (case side1 => repeat (first | exact HR0.out | (with_reducible refine Kd.C_alloc ?_ _) | (with_reducible refine Kd.C_drewN ?_ _) | (with_reducible refine Kd.C_drew ?_))); (case side2 => exact HC0.out); rintro e w13 ⟨rfl, hb⟩; refine ⟨_, rfl, ?_⟩; have n0_ := Aside0.mk (below_step (by repeat (first | (with_reducible first | exact HB.out | apply below_alloc | apply pw_below_drewN | apply below_drew1) | exact HB.out)) hb); clear HB; have HB := n0_; clear n0_; (try clear hb); (try clear hb2); (try clear hk); (try clear hi)) | ((with_reducible refine gate_dst (N := 24) rfl ?_); refine Kd.R_make k50 _ 50 rfl (N := 24) rfl 22 _ _ rfl (l0.length : Int) rfl rfl Try.underlying22 (.agg #[(.int .i64 0), (.int .i64 0)]) 16 info50 rfl (by decide) (by omega) z50 (ok := fun _ => True) (okp := fun _ => True) (k50_mkM _ _ _ z50 ) (fun _ hk => hk) trivial (of_decide_eq_true (by first | (with_reducible assumption) | assumption)) (Nat.le_trans (Nat.mul_le_mul_right _ (of_decide_eq_true (by first | (with_reducible assumption) | assumption) : (l0.length : Int).toNat ≤ 17592186044416)) (by omega)) (Below.refl _ _) (Nat.le_refl _) ?_; intro v246 w14 ho15 hb hg_ hnew_; clear hg_ hnew_; (first | rw [← Ny245.out] at ho15 | (simp only [Int.reduceToNat] at ho15; rw [← Ny245.out] at ho15)); have n0_ := Aside0.mk (Kd.R_lower ho15 (below_size (by repeat (first | (with_reducible first | exact HB.out | apply below_alloc | apply pw_below_drewN | apply below_drew1) | exact HB.out)))); have n1_ := Aside0.mk (below_step (by repeat (first | (with_reducible first | exact HB.out | apply below_alloc | apply pw_below_drewN | apply below_drew1) | exact HB.out)) hb); clear HB; have HO247 := n0_; have HB := n1_; clear n0_ n1_; clear hb ho15; obtain ⟨Ao16, co16, eo16⟩ := Kd.R_slice HO247.out; subst eo16) | ((with_reducible refine gate_builtin (b := .copy) rfl ?_); refine goesB_ (some 27) rfl rfl _ _ #[22, 22] 3 rfl (.slice Ao16 y245.length co16) (.slice A0 l0.length c0) rfl (by first | rfl | (go_simp; done)) (by first | rfl | (go_simp; done)) ?_; (with_reducible refine (copyKnots.calls (fun k_ => some k_ = (.slice Ao16 y245.length co16 : Value).ownBlock) (.slice Ao16 y245.length co16) y245 _ _ l0 t248 t249 w _ ?side1 ?side2 ?side3 ?side4 A12.out).mono ?_); (case side1 => repeat (first | (with_reducible first | exact HB.out | apply below_alloc | apply pw_below_drewN | apply below_drew1) | exact HB.out)); (case side2 => exact Kd.R_tight rfl HO247.out); (case side3 => exact Kd.C_kept_came k50_heap HR0.out (by repeat (first | (with_reducible first | exact HB.out | apply below_alloc | apply pw_below_drewN | apply below_drew1) | exact HB.out)) (fun k_ hs_ => (fun e_ => Kd.R_base HO247.out k_ e_.symm) hs_)); (case side4 => exact HC0.out); rintro e w17 ⟨rfl, hy0, hb, hkp⟩; refine ⟨_, rfl, ?_⟩; have n0_ := Aside0.mk (Kd.R_reok rfl hy0 (fun k_ e_ => HO247.out.1 k_ e_)); have n1_ := Aside0.mk (hb); clear HO247; clear HB; have HO247 := n0_; have HB := n1_; clear n0_ n1_; (try clear hb); (try clear hkp); (try clear hy0)))
    go_loopg [30] k (fun kq v30 w' => ∃ (x9_1 : List (S50)) (x30_1 : Int), v30 = .int .i64 x30_1 ∧ Aside0 (curve_Shift.l0 kq ji7 ji9 x9_1 (y245.length : Int) x30_1 = some (r1, r2)) ∧ Aside0 (kq ≤ k) ∧ Aside0 (Kd.R k50 50 w' w.heap.size (fun _ => True) (.slice Ao16 y245.length co16) x9_1) ∧ Aside0 (Below w.heap.size w w'))
    case atStart => exact ⟨(t249), (0), (by first | rfl | (simp; done) | (simp [*]; done)), H', ⟨Nat.le_refl _⟩, ⟨by (with_reducible repeat (first | apply Kd.R_alloc | apply Kd.R_drewN | apply Kd.R_drew)); exact HO247.out⟩, ⟨by repeat (first | (with_reducible first | exact HB.out | apply below_alloc | apply pw_below_drewN | apply below_drew1) | exact HB.out)⟩⟩
    case round =>
     clear H'
     try clear c1
     try clear c2
     try clear p2
     try clear c5
     try clear c5b0
     try clear c5b1
     try clear c7
     try clear c10
     try clear c10b0
     try clear c10b1
     try clear c11
     try clear c11b0
     try clear c11b1
     try clear c12
     obtain ⟨x9_1, x30_1, rfl, HA, HK1, HO_9, HB⟩ := hrel
     have hl9_1 := (Kd.R_reads' HO_9.out).1
     rw [hl9_1] at HO_9
     (try simp only [hl9_1])
     cases gk with
     | zero => exact absurd HA.out (by simp [curve_Shift.l0])
     | succ k1 =>
      have H := HA.out
      clear HA
      simp only [curve_Shift.l0] at H
      by_cases c18 : x30_1 < (y245.length : Int)
      ·
       rw [if_pos c18] at H
       have c18b0 : decide (x30_1 < (y245.length : Int)) = true := decide_eq_true c18
       have c18b0z := c18b0
       (try rw [hl9_1] at c18b0z)
       clear c18
       by_cases c19 : 0 ≤ x30_1
       ·
        rw [if_pos c19] at H
        have c19b0 : decide (0 ≤ x30_1) = true := decide_eq_true c19
        clear c19
        by_cases c20 : x30_1 < (x9_1.length : Int)
        ·
         rw [if_pos c20] at H
         have c20b0 : decide (x30_1 < (x9_1.length : Int)) = true := decide_eq_true c20
         clear c20
         obtain ⟨y251, hy251⟩ : ∃ y_ : List (S50), y_ = (x9_1.set (x30_1 : Int).toNat (⟨wrap64 (((rd_T50 x9_1 x30_1).f0) + ji7), (rd_T50 x9_1 x30_1).f1⟩ : S50)) := ⟨_, rfl⟩
         replace H : ((some (y251.set (x30_1 : Int).toNat (⟨(rd_T50 y251 x30_1).f0, wrap64 (((rd_T50 y251 x30_1).f1) + ji9)⟩ : S50) : List (S50))).bind fun y253 => ((curve_inside.f ((rd_T50 y253 x30_1).f0)).bind fun t255 => (if t255 = true then ((curve_inside.f ((rd_T50 y253 x30_1).f1)).bind fun t257 => (if t257 = true then (curve_Shift.l0 k1 ji7 ji9 y253 (y245.length : Int) (wrap64 (x30_1 + 1))) else (some (([] : List (S50)), 6)))) else (some (([] : List (S50)), 6))))) = some (r1, r2) := by first | (rw [hy251]; with_reducible exact H) | (have H2_ := (Option.bind_some _ _).symm.trans H; rw [hy251]; with_reducible exact H2_) | (have H2_ := (Option.bind_some _ _).symm.trans H; with_reducible exact H2_) | with_reducible exact H | (rw [hy251]; exact H) | exact H
         have Ny251 := Aside0.mk hy251
         clear hy251
         obtain ⟨y253, hy253⟩ : ∃ y_ : List (S50), y_ = (y251.set (x30_1 : Int).toNat (⟨(rd_T50 y251 x30_1).f0, wrap64 (((rd_T50 y251 x30_1).f1) + ji9)⟩ : S50)) := ⟨_, rfl⟩
         replace H : ((curve_inside.f ((rd_T50 y253 x30_1).f0)).bind fun t255 => (if t255 = true then ((curve_inside.f ((rd_T50 y253 x30_1).f1)).bind fun t257 => (if t257 = true then (curve_Shift.l0 k1 ji7 ji9 y253 (y245.length : Int) (wrap64 (x30_1 + 1))) else (some (([] : List (S50)), 6)))) else (some (([] : List (S50)), 6)))) = some (r1, r2) := by first | (rw [hy253]; with_reducible exact H) | (have H2_ := (Option.bind_some _ _).symm.trans H; rw [hy253]; with_reducible exact H2_) | (have H2_ := (Option.bind_some _ _).symm.trans H; with_reducible exact H2_) | with_reducible exact H | (rw [hy253]; exact H) | exact H
         have Ny253 := Aside0.mk hy253
         clear hy253
         replace H := Option.bind_eq_some_iff.mp H
         obtain ⟨t255, A230, H⟩ := H
         replace H : (if t255 = true then ((curve_inside.f ((rd_T50 y253 x30_1).f1)).bind fun t257 => (if t257 = true then (curve_Shift.l0 k1 ji7 ji9 y253 (y245.length : Int) (wrap64 (x30_1 + 1))) else (some (([] : List (S50)), 6)))) else (some (([] : List (S50)), 6))) = some (r1, r2) := H
         have A23 := Aside0.mk A230
         clear A230
         by_cases c24 : t255 = true
         ·
          subst c24
          have H1 : ((curve_inside.f ((rd_T50 y253 x30_1).f1)).bind fun t257 => (if t257 = true then (curve_Shift.l0 k1 ji7 ji9 y253 (y245.length : Int) (wrap64 (x30_1 + 1))) else (some (([] : List (S50)), 6)))) = some (r1, r2) := by rw [if_pos rfl] at H; exact H
          clear H
          have H := H1
          clear H1
          replace H := Option.bind_eq_some_iff.mp H
          obtain ⟨t257, A250, H⟩ := H
          replace H : (if t257 = true then (curve_Shift.l0 k1 ji7 ji9 y253 (y245.length : Int) (wrap64 (x30_1 + 1))) else (some (([] : List (S50)), 6))) = some (r1, r2) := H
          have A25 := Aside0.mk A250
          clear A250
          by_cases c26 : t257 = true
          ·
           subst c26
           have H1 : (curve_Shift.l0 k1 ji7 ji9 y253 (y245.length : Int) (wrap64 (x30_1 + 1))) = some (r1, r2) := by rw [if_pos rfl] at H; exact H
           clear H
           have H := H1
           clear H1
           have H' := Aside0.mk H
           clear H
           have p250 : 0 ≤ (x30_1 : Int) := of_decide_eq_true (by first | (with_reducible assumption) | assumption)
           have q250 : x30_1 < (x9_1.length : Int) := of_decide_eq_true (by first | (with_reducible assumption) | assumption)
           obtain ⟨ad250, e250, hx250_0, hx250_1⟩ := at_T50 (Kd.R_reads' HO_9.out).2.2 x30_1 p250 q250
           cases e250
           replace p250 := eq_true p250
           replace q250 := eq_true q250
           have p21 : 0 ≤ (x30_1 : Int) := of_decide_eq_true (by first | (with_reducible assumption) | assumption)
           have q21 : (x30_1 : Int) < ((x9_1.length : Int) : Int) := of_decide_eq_true (by first | (with_reducible assumption) | assumption)
           obtain ⟨go21, co21, eo21, gb21, gl21, cl21, HG21⟩ := Kd.R_form HO_9.out (by omega)
           (first | cases eo21 | (injection eo21 with ea_ en_ ec_; (first | subst ea_ | (injection ea_ with ea_; subst ea_)); subst ec_; clear en_))
           have GB21 := Aside0.mk gb21
           have GG21 := Aside0.mk HG21
           clear gb21 gl21 HG21
           (first | simp only [add_plain] at hx250_0 | skip)
           (first | simp only [add_plain] at hx250_1 | skip)
           obtain ⟨ce21, hcl21, hM21, hcc21, hfr21⟩ := Kd.R_elem HO_9.out z50 (x30_1 : Int) p21 q21
           obtain rfl := k50_openM hM21
           have hx21_0 : wr.cell? ⟨go21, (x30_1 : Int).toNat * 2, none⟩ = some (.int .i64 ((rd_T50 x9_1 x30_1).f0)) := hcc21 0 _ rfl
           have hx21_1 : wr.cell? ⟨go21, (x30_1 : Int).toNat * 2 + 1, none⟩ = some (.int .i64 ((rd_T50 x9_1 x30_1).f1)) := hcc21 1 _ rfl
           have hf21_0 : wr.frozen? ⟨go21, (x30_1 : Int).toNat * 2, none⟩ = false := hfr21 0
           have hf21_1 : wr.frozen? ⟨go21, (x30_1 : Int).toNat * 2 + 1, none⟩ = false := hfr21 1
           clear hcl21 hcc21 hfr21 hM21
           replace p21 := eq_true p21
           replace q21 := eq_true q21
           have HX27 := Aside0.mk (show Kd.R k50 50 wr w.heap.size (fun _ => True) (.slice (some ⟨go21, 0, none⟩) x9_1.length co16) x9_1 from (by (with_reducible repeat (first | apply Kd.R_alloc | apply Kd.R_drewN | apply Kd.R_drew)); exact HO_9.out))
           obtain ⟨ce27, hcl27, hM27, hcc27, hfr27⟩ := Kd.R_elem HX27.out z50 (x30_1 : Int) (of_decide_eq_true (by first | (with_reducible assumption) | assumption)) (by have h_ : (x30_1 : Int) < ((x9_1.length : Int) : Int) := of_decide_eq_true (by first | (with_reducible assumption) | assumption); first | exact h_ | (have e_ := (Kd.R_reads' HO_9.out).1; omega) | simpa using h_)
           obtain rfl := k50_openM hM27
           have HP27 := Kd.R_seg HX27.out (x30_1 : Int) (of_decide_eq_true (by first | (with_reducible assumption) | assumption)) (by have h_ : (x30_1 : Int) < ((x9_1.length : Int) : Int) := of_decide_eq_true (by first | (with_reducible assumption) | assumption); first | exact h_ | (have e_ := (Kd.R_reads' HO_9.out).1; omega) | simpa using h_) (seg := [.int .i64 (wrap64 (((rd_T50 x9_1 x30_1).f0) + ji7))]) (j := 0) hcl27 hcc27 (show 1 ≤ 2 from by decide) (x' := (⟨wrap64 (((rd_T50 x9_1 x30_1).f0) + ji7), (rd_T50 x9_1 x30_1).f1⟩ : S50)) (k50_mkM _ _ _ (⟨wrap64 (((rd_T50 x9_1 x30_1).f0) + ji7), (rd_T50 x9_1 x30_1).f1⟩ : S50) ) (fun _ hk => hk)
           have hx27_0 := hcc27 0 _ rfl
           (try simp only [show (k50).sz = 2 from rfl, Nat.mul_one, Nat.add_zero] at hx27_0)
           have hf27_0 := hfr27 0
           (try simp only [show (k50).sz = 2 from rfl, Nat.mul_one, Nat.add_zero] at hf27_0)
           clear hcl27 hcc27 hfr27 hM27
           go_wp2_with (first | ((with_reducible refine gate_store (t := 2) (p := 41) rfl ?_); refine store_event (t := 2) (p := 41) (v := ?vo_w28) (w1 := (wr.setCell ⟨go21, (x30_1 : Int).toNat * 2, none⟩ (.int .i64 (wrap64 (((rd_T50 x9_1 x30_1).f0) + ji7))))) ?hg ?ho ?hn ?hr ?_; (case ho => rfl); (case hg => rfl); (case hn => rfl); (case hr => first | (go_simp; done) | (go_simp; rfl)); intro w28 hw; have hg : wr.grownBy w28 (some go21) := (by rw [hw]; exact HP27.2); have hp_ : Kd.R k50 50 w28 w.heap.size (fun _ => True) (.slice (some ⟨go21, 0, none⟩) x9_1.length co16) y251 := (by rw [hw, Ny251.out]; exact HP27.1); clear HP27; have n0_ := Aside0.mk (hp_); have n1_ := Aside0.mk ((by rw [hw]; exact below_set (HB.out) GB21.out : Below w.heap.size w w28)); clear HO_9; clear HB; have HO_9 := n0_; have HB := n1_; clear n0_ n1_; clear hg hw hp_; have p252 : 0 ≤ (x30_1 : Int) := of_decide_eq_true (by first | (with_reducible assumption) | assumption); have q252 : x30_1 < (y251.length : Int) := (by have h_ : (x30_1 : Int) < ((x9_1.length : Int) : Int) := of_decide_eq_true (by first | (with_reducible assumption) | assumption); first | (have e_ := (Kd.R_reads' HO_9.out).1; omega) | simpa only [Ny251.out, List.length_set] using h_); have ql252 : ((x30_1 : Int) < ((x9_1.length : Int) : Int)) = True := eq_true (of_decide_eq_true (by first | (with_reducible assumption) | assumption)); obtain ⟨ad252, e252, hx252_0, hx252_1⟩ := at_T50 (Kd.R_reads' HO_9.out).2.2 x30_1 p252 q252; obtain rfl : (⟨go21, 0, none⟩ : Addr) = ad252 := (by injection e252); (first | simp only [add_plain] at hx252_0 | simp only [add_at] at hx252_0 | simp only [Addr.add, Nat.zero_add] at hx252_0 | skip); (first | simp only [add_plain] at hx252_1 | simp only [add_at] at hx252_1 | simp only [Addr.add, Nat.zero_add] at hx252_1 | skip); replace p252 := eq_true p252; replace q252 := eq_true q252; have p22 : 0 ≤ (x30_1 : Int) := of_decide_eq_true (by first | (with_reducible assumption) | assumption); have q22 : (x30_1 : Int) < ((x9_1.length : Int) : Int) := of_decide_eq_true (by first | (with_reducible assumption) | assumption); obtain ⟨ce22, hcl22, hM22, hcc22, hfr22⟩ := Kd.R_elem HO_9.out z50 (x30_1 : Int) p22 q22; obtain rfl := k50_openM hM22; have hx22_0 : w28.cell? ⟨go21, (x30_1 : Int).toNat * 2, none⟩ = some (.int .i64 ((rd_T50 y251 x30_1).f0)) := hcc22 0 _ rfl; have hx22_1 : w28.cell? ⟨go21, (x30_1 : Int).toNat * 2 + 1, none⟩ = some (.int .i64 ((rd_T50 y251 x30_1).f1)) := hcc22 1 _ rfl; have hf22_0 : w28.frozen? ⟨go21, (x30_1 : Int).toNat * 2, none⟩ = false := hfr22 0; have hf22_1 : w28.frozen? ⟨go21, (x30_1 : Int).toNat * 2 + 1, none⟩ = false := hfr22 1; clear hcl22 hcc22 hfr22 hM22; replace p22 := eq_true p22; replace q22 := eq_true q22; have HX29 := Aside0.mk (show Kd.R k50 50 w28 w.heap.size (fun _ => True) (.slice (some ⟨go21, 0, none⟩) x9_1.length co16) y251 from (by (with_reducible repeat (first | apply Kd.R_alloc | apply Kd.R_drewN | apply Kd.R_drew)); exact HO_9.out)); obtain ⟨ce29, hcl29, hM29, hcc29, hfr29⟩ := Kd.R_elem HX29.out z50 (x30_1 : Int) (of_decide_eq_true (by first | (with_reducible assumption) | assumption)) (by have h_ : (x30_1 : Int) < ((x9_1.length : Int) : Int) := of_decide_eq_true (by first | (with_reducible assumption) | assumption); first | exact h_ | (have e_ := (Kd.R_reads' HO_9.out).1; omega) | simpa using h_); obtain rfl := k50_openM hM29; have HP29 := Kd.R_seg HX29.out (x30_1 : Int) (of_decide_eq_true (by first | (with_reducible assumption) | assumption)) (by have h_ : (x30_1 : Int) < ((x9_1.length : Int) : Int) := of_decide_eq_true (by first | (with_reducible assumption) | assumption); first | exact h_ | (have e_ := (Kd.R_reads' HO_9.out).1; omega) | simpa using h_) (seg := [.int .i64 (wrap64 (((rd_T50 y251 x30_1).f1) + ji9))]) (j := 1) hcl29 hcc29 (show 2 ≤ 2 from by decide) (x' := (⟨(rd_T50 y251 x30_1).f0, wrap64 (((rd_T50 y251 x30_1).f1) + ji9)⟩ : S50)) (k50_mkM _ _ _ (⟨(rd_T50 y251 x30_1).f0, wrap64 (((rd_T50 y251 x30_1).f1) + ji9)⟩ : S50) ) (fun _ hk => hk); have hx29_1 := hcc29 1 _ rfl; (try simp only [show (k50).sz = 2 from rfl, Nat.mul_one, Nat.add_zero] at hx29_1); have hf29_1 := hfr29 1; (try simp only [show (k50).sz = 2 from rfl, Nat.mul_one, Nat.add_zero] at hf29_1); clear hcl29 hcc29 hfr29 hM29) | ((with_reducible refine gate_store (t := 2) (p := 50) rfl ?_); refine store_event (t := 2) (p := 50) (v := ?vo_w30) (w1 := (w28.setCell ⟨go21, (x30_1 : Int).toNat * 2 + 1, none⟩ (.int .i64 (wrap64 (((rd_T50 y251 x30_1).f1) + ji9))))) ?hg ?ho ?hn ?hr ?_; (case ho => rfl); (case hg => rfl); (case hn => rfl); (case hr => first | (go_simp; done) | (go_simp; rfl)); intro w30 hw; have hg : w28.grownBy w30 (some go21) := (by rw [hw]; exact HP29.2); have hp_ : Kd.R k50 50 w30 w.heap.size (fun _ => True) (.slice (some ⟨go21, 0, none⟩) x9_1.length co16) y253 := (by rw [hw, Ny253.out]; exact HP29.1); clear HP29; have n0_ := Aside0.mk (hp_); have n1_ := Aside0.mk ((by rw [hw]; exact below_set (HB.out) GB21.out : Below w.heap.size w w30)); clear HO_9; clear HB; have HO_9 := n0_; have HB := n1_; clear n0_ n1_; clear hg hw hp_; have p254 : 0 ≤ (x30_1 : Int) := of_decide_eq_true (by first | (with_reducible assumption) | assumption); have q254 : x30_1 < (y253.length : Int) := (by have h_ : (x30_1 : Int) < ((x9_1.length : Int) : Int) := of_decide_eq_true (by first | (with_reducible assumption) | assumption); first | (have e_ := (Kd.R_reads' HO_9.out).1; omega) | simpa only [Ny251.out, Ny253.out, List.length_set] using h_); have ql254 : ((x30_1 : Int) < ((x9_1.length : Int) : Int)) = True := eq_true (of_decide_eq_true (by first | (with_reducible assumption) | assumption)); obtain ⟨ad254, e254, hx254_0, hx254_1⟩ := at_T50 (Kd.R_reads' HO_9.out).2.2 x30_1 p254 q254; obtain rfl : (⟨go21, 0, none⟩ : Addr) = ad254 := (by injection e254); (first | simp only [add_plain] at hx254_0 | simp only [add_at] at hx254_0 | simp only [Addr.add, Nat.zero_add] at hx254_0 | skip); (first | simp only [add_plain] at hx254_1 | simp only [add_at] at hx254_1 | simp only [Addr.add, Nat.zero_add] at hx254_1 | skip); replace p254 := eq_true p254; replace q254 := eq_true q254) | ((with_reducible refine gate_callee (f := 29) rfl ?_); refine goesL_ (some 56) rfl rfl Try.func29 (by kernel_rfl) rfl #[.int .i64 ((rd_T50 y253 x30_1).f0)] rfl (by (try simp only [List.map_toArray, List.map_cons, List.map_nil]); first | done | rfl | (simp only [List.length_drop, List.length_take]; rfl)) ?_; (with_reducible refine (curve_inside.calls ((rd_T50 y253 x30_1).f0) true _ A23.out).mono ?_); rintro e w' ⟨rfl, ⟨nd, rfl⟩⟩; refine ⟨_, rfl, ?_⟩; have p256 : 0 ≤ (x30_1 : Int) := of_decide_eq_true (by first | (with_reducible assumption) | assumption); have q256 : x30_1 < (y253.length : Int) := (by have h_ : (x30_1 : Int) < ((x9_1.length : Int) : Int) := of_decide_eq_true (by first | (with_reducible assumption) | assumption); first | (have e_ := (Kd.R_reads' HO_9.out).1; omega) | simpa only [Ny251.out, Ny253.out, List.length_set] using h_); have ql256 : ((x30_1 : Int) < ((x9_1.length : Int) : Int)) = True := eq_true (of_decide_eq_true (by first | (with_reducible assumption) | assumption)); obtain ⟨ad256, e256, hx256_0, hx256_1⟩ := at_T50 (Kd.R_reads' HO_9.out).2.2 x30_1 p256 q256; obtain rfl : (⟨go21, 0, none⟩ : Addr) = ad256 := (by injection e256); (first | simp only [add_plain] at hx256_0 | simp only [add_at] at hx256_0 | simp only [Addr.add, Nat.zero_add] at hx256_0 | skip); (first | simp only [add_plain] at hx256_1 | simp only [add_at] at hx256_1 | simp only [Addr.add, Nat.zero_add] at hx256_1 | skip); replace p256 := eq_true p256; replace q256 := eq_true q256) | (go_at_call 29; (with_reducible refine (curve_inside.calls ((rd_T50 y253 x30_1).f1) true _ A25.out).mono ?_); rintro e w' ⟨rfl, ⟨nd, rfl⟩⟩))
           (try simp only [← hl9_1])
           go_roundg k1
           case measure => have := HK1.out; omega
           case rel => exact ⟨(y253), (wrap64 (x30_1 + 1)), (by first | rfl | (simp; done) | (simp [*]; done)), H', ⟨by have := HK1.out; omega⟩, ⟨by (try simp only [hl9_1]); (with_reducible repeat (first | apply Kd.R_alloc | apply Kd.R_drewN | apply Kd.R_drew)); exact HO_9.out⟩, ⟨by repeat (first | (with_reducible first | exact HB.out | apply below_alloc | apply pw_below_drewN | apply below_drew1) | exact HB.out)⟩⟩
          ·
           replace c26 := Bool.eq_false_iff.mpr c26
           subst c26
           have H1 : (some (([] : List (S50)), 6)) = some (r1, r2) := by rw [if_neg (show ¬ (false = true) by decide)] at H; exact H
           clear H
           have H := H1
           clear H1
           simp only [Option.some.injEq, Prod.mk.injEq] at H
           obtain ⟨rfl, rfl⟩ := H
           have p250 : 0 ≤ (x30_1 : Int) := of_decide_eq_true (by first | (with_reducible assumption) | assumption)
           have q250 : x30_1 < (x9_1.length : Int) := of_decide_eq_true (by first | (with_reducible assumption) | assumption)
           obtain ⟨ad250, e250, hx250_0, hx250_1⟩ := at_T50 (Kd.R_reads' HO_9.out).2.2 x30_1 p250 q250
           cases e250
           replace p250 := eq_true p250
           replace q250 := eq_true q250
           have p21 : 0 ≤ (x30_1 : Int) := of_decide_eq_true (by first | (with_reducible assumption) | assumption)
           have q21 : (x30_1 : Int) < ((x9_1.length : Int) : Int) := of_decide_eq_true (by first | (with_reducible assumption) | assumption)
           obtain ⟨go21, co21, eo21, gb21, gl21, cl21, HG21⟩ := Kd.R_form HO_9.out (by omega)
           (first | cases eo21 | (injection eo21 with ea_ en_ ec_; (first | subst ea_ | (injection ea_ with ea_; subst ea_)); subst ec_; clear en_))
           have GB21 := Aside0.mk gb21
           have GG21 := Aside0.mk HG21
           clear gb21 gl21 HG21
           (first | simp only [add_plain] at hx250_0 | skip)
           (first | simp only [add_plain] at hx250_1 | skip)
           obtain ⟨ce21, hcl21, hM21, hcc21, hfr21⟩ := Kd.R_elem HO_9.out z50 (x30_1 : Int) p21 q21
           obtain rfl := k50_openM hM21
           have hx21_0 : wr.cell? ⟨go21, (x30_1 : Int).toNat * 2, none⟩ = some (.int .i64 ((rd_T50 x9_1 x30_1).f0)) := hcc21 0 _ rfl
           have hx21_1 : wr.cell? ⟨go21, (x30_1 : Int).toNat * 2 + 1, none⟩ = some (.int .i64 ((rd_T50 x9_1 x30_1).f1)) := hcc21 1 _ rfl
           have hf21_0 : wr.frozen? ⟨go21, (x30_1 : Int).toNat * 2, none⟩ = false := hfr21 0
           have hf21_1 : wr.frozen? ⟨go21, (x30_1 : Int).toNat * 2 + 1, none⟩ = false := hfr21 1
           clear hcl21 hcc21 hfr21 hM21
           replace p21 := eq_true p21
           replace q21 := eq_true q21
           have HX31 := Aside0.mk (show Kd.R k50 50 wr w.heap.size (fun _ => True) (.slice (some ⟨go21, 0, none⟩) x9_1.length co16) x9_1 from (by (with_reducible repeat (first | apply Kd.R_alloc | apply Kd.R_drewN | apply Kd.R_drew)); exact HO_9.out))
           obtain ⟨ce31, hcl31, hM31, hcc31, hfr31⟩ := Kd.R_elem HX31.out z50 (x30_1 : Int) (of_decide_eq_true (by first | (with_reducible assumption) | assumption)) (by have h_ : (x30_1 : Int) < ((x9_1.length : Int) : Int) := of_decide_eq_true (by first | (with_reducible assumption) | assumption); first | exact h_ | (have e_ := (Kd.R_reads' HO_9.out).1; omega) | simpa using h_)
           obtain rfl := k50_openM hM31
           have HP31 := Kd.R_seg HX31.out (x30_1 : Int) (of_decide_eq_true (by first | (with_reducible assumption) | assumption)) (by have h_ : (x30_1 : Int) < ((x9_1.length : Int) : Int) := of_decide_eq_true (by first | (with_reducible assumption) | assumption); first | exact h_ | (have e_ := (Kd.R_reads' HO_9.out).1; omega) | simpa using h_) (seg := [.int .i64 (wrap64 (((rd_T50 x9_1 x30_1).f0) + ji7))]) (j := 0) hcl31 hcc31 (show 1 ≤ 2 from by decide) (x' := (⟨wrap64 (((rd_T50 x9_1 x30_1).f0) + ji7), (rd_T50 x9_1 x30_1).f1⟩ : S50)) (k50_mkM _ _ _ (⟨wrap64 (((rd_T50 x9_1 x30_1).f0) + ji7), (rd_T50 x9_1 x30_1).f1⟩ : S50) ) (fun _ hk => hk)
           have hx31_0 := hcc31 0 _ rfl
           (try simp only [show (k50).sz = 2 from rfl, Nat.mul_one, Nat.add_zero] at hx31_0)
           have hf31_0 := hfr31 0
           (try simp only [show (k50).sz = 2 from rfl, Nat.mul_one, Nat.add_zero] at hf31_0)
           clear hcl31 hcc31 hfr31 hM31
           go_wp2_with (first | ((with_reducible refine gate_store (t := 2) (p := 41) rfl ?_); refine store_event (t := 2) (p := 41) (v := ?vo_w32) (w1 := (wr.setCell ⟨go21, (x30_1 : Int).toNat * 2, none⟩ (.int .i64 (wrap64 (((rd_T50 x9_1 x30_1).f0) + ji7))))) ?hg ?ho ?hn ?hr ?_; (case ho => rfl); (case hg => rfl); (case hn => rfl); (case hr => first | (go_simp; done) | (go_simp; rfl)); intro w32 hw; have hg : wr.grownBy w32 (some go21) := (by rw [hw]; exact HP31.2); have hp_ : Kd.R k50 50 w32 w.heap.size (fun _ => True) (.slice (some ⟨go21, 0, none⟩) x9_1.length co16) y251 := (by rw [hw, Ny251.out]; exact HP31.1); clear HP31; have n0_ := Aside0.mk (hp_); have n1_ := Aside0.mk ((by rw [hw]; exact below_set (HB.out) GB21.out : Below w.heap.size w w32)); clear HO_9; clear HB; have HO_9 := n0_; have HB := n1_; clear n0_ n1_; clear hg hw hp_; have p252 : 0 ≤ (x30_1 : Int) := of_decide_eq_true (by first | (with_reducible assumption) | assumption); have q252 : x30_1 < (y251.length : Int) := (by have h_ : (x30_1 : Int) < ((x9_1.length : Int) : Int) := of_decide_eq_true (by first | (with_reducible assumption) | assumption); first | (have e_ := (Kd.R_reads' HO_9.out).1; omega) | simpa only [Ny251.out, List.length_set] using h_); have ql252 : ((x30_1 : Int) < ((x9_1.length : Int) : Int)) = True := eq_true (of_decide_eq_true (by first | (with_reducible assumption) | assumption)); obtain ⟨ad252, e252, hx252_0, hx252_1⟩ := at_T50 (Kd.R_reads' HO_9.out).2.2 x30_1 p252 q252; obtain rfl : (⟨go21, 0, none⟩ : Addr) = ad252 := (by injection e252); (first | simp only [add_plain] at hx252_0 | simp only [add_at] at hx252_0 | simp only [Addr.add, Nat.zero_add] at hx252_0 | skip); (first | simp only [add_plain] at hx252_1 | simp only [add_at] at hx252_1 | simp only [Addr.add, Nat.zero_add] at hx252_1 | skip); replace p252 := eq_true p252; replace q252 := eq_true q252; have p22 : 0 ≤ (x30_1 : Int) := of_decide_eq_true (by first | (with_reducible assumption) | assumption); have q22 : (x30_1 : Int) < ((x9_1.length : Int) : Int) := of_decide_eq_true (by first | (with_reducible assumption) | assumption); obtain ⟨ce22, hcl22, hM22, hcc22, hfr22⟩ := Kd.R_elem HO_9.out z50 (x30_1 : Int) p22 q22; obtain rfl := k50_openM hM22; have hx22_0 : w32.cell? ⟨go21, (x30_1 : Int).toNat * 2, none⟩ = some (.int .i64 ((rd_T50 y251 x30_1).f0)) := hcc22 0 _ rfl; have hx22_1 : w32.cell? ⟨go21, (x30_1 : Int).toNat * 2 + 1, none⟩ = some (.int .i64 ((rd_T50 y251 x30_1).f1)) := hcc22 1 _ rfl; have hf22_0 : w32.frozen? ⟨go21, (x30_1 : Int).toNat * 2, none⟩ = false := hfr22 0; have hf22_1 : w32.frozen? ⟨go21, (x30_1 : Int).toNat * 2 + 1, none⟩ = false := hfr22 1; clear hcl22 hcc22 hfr22 hM22; replace p22 := eq_true p22; replace q22 := eq_true q22; have HX33 := Aside0.mk (show Kd.R k50 50 w32 w.heap.size (fun _ => True) (.slice (some ⟨go21, 0, none⟩) x9_1.length co16) y251 from (by (with_reducible repeat (first | apply Kd.R_alloc | apply Kd.R_drewN | apply Kd.R_drew)); exact HO_9.out)); obtain ⟨ce33, hcl33, hM33, hcc33, hfr33⟩ := Kd.R_elem HX33.out z50 (x30_1 : Int) (of_decide_eq_true (by first | (with_reducible assumption) | assumption)) (by have h_ : (x30_1 : Int) < ((x9_1.length : Int) : Int) := of_decide_eq_true (by first | (with_reducible assumption) | assumption); first | exact h_ | (have e_ := (Kd.R_reads' HO_9.out).1; omega) | simpa using h_); obtain rfl := k50_openM hM33; have HP33 := Kd.R_seg HX33.out (x30_1 : Int) (of_decide_eq_true (by first | (with_reducible assumption) | assumption)) (by have h_ : (x30_1 : Int) < ((x9_1.length : Int) : Int) := of_decide_eq_true (by first | (with_reducible assumption) | assumption); first | exact h_ | (have e_ := (Kd.R_reads' HO_9.out).1; omega) | simpa using h_) (seg := [.int .i64 (wrap64 (((rd_T50 y251 x30_1).f1) + ji9))]) (j := 1) hcl33 hcc33 (show 2 ≤ 2 from by decide) (x' := (⟨(rd_T50 y251 x30_1).f0, wrap64 (((rd_T50 y251 x30_1).f1) + ji9)⟩ : S50)) (k50_mkM _ _ _ (⟨(rd_T50 y251 x30_1).f0, wrap64 (((rd_T50 y251 x30_1).f1) + ji9)⟩ : S50) ) (fun _ hk => hk); have hx33_1 := hcc33 1 _ rfl; (try simp only [show (k50).sz = 2 from rfl, Nat.mul_one, Nat.add_zero] at hx33_1); have hf33_1 := hfr33 1; (try simp only [show (k50).sz = 2 from rfl, Nat.mul_one, Nat.add_zero] at hf33_1); clear hcl33 hcc33 hfr33 hM33) | ((with_reducible refine gate_store (t := 2) (p := 50) rfl ?_); refine store_event (t := 2) (p := 50) (v := ?vo_w34) (w1 := (w32.setCell ⟨go21, (x30_1 : Int).toNat * 2 + 1, none⟩ (.int .i64 (wrap64 (((rd_T50 y251 x30_1).f1) + ji9))))) ?hg ?ho ?hn ?hr ?_; (case ho => rfl); (case hg => rfl); (case hn => rfl); (case hr => first | (go_simp; done) | (go_simp; rfl)); intro w34 hw; have hg : w32.grownBy w34 (some go21) := (by rw [hw]; exact HP33.2); have hp_ : Kd.R k50 50 w34 w.heap.size (fun _ => True) (.slice (some ⟨go21, 0, none⟩) x9_1.length co16) y253 := (by rw [hw, Ny253.out]; exact HP33.1); clear HP33; have n0_ := Aside0.mk (hp_); have n1_ := Aside0.mk ((by rw [hw]; exact below_set (HB.out) GB21.out : Below w.heap.size w w34)); clear HO_9; clear HB; have HO_9 := n0_; have HB := n1_; clear n0_ n1_; clear hg hw hp_; have p254 : 0 ≤ (x30_1 : Int) := of_decide_eq_true (by first | (with_reducible assumption) | assumption); have q254 : x30_1 < (y253.length : Int) := (by have h_ : (x30_1 : Int) < ((x9_1.length : Int) : Int) := of_decide_eq_true (by first | (with_reducible assumption) | assumption); first | (have e_ := (Kd.R_reads' HO_9.out).1; omega) | simpa only [Ny251.out, Ny253.out, List.length_set] using h_); have ql254 : ((x30_1 : Int) < ((x9_1.length : Int) : Int)) = True := eq_true (of_decide_eq_true (by first | (with_reducible assumption) | assumption)); obtain ⟨ad254, e254, hx254_0, hx254_1⟩ := at_T50 (Kd.R_reads' HO_9.out).2.2 x30_1 p254 q254; obtain rfl : (⟨go21, 0, none⟩ : Addr) = ad254 := (by injection e254); (first | simp only [add_plain] at hx254_0 | simp only [add_at] at hx254_0 | simp only [Addr.add, Nat.zero_add] at hx254_0 | skip); (first | simp only [add_plain] at hx254_1 | simp only [add_at] at hx254_1 | simp only [Addr.add, Nat.zero_add] at hx254_1 | skip); replace p254 := eq_true p254; replace q254 := eq_true q254) | ((with_reducible refine gate_callee (f := 29) rfl ?_); refine goesL_ (some 56) rfl rfl Try.func29 (by kernel_rfl) rfl #[.int .i64 ((rd_T50 y253 x30_1).f0)] rfl (by (try simp only [List.map_toArray, List.map_cons, List.map_nil]); first | done | rfl | (simp only [List.length_drop, List.length_take]; rfl)) ?_; (with_reducible refine (curve_inside.calls ((rd_T50 y253 x30_1).f0) true _ A23.out).mono ?_); rintro e w' ⟨rfl, ⟨nd, rfl⟩⟩; refine ⟨_, rfl, ?_⟩; have p256 : 0 ≤ (x30_1 : Int) := of_decide_eq_true (by first | (with_reducible assumption) | assumption); have q256 : x30_1 < (y253.length : Int) := (by have h_ : (x30_1 : Int) < ((x9_1.length : Int) : Int) := of_decide_eq_true (by first | (with_reducible assumption) | assumption); first | (have e_ := (Kd.R_reads' HO_9.out).1; omega) | simpa only [Ny251.out, Ny253.out, List.length_set] using h_); have ql256 : ((x30_1 : Int) < ((x9_1.length : Int) : Int)) = True := eq_true (of_decide_eq_true (by first | (with_reducible assumption) | assumption)); obtain ⟨ad256, e256, hx256_0, hx256_1⟩ := at_T50 (Kd.R_reads' HO_9.out).2.2 x30_1 p256 q256; obtain rfl : (⟨go21, 0, none⟩ : Addr) = ad256 := (by injection e256); (first | simp only [add_plain] at hx256_0 | simp only [add_at] at hx256_0 | simp only [Addr.add, Nat.zero_add] at hx256_0 | skip); (first | simp only [add_plain] at hx256_1 | simp only [add_at] at hx256_1 | simp only [Addr.add, Nat.zero_add] at hx256_1 | skip); replace p256 := eq_true p256; replace q256 := eq_true q256) | (go_at_call 29; (with_reducible refine (curve_inside.calls ((rd_T50 y253 x30_1).f1) false _ A25.out).mono ?_); rintro e w' ⟨rfl, ⟨nd, rfl⟩⟩))
           go_ret2
           exact ⟨_, by first | rfl | (simp [errW_none, errW_some] <;> rfl) | (simp only [← hji6, ← hji7, ← hji8, ← hji9]; first | rfl | (simp [errW_none, errW_some] <;> rfl)) | (simp [*, errW_none, errW_some] <;> rfl), by first | exact Kd.R_nil _ _ _ _ _ | exact Kd.N_nil _ _ _ _ _ | exact Kd.V_nil _ _ _ _ _ | exact Kd.Q_nil _ _ _ _ _ | exact Kd.S_nil _ _ _ _ _, by repeat (first | (with_reducible first | exact HB.out | apply below_alloc | apply pw_below_drewN | apply below_drew1) | exact HB.out)⟩
         ·
          replace c24 := Bool.eq_false_iff.mpr c24
          subst c24
          have H1 : (some (([] : List (S50)), 6)) = some (r1, r2) := by rw [if_neg (show ¬ (false = true) by decide)] at H; exact H
          clear H
          have H := H1
          clear H1
          simp only [Option.some.injEq, Prod.mk.injEq] at H
          obtain ⟨rfl, rfl⟩ := H
          have p250 : 0 ≤ (x30_1 : Int) := of_decide_eq_true (by first | (with_reducible assumption) | assumption)
          have q250 : x30_1 < (x9_1.length : Int) := of_decide_eq_true (by first | (with_reducible assumption) | assumption)
          obtain ⟨ad250, e250, hx250_0, hx250_1⟩ := at_T50 (Kd.R_reads' HO_9.out).2.2 x30_1 p250 q250
          cases e250
          replace p250 := eq_true p250
          replace q250 := eq_true q250
          have p21 : 0 ≤ (x30_1 : Int) := of_decide_eq_true (by first | (with_reducible assumption) | assumption)
          have q21 : (x30_1 : Int) < ((x9_1.length : Int) : Int) := of_decide_eq_true (by first | (with_reducible assumption) | assumption)
          obtain ⟨go21, co21, eo21, gb21, gl21, cl21, HG21⟩ := Kd.R_form HO_9.out (by omega)
          (first | cases eo21 | (injection eo21 with ea_ en_ ec_; (first | subst ea_ | (injection ea_ with ea_; subst ea_)); subst ec_; clear en_))
          have GB21 := Aside0.mk gb21
          have GG21 := Aside0.mk HG21
          clear gb21 gl21 HG21
          (first | simp only [add_plain] at hx250_0 | skip)
          (first | simp only [add_plain] at hx250_1 | skip)
          obtain ⟨ce21, hcl21, hM21, hcc21, hfr21⟩ := Kd.R_elem HO_9.out z50 (x30_1 : Int) p21 q21
          obtain rfl := k50_openM hM21
          have hx21_0 : wr.cell? ⟨go21, (x30_1 : Int).toNat * 2, none⟩ = some (.int .i64 ((rd_T50 x9_1 x30_1).f0)) := hcc21 0 _ rfl
          have hx21_1 : wr.cell? ⟨go21, (x30_1 : Int).toNat * 2 + 1, none⟩ = some (.int .i64 ((rd_T50 x9_1 x30_1).f1)) := hcc21 1 _ rfl
          have hf21_0 : wr.frozen? ⟨go21, (x30_1 : Int).toNat * 2, none⟩ = false := hfr21 0
          have hf21_1 : wr.frozen? ⟨go21, (x30_1 : Int).toNat * 2 + 1, none⟩ = false := hfr21 1
          clear hcl21 hcc21 hfr21 hM21
          replace p21 := eq_true p21
          replace q21 := eq_true q21
          have HX35 := Aside0.mk (show Kd.R k50 50 wr w.heap.size (fun _ => True) (.slice (some ⟨go21, 0, none⟩) x9_1.length co16) x9_1 from (by (with_reducible repeat (first | apply Kd.R_alloc | apply Kd.R_drewN | apply Kd.R_drew)); exact HO_9.out))
          obtain ⟨ce35, hcl35, hM35, hcc35, hfr35⟩ := Kd.R_elem HX35.out z50 (x30_1 : Int) (of_decide_eq_true (by first | (with_reducible assumption) | assumption)) (by have h_ : (x30_1 : Int) < ((x9_1.length : Int) : Int) := of_decide_eq_true (by first | (with_reducible assumption) | assumption); first | exact h_ | (have e_ := (Kd.R_reads' HO_9.out).1; omega) | simpa using h_)
          obtain rfl := k50_openM hM35
          have HP35 := Kd.R_seg HX35.out (x30_1 : Int) (of_decide_eq_true (by first | (with_reducible assumption) | assumption)) (by have h_ : (x30_1 : Int) < ((x9_1.length : Int) : Int) := of_decide_eq_true (by first | (with_reducible assumption) | assumption); first | exact h_ | (have e_ := (Kd.R_reads' HO_9.out).1; omega) | simpa using h_) (seg := [.int .i64 (wrap64 (((rd_T50 x9_1 x30_1).f0) + ji7))]) (j := 0) hcl35 hcc35 (show 1 ≤ 2 from by decide) (x' := (⟨wrap64 (((rd_T50 x9_1 x30_1).f0) + ji7), (rd_T50 x9_1 x30_1).f1⟩ : S50)) (k50_mkM _ _ _ (⟨wrap64 (((rd_T50 x9_1 x30_1).f0) + ji7), (rd_T50 x9_1 x30_1).f1⟩ : S50) ) (fun _ hk => hk)
          have hx35_0 := hcc35 0 _ rfl
          (try simp only [show (k50).sz = 2 from rfl, Nat.mul_one, Nat.add_zero] at hx35_0)
          have hf35_0 := hfr35 0
          (try simp only [show (k50).sz = 2 from rfl, Nat.mul_one, Nat.add_zero] at hf35_0)
          clear hcl35 hcc35 hfr35 hM35
          go_wp2_with (first | ((with_reducible refine gate_store (t := 2) (p := 41) rfl ?_); refine store_event (t := 2) (p := 41) (v := ?vo_w36) (w1 := (wr.setCell ⟨go21, (x30_1 : Int).toNat * 2, none⟩ (.int .i64 (wrap64 (((rd_T50 x9_1 x30_1).f0) + ji7))))) ?hg ?ho ?hn ?hr ?_; (case ho => rfl); (case hg => rfl); (case hn => rfl); (case hr => first | (go_simp; done) | (go_simp; rfl)); intro w36 hw; have hg : wr.grownBy w36 (some go21) := (by rw [hw]; exact HP35.2); have hp_ : Kd.R k50 50 w36 w.heap.size (fun _ => True) (.slice (some ⟨go21, 0, none⟩) x9_1.length co16) y251 := (by rw [hw, Ny251.out]; exact HP35.1); clear HP35; have n0_ := Aside0.mk (hp_); have n1_ := Aside0.mk ((by rw [hw]; exact below_set (HB.out) GB21.out : Below w.heap.size w w36)); clear HO_9; clear HB; have HO_9 := n0_; have HB := n1_; clear n0_ n1_; clear hg hw hp_; have p252 : 0 ≤ (x30_1 : Int) := of_decide_eq_true (by first | (with_reducible assumption) | assumption); have q252 : x30_1 < (y251.length : Int) := (by have h_ : (x30_1 : Int) < ((x9_1.length : Int) : Int) := of_decide_eq_true (by first | (with_reducible assumption) | assumption); first | (have e_ := (Kd.R_reads' HO_9.out).1; omega) | simpa only [Ny251.out, List.length_set] using h_); have ql252 : ((x30_1 : Int) < ((x9_1.length : Int) : Int)) = True := eq_true (of_decide_eq_true (by first | (with_reducible assumption) | assumption)); obtain ⟨ad252, e252, hx252_0, hx252_1⟩ := at_T50 (Kd.R_reads' HO_9.out).2.2 x30_1 p252 q252; obtain rfl : (⟨go21, 0, none⟩ : Addr) = ad252 := (by injection e252); (first | simp only [add_plain] at hx252_0 | simp only [add_at] at hx252_0 | simp only [Addr.add, Nat.zero_add] at hx252_0 | skip); (first | simp only [add_plain] at hx252_1 | simp only [add_at] at hx252_1 | simp only [Addr.add, Nat.zero_add] at hx252_1 | skip); replace p252 := eq_true p252; replace q252 := eq_true q252; have p22 : 0 ≤ (x30_1 : Int) := of_decide_eq_true (by first | (with_reducible assumption) | assumption); have q22 : (x30_1 : Int) < ((x9_1.length : Int) : Int) := of_decide_eq_true (by first | (with_reducible assumption) | assumption); obtain ⟨ce22, hcl22, hM22, hcc22, hfr22⟩ := Kd.R_elem HO_9.out z50 (x30_1 : Int) p22 q22; obtain rfl := k50_openM hM22; have hx22_0 : w36.cell? ⟨go21, (x30_1 : Int).toNat * 2, none⟩ = some (.int .i64 ((rd_T50 y251 x30_1).f0)) := hcc22 0 _ rfl; have hx22_1 : w36.cell? ⟨go21, (x30_1 : Int).toNat * 2 + 1, none⟩ = some (.int .i64 ((rd_T50 y251 x30_1).f1)) := hcc22 1 _ rfl; have hf22_0 : w36.frozen? ⟨go21, (x30_1 : Int).toNat * 2, none⟩ = false := hfr22 0; have hf22_1 : w36.frozen? ⟨go21, (x30_1 : Int).toNat * 2 + 1, none⟩ = false := hfr22 1; clear hcl22 hcc22 hfr22 hM22; replace p22 := eq_true p22; replace q22 := eq_true q22; have HX37 := Aside0.mk (show Kd.R k50 50 w36 w.heap.size (fun _ => True) (.slice (some ⟨go21, 0, none⟩) x9_1.length co16) y251 from (by (with_reducible repeat (first | apply Kd.R_alloc | apply Kd.R_drewN | apply Kd.R_drew)); exact HO_9.out)); obtain ⟨ce37, hcl37, hM37, hcc37, hfr37⟩ := Kd.R_elem HX37.out z50 (x30_1 : Int) (of_decide_eq_true (by first | (with_reducible assumption) | assumption)) (by have h_ : (x30_1 : Int) < ((x9_1.length : Int) : Int) := of_decide_eq_true (by first | (with_reducible assumption) | assumption); first | exact h_ | (have e_ := (Kd.R_reads' HO_9.out).1; omega) | simpa using h_); obtain rfl := k50_openM hM37; have HP37 := Kd.R_seg HX37.out (x30_1 : Int) (of_decide_eq_true (by first | (with_reducible assumption) | assumption)) (by have h_ : (x30_1 : Int) < ((x9_1.length : Int) : Int) := of_decide_eq_true (by first | (with_reducible assumption) | assumption); first | exact h_ | (have e_ := (Kd.R_reads' HO_9.out).1; omega) | simpa using h_) (seg := [.int .i64 (wrap64 (((rd_T50 y251 x30_1).f1) + ji9))]) (j := 1) hcl37 hcc37 (show 2 ≤ 2 from by decide) (x' := (⟨(rd_T50 y251 x30_1).f0, wrap64 (((rd_T50 y251 x30_1).f1) + ji9)⟩ : S50)) (k50_mkM _ _ _ (⟨(rd_T50 y251 x30_1).f0, wrap64 (((rd_T50 y251 x30_1).f1) + ji9)⟩ : S50) ) (fun _ hk => hk); have hx37_1 := hcc37 1 _ rfl; (try simp only [show (k50).sz = 2 from rfl, Nat.mul_one, Nat.add_zero] at hx37_1); have hf37_1 := hfr37 1; (try simp only [show (k50).sz = 2 from rfl, Nat.mul_one, Nat.add_zero] at hf37_1); clear hcl37 hcc37 hfr37 hM37) | ((with_reducible refine gate_store (t := 2) (p := 50) rfl ?_); refine store_event (t := 2) (p := 50) (v := ?vo_w38) (w1 := (w36.setCell ⟨go21, (x30_1 : Int).toNat * 2 + 1, none⟩ (.int .i64 (wrap64 (((rd_T50 y251 x30_1).f1) + ji9))))) ?hg ?ho ?hn ?hr ?_; (case ho => rfl); (case hg => rfl); (case hn => rfl); (case hr => first | (go_simp; done) | (go_simp; rfl)); intro w38 hw; have hg : w36.grownBy w38 (some go21) := (by rw [hw]; exact HP37.2); have hp_ : Kd.R k50 50 w38 w.heap.size (fun _ => True) (.slice (some ⟨go21, 0, none⟩) x9_1.length co16) y253 := (by rw [hw, Ny253.out]; exact HP37.1); clear HP37; have n0_ := Aside0.mk (hp_); have n1_ := Aside0.mk ((by rw [hw]; exact below_set (HB.out) GB21.out : Below w.heap.size w w38)); clear HO_9; clear HB; have HO_9 := n0_; have HB := n1_; clear n0_ n1_; clear hg hw hp_; have p254 : 0 ≤ (x30_1 : Int) := of_decide_eq_true (by first | (with_reducible assumption) | assumption); have q254 : x30_1 < (y253.length : Int) := (by have h_ : (x30_1 : Int) < ((x9_1.length : Int) : Int) := of_decide_eq_true (by first | (with_reducible assumption) | assumption); first | (have e_ := (Kd.R_reads' HO_9.out).1; omega) | simpa only [Ny251.out, Ny253.out, List.length_set] using h_); have ql254 : ((x30_1 : Int) < ((x9_1.length : Int) : Int)) = True := eq_true (of_decide_eq_true (by first | (with_reducible assumption) | assumption)); obtain ⟨ad254, e254, hx254_0, hx254_1⟩ := at_T50 (Kd.R_reads' HO_9.out).2.2 x30_1 p254 q254; obtain rfl : (⟨go21, 0, none⟩ : Addr) = ad254 := (by injection e254); (first | simp only [add_plain] at hx254_0 | simp only [add_at] at hx254_0 | simp only [Addr.add, Nat.zero_add] at hx254_0 | skip); (first | simp only [add_plain] at hx254_1 | simp only [add_at] at hx254_1 | simp only [Addr.add, Nat.zero_add] at hx254_1 | skip); replace p254 := eq_true p254; replace q254 := eq_true q254) | ((with_reducible refine gate_callee (f := 29) rfl ?_); refine goesL_ (some 56) rfl rfl Try.func29 (by kernel_rfl) rfl #[.int .i64 ((rd_T50 y253 x30_1).f0)] rfl (by (try simp only [List.map_toArray, List.map_cons, List.map_nil]); first | done | rfl | (simp only [List.length_drop, List.length_take]; rfl)) ?_; (with_reducible refine (curve_inside.calls ((rd_T50 y253 x30_1).f0) false _ A23.out).mono ?_); rintro e w' ⟨rfl, ⟨nd, rfl⟩⟩; refine ⟨_, rfl, ?_⟩))
          go_ret2
          exact ⟨_, by first | rfl | (simp [errW_none, errW_some] <;> rfl) | (simp only [← hji6, ← hji7, ← hji8, ← hji9]; first | rfl | (simp [errW_none, errW_some] <;> rfl)) | (simp [*, errW_none, errW_some] <;> rfl), by first | exact Kd.R_nil _ _ _ _ _ | exact Kd.N_nil _ _ _ _ _ | exact Kd.V_nil _ _ _ _ _ | exact Kd.Q_nil _ _ _ _ _ | exact Kd.S_nil _ _ _ _ _, by repeat (first | (with_reducible first | exact HB.out | apply below_alloc | apply pw_below_drewN | apply below_drew1) | exact HB.out)⟩
        ·
         rw [if_neg c20] at H
         exact absurd H (by simp)
       ·
        rw [if_neg c19] at H
        exact absurd H (by simp)
      ·
       rw [if_neg c18] at H
       have c18b0 : decide (x30_1 < (y245.length : Int)) = false := decide_eq_false c18
       have c18b0z := c18b0
       (try rw [hl9_1] at c18b0z)
       clear c18
       simp only [Option.some.injEq, Prod.mk.injEq] at H
       obtain ⟨rfl, rfl⟩ := H
       go_wp2
       go_ret2
       exact ⟨_, by first | rfl | (simp [errW_none, errW_some] <;> rfl) | (simp only [← hji6, ← hji7, ← hji8, ← hji9]; first | rfl | (simp [errW_none, errW_some] <;> rfl)) | (simp [*, errW_none, errW_some] <;> rfl), by (with_reducible repeat (first | apply Kd.R_alloc | apply Kd.R_drewN | apply Kd.R_drew)); exact HO_9.out, by repeat (first | (with_reducible first | exact HB.out | apply below_alloc | apply pw_below_drewN | apply below_drew1) | exact HB.out)⟩
   ·
    rw [if_neg c11] at H
    exact absurd H (by simp)
  ·
   rw [if_neg c10] at H
   exact absurd H (by simp)
 ·
  rw [if_neg c5] at H
  have c5b0 : (t244 == 0) = false := beq_eq_false_iff_ne.mpr c5
  have c5b1 : (t244 != 0) = true := bne_iff_ne.mpr c5
  simp only [Option.some.injEq, Prod.mk.injEq] at H
  obtain ⟨rfl, rfl⟩ := H
  go_enter Try.func12, Try.ntmps12
  go_wp2_with (first | ((with_reducible refine gate_callee (f := 22) rfl ?_); refine goesL_ (some 12) rfl rfl Try.func22 (by kernel_rfl) rfl #[.slice A0 l0.length c0] rfl (by (try simp only [List.map_toArray, List.map_cons, List.map_nil]); first | done | rfl | (simp only [List.length_drop, List.length_take]; rfl)) ?_; (with_reducible refine (curve_Check.calls k _ _ l0 t244 _ ?side1 ?side2 A4.out).mono ?_); (case side1 => repeat (first | exact HR0.out | (with_reducible refine Kd.C_alloc ?_ _) | (with_reducible refine Kd.C_drewN ?_ _) | (with_reducible refine Kd.C_drew ?_))); (case side2 => exact HC0.out); rintro e w39 ⟨rfl, hb⟩; refine ⟨_, rfl, ?_⟩; have n0_ := Aside0.mk (below_step (by repeat (first | (with_reducible first | exact HB.out | apply below_alloc | apply pw_below_drewN | apply below_drew1) | exact HB.out)) hb); clear HB; have HB := n0_; clear n0_; (try clear hb); (try clear hb2); (try clear hk); (try clear hi)))
  go_ret2
  exact ⟨_, by first | rfl | (simp [errW_none, errW_some] <;> rfl) | (simp [*, errW_none, errW_some] <;> rfl), by first | exact Kd.R_nil _ _ _ _ _ | exact Kd.N_nil _ _ _ _ _ | exact Kd.V_nil _ _ _ _ _ | exact Kd.Q_nil _ _ _ _ _ | exact Kd.S_nil _ _ _ _ _, by repeat (first | (with_reducible first | exact HB.out | apply below_alloc | apply pw_below_drewN | apply below_drew1) | exact HB.out)⟩
/-! ### plenumref03_inside: function 30 -/
def plenumref03_inside.f (a0 : Int) : Option (Bool) := if a0 ≥ (-1000000000000) then (some (decide (a0 ≤ 1000000000000))) else (some false)
set_option maxHeartbeats 8000000 in
set_option maxRecDepth 100000 in
theorem plenumref03_inside.calls (a0 : Int) (r : Bool) (w : World) (h : plenumref03_inside.f a0 = some r) :
 Calls Try.prog 30 #[.int .i64 a0] w fun e w' => e = .returned (.bool r) ∧ Drawn0 w w' := by
 have H : (if a0 ≥ (-1000000000000) then (some (decide (a0 ≤ 1000000000000))) else (some false)) = some r := h
 clear h
 by_cases c2 : a0 ≥ (-1000000000000)
 ·
  rw [if_pos c2] at H
  have c2b0 : decide ((-1000000000000) ≤ a0) = true := decide_eq_true c2
  clear c2
  obtain rfl := Option.some.inj H
  go_enter Try.func30, Try.ntmps30
  go_wp2
  go_ret
  exact ⟨by first | rfl | (simp; done) | (simp [*]; done), by repeat (first | exact Drawn0.refl _ | apply Drawn0.step)⟩
 ·
  rw [if_neg c2] at H
  have c2b0 : decide ((-1000000000000) ≤ a0) = false := decide_eq_false c2
  clear c2
  obtain rfl := Option.some.inj H
  go_enter Try.func30, Try.ntmps30
  go_wp2
  go_ret
  exact ⟨by first | rfl | (simp; done) | (simp [*]; done), by repeat (first | exact Drawn0.refl _ | apply Drawn0.step)⟩
/-! ### plenumref03_Check: function 17 -/
mutual
def plenumref03_Check.j0 : Nat → List (S50) → Bool → Option (Int)
 | 0, _, _ => none
 | k + 1, x0, x12 => if x12 = true then (some 1) else (plenumref03_Check.l0 k x0 0)
def plenumref03_Check.l0 : Nat → List (S50) → Int → Option (Int)
 | 0, _, _ => none
 | k + 1, x0, x3 => if x3 < (x0.length : Int) then (if 0 ≤ x3 then ((plenumref03_inside.f ((rd_T50 x0 x3).f0)).bind fun t259 => (if t259 = true then ((plenumref03_inside.f ((rd_T50 x0 x3).f1)).bind fun t261 => (if t261 = true then (plenumref03_Check.l0 k x0 (wrap64 (x3 + 1))) else (some 6))) else (some 6))) else (none)) else (plenumref03_Check.l1 k x0 1)
def plenumref03_Check.l1 : Nat → List (S50) → Int → Option (Int)
 | 0, _, _ => none
 | k + 1, x0, x4 => if x4 < (x0.length : Int) then (if 0 ≤ (wrap64 (x4 - 1)) then (if (wrap64 (x4 - 1)) < (x0.length : Int) then (if 0 ≤ x4 then (if ((rd_T50 x0 (wrap64 (x4 - 1))).f0) ≥ ((rd_T50 x0 x4).f0) then (some 5) else (plenumref03_Check.l1 k x0 (wrap64 (x4 + 1)))) else (none)) else (none)) else (none)) else (some 0)
end
def plenumref03_Check.f (k : Nat) (l0 : List (S50)) : Option (Int) := if (l0.length : Int) < 1 then (plenumref03_Check.j0 k l0 true) else (plenumref03_Check.j0 k l0 (decide ((l0.length : Int) > 32)))
theorem plenumref03_Check.mono_l : ∀ k, (∀ y0 y1, LeO (plenumref03_Check.j0 k y0 y1) (plenumref03_Check.j0 (k + 1) y0 y1)) ∧ (∀ y0 y1, LeO (plenumref03_Check.l0 k y0 y1) (plenumref03_Check.l0 (k + 1) y0 y1)) ∧ (∀ y0 y1, LeO (plenumref03_Check.l1 k y0 y1) (plenumref03_Check.l1 (k + 1) y0 y1))
 | 0 => ⟨fun _ _ r h => by simp [plenumref03_Check.j0] at h, fun _ _ r h => by simp [plenumref03_Check.l0] at h, fun _ _ r h => by simp [plenumref03_Check.l1] at h⟩
 | k + 1 => by
  obtain ⟨ih0, ih1, ih2⟩ := plenumref03_Check.mono_l k
  refine ⟨?_, ?_, ?_⟩
  ·
   intro y0 y1
   unfold plenumref03_Check.j0
   repeat' first
   | (with_reducible exact ih0 _ _)
   | (with_reducible exact ih1 _ _)
   | (with_reducible exact ih2 _ _)
   | (with_reducible exact LeO.refl _)
   | (with_reducible exact LeO.none _)
   | (with_reducible refine LeO.ite ?_ ?_)
   | (with_reducible refine LeO.bind ?_ (fun _ => ?_))
   | exact ih0 _ _
   | exact ih1 _ _
   | exact ih2 _ _
   | exact LeO.none _
   | refine LeO.ite ?_ ?_
   | refine LeO.bind ?_ (fun _ => ?_)
  ·
   intro y0 y1
   unfold plenumref03_Check.l0
   repeat' first
   | (with_reducible exact ih0 _ _)
   | (with_reducible exact ih1 _ _)
   | (with_reducible exact ih2 _ _)
   | (with_reducible exact LeO.refl _)
   | (with_reducible exact LeO.none _)
   | (with_reducible refine LeO.ite ?_ ?_)
   | (with_reducible refine LeO.bind ?_ (fun _ => ?_))
   | exact ih0 _ _
   | exact ih1 _ _
   | exact ih2 _ _
   | exact LeO.none _
   | refine LeO.ite ?_ ?_
   | refine LeO.bind ?_ (fun _ => ?_)
  ·
   intro y0 y1
   unfold plenumref03_Check.l1
   repeat' first
   | (with_reducible exact ih0 _ _)
   | (with_reducible exact ih1 _ _)
   | (with_reducible exact ih2 _ _)
   | (with_reducible exact LeO.refl _)
   | (with_reducible exact LeO.none _)
   | (with_reducible refine LeO.ite ?_ ?_)
   | (with_reducible refine LeO.bind ?_ (fun _ => ?_))
   | exact ih0 _ _
   | exact ih1 _ _
   | exact ih2 _ _
   | exact LeO.none _
   | refine LeO.ite ?_ ?_
   | refine LeO.bind ?_ (fun _ => ?_)
theorem plenumref03_Check.mono : ∀ a0 k, LeO (plenumref03_Check.f k a0) (plenumref03_Check.f (k + 1) a0) := by
 intro a0 k
 obtain ⟨ih0, ih1, ih2⟩ := plenumref03_Check.mono_l k
 unfold plenumref03_Check.f
 repeat' first
  | (with_reducible exact ih0 _ _)
  | (with_reducible exact ih1 _ _)
  | (with_reducible exact ih2 _ _)
  | (with_reducible exact LeO.refl _)
  | (with_reducible exact LeO.none _)
  | (with_reducible refine LeO.ite ?_ ?_)
  | (with_reducible refine LeO.bind ?_ (fun _ => ?_))
  | exact ih0 _ _
  | exact ih1 _ _
  | exact ih2 _ _
  | exact LeO.none _
  | refine LeO.ite ?_ ?_
  | refine LeO.bind ?_ (fun _ => ?_)
set_option maxHeartbeats 8000000 in
set_option maxRecDepth 100000 in
theorem plenumref03_Check.calls (k : Nat) (A0 : Option Addr) (c0 : Nat) (l0 : List (S50)) (r : Int) (w : World) (hr0 : Kd.C k50 w A0 l0.length l0) (hc0 : l0.length ≤ c0) (h : plenumref03_Check.f k l0 = some r) :
 Calls Try.prog 17 #[.slice A0 l0.length c0] w fun e w' => e = .returned (.int .i64 r) ∧ Drawn0 w w' := by
 have HR0 := Aside0.mk hr0
 have HC0 := Aside0.mk hc0
 clear hr0 hc0
 have H : (if (l0.length : Int) < 1 then (plenumref03_Check.j0 k l0 true) else (plenumref03_Check.j0 k l0 (decide ((l0.length : Int) > 32)))) = some r := h
 clear h
 have HC2 := Aside0.mk H
 clear H
 go_enter Try.func17, Try.ntmps17
 go_upto_region 1 with (fail)
 repeat (go_quiet (fail); go_upto_region 1 with (fail))
 go_cut [12] (fun v12 wc => ∃ (kq : Nat) (x12_1 : Bool), v12 = .bool x12_1 ∧ Aside0 (plenumref03_Check.j0 kq l0 x12_1 = some r) ∧ Aside0 (kq ≤ k) ∧ Drawn0 w wc)
 case first =>
  have H := HC2.out
  clear HC2
  by_cases c3 : (l0.length : Int) < 1
  ·
   rw [if_pos c3] at H
   have c3b0 : decide ((l0.length : Int) < 1) = true := decide_eq_true c3
   have c3b1 : decide (l0.length < 1) = true := decide_eq_true (by omega)
   clear c3
   (first | rw [c3b0] | (simp only [i64_w, i32_w]; rw [c3b0]) | skip)
   have H' := Aside0.mk H
   clear H
   go_wp2
   repeat (go_quiet (fail); try go_wp2)
   go_meet
   case rel => exact ⟨_, (true), (by first | rfl | (simp; done) | (simp [*]; done)), H', ⟨by first | omega | exact Nat.le_refl _⟩, by repeat (first | exact Drawn0.refl _ | apply Drawn0.step)⟩
  ·
   rw [if_neg c3] at H
   have c3b0 : decide ((l0.length : Int) < 1) = false := decide_eq_false c3
   have c3b1 : decide (l0.length < 1) = false := decide_eq_false (by omega)
   clear c3
   (first | rw [c3b0] | (simp only [i64_w, i32_w]; rw [c3b0]) | skip)
   have H' := Aside0.mk H
   clear H
   go_wp2
   repeat (go_quiet (fail); try go_wp2)
   go_meet
   case rel => exact ⟨_, (decide ((l0.length : Int) > 32)), (by first | rfl | (simp; done) | (simp [*]; done)), H', ⟨by first | omega | exact Nat.le_refl _⟩, by repeat (first | exact Drawn0.refl _ | apply Drawn0.step)⟩
 case rest =>
  clear HC2
  try clear c1
  try clear p2
  try clear c3
  try clear c3b0
  try clear c3b1
  obtain ⟨kq, x12_1, rfl, HA, HJ1, ⟨mc1, rfl⟩⟩ := hcut
  cases kq with
  | zero => exact absurd HA.out (by simp [plenumref03_Check.j0])
  | succ kj1 =>
   have H := HA.out
   clear HA
   simp only [plenumref03_Check.j0] at H
   by_cases c4 : x12_1 = true
   ·
    subst c4
    have H1 : (some 1) = some r := by rw [if_pos rfl] at H; exact H
    clear H
    have H := H1
    clear H1
    obtain rfl := Option.some.inj H
    go_wp2
    repeat (go_quiet (fail); try go_wp2)
    go_ret
    exact ⟨by first | rfl | (simp; done) | (simp [*]; done), by repeat (first | exact Drawn0.refl _ | apply Drawn0.step)⟩
   ·
    replace c4 := Bool.eq_false_iff.mpr c4
    subst c4
    have H1 : (plenumref03_Check.l0 kj1 l0 0) = some r := by rw [if_neg (show ¬ (false = true) by decide)] at H; exact H
    clear H
    have H := H1
    clear H1
    have H' := Aside0.mk H
    clear H
    go_wp2
    repeat (go_quiet (fail); try go_wp2)
    go_loopg [3] kj1 (fun kq v3 w' => ∃ (x3_2 : Int), v3 = .int .i64 x3_2 ∧ Aside0 (plenumref03_Check.l0 kq l0 x3_2 = some r) ∧ Aside0 (kq ≤ kj1) ∧ Drawn0 w w')
    case atStart => exact ⟨(0), (by first | rfl | (simp; done) | (simp [*]; done)), H', ⟨Nat.le_refl _⟩, by repeat (first | exact Drawn0.refl _ | apply Drawn0.step)⟩
    case round =>
     clear H'
     try clear c1
     try clear p2
     try clear c3
     try clear c3b0
     try clear c3b1
     try clear c4
     try clear p2
     obtain ⟨x3_2, rfl, HA, HK2, ⟨m2, rfl⟩⟩ := hrel
     cases gk with
     | zero => exact absurd HA.out (by simp [plenumref03_Check.l0])
     | succ k2 =>
      have H := HA.out
      clear HA
      simp only [plenumref03_Check.l0] at H
      by_cases c5 : x3_2 < (l0.length : Int)
      ·
       rw [if_pos c5] at H
       have c5b0 : decide (x3_2 < (l0.length : Int)) = true := decide_eq_true c5
       clear c5
       by_cases c6 : 0 ≤ x3_2
       ·
        rw [if_pos c6] at H
        have c6b0 : decide (0 ≤ x3_2) = true := decide_eq_true c6
        clear c6
        replace H := Option.bind_eq_some_iff.mp H
        obtain ⟨t259, A70, H⟩ := H
        replace H : (if t259 = true then ((plenumref03_inside.f ((rd_T50 l0 x3_2).f1)).bind fun t261 => (if t261 = true then (plenumref03_Check.l0 k2 l0 (wrap64 (x3_2 + 1))) else (some 6))) else (some 6)) = some r := H
        have A7 := Aside0.mk A70
        clear A70
        by_cases c8 : t259 = true
        ·
         subst c8
         have H1 : ((plenumref03_inside.f ((rd_T50 l0 x3_2).f1)).bind fun t261 => (if t261 = true then (plenumref03_Check.l0 k2 l0 (wrap64 (x3_2 + 1))) else (some 6))) = some r := by rw [if_pos rfl] at H; exact H
         clear H
         have H := H1
         clear H1
         replace H := Option.bind_eq_some_iff.mp H
         obtain ⟨t261, A90, H⟩ := H
         replace H : (if t261 = true then (plenumref03_Check.l0 k2 l0 (wrap64 (x3_2 + 1))) else (some 6)) = some r := H
         have A9 := Aside0.mk A90
         clear A90
         by_cases c10 : t261 = true
         ·
          subst c10
          have H1 : (plenumref03_Check.l0 k2 l0 (wrap64 (x3_2 + 1))) = some r := by rw [if_pos rfl] at H; exact H
          clear H
          have H := H1
          clear H1
          have H' := Aside0.mk H
          clear H
          have p258 : 0 ≤ (x3_2 : Int) := of_decide_eq_true (by first | (with_reducible assumption) | assumption)
          have q258 : x3_2 < (l0.length : Int) := of_decide_eq_true (by first | (with_reducible assumption) | assumption)
          obtain ⟨ad258, e258, hx258_0, hx258_1⟩ := at_T50 HR0.out x3_2 p258 q258
          cases e258
          replace p258 := eq_true p258
          replace q258 := eq_true q258
          go_wp2_with (first | (go_at_call 30; (with_reducible refine (plenumref03_inside.calls ((rd_T50 l0 x3_2).f0) true _ A7.out).mono ?_); rintro e w' ⟨rfl, ⟨nd, rfl⟩⟩; (try first | exact ⟨rfl, _, World.drewN_drewN _ _ _⟩ | exact ⟨rfl, _, Eq.trans (World.drewN_drewN _ _ _) (congrArg (World.drewN _) (Nat.add_assoc _ _ _))⟩); have p260 : 0 ≤ (x3_2 : Int) := of_decide_eq_true (by first | (with_reducible assumption) | assumption); have q260 : x3_2 < (l0.length : Int) := of_decide_eq_true (by first | (with_reducible assumption) | assumption); obtain ⟨ad260, e260, hx260_0, hx260_1⟩ := at_T50 HR0.out x3_2 p260 q260; obtain rfl : ad258 = ad260 := (by injection e260); replace p260 := eq_true p260; replace q260 := eq_true q260) | (go_at_call 30; (with_reducible refine (plenumref03_inside.calls ((rd_T50 l0 x3_2).f1) true _ A9.out).mono ?_); rintro e w' ⟨rfl, ⟨nd, rfl⟩⟩; (try first | exact ⟨rfl, _, World.drewN_drewN _ _ _⟩ | exact ⟨rfl, _, Eq.trans (World.drewN_drewN _ _ _) (congrArg (World.drewN _) (Nat.add_assoc _ _ _))⟩)))
          repeat (go_quiet (first | (go_at_call 30; (with_reducible refine (plenumref03_inside.calls ((rd_T50 l0 x3_2).f0) true _ A7.out).mono ?_); rintro e w' ⟨rfl, ⟨nd, rfl⟩⟩; (try first | exact ⟨rfl, _, World.drewN_drewN _ _ _⟩ | exact ⟨rfl, _, Eq.trans (World.drewN_drewN _ _ _) (congrArg (World.drewN _) (Nat.add_assoc _ _ _))⟩); have p260 : 0 ≤ (x3_2 : Int) := of_decide_eq_true (by first | (with_reducible assumption) | assumption); have q260 : x3_2 < (l0.length : Int) := of_decide_eq_true (by first | (with_reducible assumption) | assumption); obtain ⟨ad260, e260, hx260_0, hx260_1⟩ := at_T50 HR0.out x3_2 p260 q260; obtain rfl : ad258 = ad260 := (by injection e260); replace p260 := eq_true p260; replace q260 := eq_true q260) | (go_at_call 30; (with_reducible refine (plenumref03_inside.calls ((rd_T50 l0 x3_2).f1) true _ A9.out).mono ?_); rintro e w' ⟨rfl, ⟨nd, rfl⟩⟩; (try first | exact ⟨rfl, _, World.drewN_drewN _ _ _⟩ | exact ⟨rfl, _, Eq.trans (World.drewN_drewN _ _ _) (congrArg (World.drewN _) (Nat.add_assoc _ _ _))⟩))); try go_wp2_with (first | (go_at_call 30; (with_reducible refine (plenumref03_inside.calls ((rd_T50 l0 x3_2).f0) true _ A7.out).mono ?_); rintro e w' ⟨rfl, ⟨nd, rfl⟩⟩; (try first | exact ⟨rfl, _, World.drewN_drewN _ _ _⟩ | exact ⟨rfl, _, Eq.trans (World.drewN_drewN _ _ _) (congrArg (World.drewN _) (Nat.add_assoc _ _ _))⟩); have p260 : 0 ≤ (x3_2 : Int) := of_decide_eq_true (by first | (with_reducible assumption) | assumption); have q260 : x3_2 < (l0.length : Int) := of_decide_eq_true (by first | (with_reducible assumption) | assumption); obtain ⟨ad260, e260, hx260_0, hx260_1⟩ := at_T50 HR0.out x3_2 p260 q260; obtain rfl : ad258 = ad260 := (by injection e260); replace p260 := eq_true p260; replace q260 := eq_true q260) | (go_at_call 30; (with_reducible refine (plenumref03_inside.calls ((rd_T50 l0 x3_2).f1) true _ A9.out).mono ?_); rintro e w' ⟨rfl, ⟨nd, rfl⟩⟩; (try first | exact ⟨rfl, _, World.drewN_drewN _ _ _⟩ | exact ⟨rfl, _, Eq.trans (World.drewN_drewN _ _ _) (congrArg (World.drewN _) (Nat.add_assoc _ _ _))⟩))))
          go_roundg k2
          case measure => have := HJ1.out; have := HK2.out; omega
          case rel => exact ⟨(wrap64 (x3_2 + 1)), (by first | rfl | (simp; done) | (simp [*]; done)), H', ⟨by have := HJ1.out; have := HK2.out; omega⟩, by repeat (first | exact Drawn0.refl _ | apply Drawn0.step)⟩
         ·
          replace c10 := Bool.eq_false_iff.mpr c10
          subst c10
          have H1 : (some 6) = some r := by rw [if_neg (show ¬ (false = true) by decide)] at H; exact H
          clear H
          have H := H1
          clear H1
          obtain rfl := Option.some.inj H
          have p258 : 0 ≤ (x3_2 : Int) := of_decide_eq_true (by first | (with_reducible assumption) | assumption)
          have q258 : x3_2 < (l0.length : Int) := of_decide_eq_true (by first | (with_reducible assumption) | assumption)
          obtain ⟨ad258, e258, hx258_0, hx258_1⟩ := at_T50 HR0.out x3_2 p258 q258
          cases e258
          replace p258 := eq_true p258
          replace q258 := eq_true q258
          go_wp2_with (first | (go_at_call 30; (with_reducible refine (plenumref03_inside.calls ((rd_T50 l0 x3_2).f0) true _ A7.out).mono ?_); rintro e w' ⟨rfl, ⟨nd, rfl⟩⟩; (try first | exact ⟨rfl, _, World.drewN_drewN _ _ _⟩ | exact ⟨rfl, _, Eq.trans (World.drewN_drewN _ _ _) (congrArg (World.drewN _) (Nat.add_assoc _ _ _))⟩); have p260 : 0 ≤ (x3_2 : Int) := of_decide_eq_true (by first | (with_reducible assumption) | assumption); have q260 : x3_2 < (l0.length : Int) := of_decide_eq_true (by first | (with_reducible assumption) | assumption); obtain ⟨ad260, e260, hx260_0, hx260_1⟩ := at_T50 HR0.out x3_2 p260 q260; obtain rfl : ad258 = ad260 := (by injection e260); replace p260 := eq_true p260; replace q260 := eq_true q260) | (go_at_call 30; (with_reducible refine (plenumref03_inside.calls ((rd_T50 l0 x3_2).f1) false _ A9.out).mono ?_); rintro e w' ⟨rfl, ⟨nd, rfl⟩⟩; (try first | exact ⟨rfl, _, World.drewN_drewN _ _ _⟩ | exact ⟨rfl, _, Eq.trans (World.drewN_drewN _ _ _) (congrArg (World.drewN _) (Nat.add_assoc _ _ _))⟩)))
          repeat (go_quiet (first | (go_at_call 30; (with_reducible refine (plenumref03_inside.calls ((rd_T50 l0 x3_2).f0) true _ A7.out).mono ?_); rintro e w' ⟨rfl, ⟨nd, rfl⟩⟩; (try first | exact ⟨rfl, _, World.drewN_drewN _ _ _⟩ | exact ⟨rfl, _, Eq.trans (World.drewN_drewN _ _ _) (congrArg (World.drewN _) (Nat.add_assoc _ _ _))⟩); have p260 : 0 ≤ (x3_2 : Int) := of_decide_eq_true (by first | (with_reducible assumption) | assumption); have q260 : x3_2 < (l0.length : Int) := of_decide_eq_true (by first | (with_reducible assumption) | assumption); obtain ⟨ad260, e260, hx260_0, hx260_1⟩ := at_T50 HR0.out x3_2 p260 q260; obtain rfl : ad258 = ad260 := (by injection e260); replace p260 := eq_true p260; replace q260 := eq_true q260) | (go_at_call 30; (with_reducible refine (plenumref03_inside.calls ((rd_T50 l0 x3_2).f1) false _ A9.out).mono ?_); rintro e w' ⟨rfl, ⟨nd, rfl⟩⟩; (try first | exact ⟨rfl, _, World.drewN_drewN _ _ _⟩ | exact ⟨rfl, _, Eq.trans (World.drewN_drewN _ _ _) (congrArg (World.drewN _) (Nat.add_assoc _ _ _))⟩))); try go_wp2_with (first | (go_at_call 30; (with_reducible refine (plenumref03_inside.calls ((rd_T50 l0 x3_2).f0) true _ A7.out).mono ?_); rintro e w' ⟨rfl, ⟨nd, rfl⟩⟩; (try first | exact ⟨rfl, _, World.drewN_drewN _ _ _⟩ | exact ⟨rfl, _, Eq.trans (World.drewN_drewN _ _ _) (congrArg (World.drewN _) (Nat.add_assoc _ _ _))⟩); have p260 : 0 ≤ (x3_2 : Int) := of_decide_eq_true (by first | (with_reducible assumption) | assumption); have q260 : x3_2 < (l0.length : Int) := of_decide_eq_true (by first | (with_reducible assumption) | assumption); obtain ⟨ad260, e260, hx260_0, hx260_1⟩ := at_T50 HR0.out x3_2 p260 q260; obtain rfl : ad258 = ad260 := (by injection e260); replace p260 := eq_true p260; replace q260 := eq_true q260) | (go_at_call 30; (with_reducible refine (plenumref03_inside.calls ((rd_T50 l0 x3_2).f1) false _ A9.out).mono ?_); rintro e w' ⟨rfl, ⟨nd, rfl⟩⟩; (try first | exact ⟨rfl, _, World.drewN_drewN _ _ _⟩ | exact ⟨rfl, _, Eq.trans (World.drewN_drewN _ _ _) (congrArg (World.drewN _) (Nat.add_assoc _ _ _))⟩))))
          go_ret
          exact ⟨by first | rfl | (simp; done) | (simp [*]; done), by repeat (first | exact Drawn0.refl _ | apply Drawn0.step)⟩
        ·
         replace c8 := Bool.eq_false_iff.mpr c8
         subst c8
         have H1 : (some 6) = some r := by rw [if_neg (show ¬ (false = true) by decide)] at H; exact H
         clear H
         have H := H1
         clear H1
         obtain rfl := Option.some.inj H
         have p258 : 0 ≤ (x3_2 : Int) := of_decide_eq_true (by first | (with_reducible assumption) | assumption)
         have q258 : x3_2 < (l0.length : Int) := of_decide_eq_true (by first | (with_reducible assumption) | assumption)
         obtain ⟨ad258, e258, hx258_0, hx258_1⟩ := at_T50 HR0.out x3_2 p258 q258
         cases e258
         replace p258 := eq_true p258
         replace q258 := eq_true q258
         go_wp2_with (first | (go_at_call 30; (with_reducible refine (plenumref03_inside.calls ((rd_T50 l0 x3_2).f0) false _ A7.out).mono ?_); rintro e w' ⟨rfl, ⟨nd, rfl⟩⟩; (try first | exact ⟨rfl, _, World.drewN_drewN _ _ _⟩ | exact ⟨rfl, _, Eq.trans (World.drewN_drewN _ _ _) (congrArg (World.drewN _) (Nat.add_assoc _ _ _))⟩)))
         repeat (go_quiet (first | (go_at_call 30; (with_reducible refine (plenumref03_inside.calls ((rd_T50 l0 x3_2).f0) false _ A7.out).mono ?_); rintro e w' ⟨rfl, ⟨nd, rfl⟩⟩; (try first | exact ⟨rfl, _, World.drewN_drewN _ _ _⟩ | exact ⟨rfl, _, Eq.trans (World.drewN_drewN _ _ _) (congrArg (World.drewN _) (Nat.add_assoc _ _ _))⟩))); try go_wp2_with (first | (go_at_call 30; (with_reducible refine (plenumref03_inside.calls ((rd_T50 l0 x3_2).f0) false _ A7.out).mono ?_); rintro e w' ⟨rfl, ⟨nd, rfl⟩⟩; (try first | exact ⟨rfl, _, World.drewN_drewN _ _ _⟩ | exact ⟨rfl, _, Eq.trans (World.drewN_drewN _ _ _) (congrArg (World.drewN _) (Nat.add_assoc _ _ _))⟩))))
         go_ret
         exact ⟨by first | rfl | (simp; done) | (simp [*]; done), by repeat (first | exact Drawn0.refl _ | apply Drawn0.step)⟩
       ·
        rw [if_neg c6] at H
        exact absurd H (by simp)
      ·
       rw [if_neg c5] at H
       have c5b0 : decide (x3_2 < (l0.length : Int)) = false := decide_eq_false c5
       clear c5
       have H' := Aside0.mk H
       clear H
       go_wp2
       repeat (go_quiet (fail); try go_wp2)
       go_loopg [4] k2 (fun kq v4 w' => ∃ (x4_3 : Int), v4 = .int .i64 x4_3 ∧ Aside0 (plenumref03_Check.l1 kq l0 x4_3 = some r) ∧ Aside0 (kq ≤ k2) ∧ Drawn0 w w')
       case atStart => exact ⟨(1), (by first | rfl | (simp; done) | (simp [*]; done)), H', ⟨Nat.le_refl _⟩, by repeat (first | exact Drawn0.refl _ | apply Drawn0.step)⟩
       case round =>
        clear H'
        try clear c1
        try clear p2
        try clear q2
        try clear hx2
        try clear c3
        try clear c3b0
        try clear c3b1
        try clear c4
        try clear c5
        try clear c5b0
        try clear c6
        try clear c6b0
        try clear p6
        try clear c8
        try clear c10
        try clear hx258_0
        try clear hx258_1
        try clear hx260_0
        try clear hx260_1
        try clear p2
        try clear p258
        try clear p260
        try clear q258
        try clear q260
        obtain ⟨x4_3, rfl, HA, HK3, ⟨m3, rfl⟩⟩ := hrel
        cases gk with
        | zero => exact absurd HA.out (by simp [plenumref03_Check.l1])
        | succ k3 =>
         have H := HA.out
         clear HA
         simp only [plenumref03_Check.l1] at H
         by_cases c11 : x4_3 < (l0.length : Int)
         ·
          rw [if_pos c11] at H
          have c11b0 : decide (x4_3 < (l0.length : Int)) = true := decide_eq_true c11
          clear c11
          obtain ⟨ji12, hji12⟩ : ∃ j_ : Int, (wrap64 (x4_3 - 1)) = j_ := ⟨_, rfl⟩
          replace H : (if 0 ≤ (ji12) then (if (ji12) < (l0.length : Int) then (if 0 ≤ x4_3 then (if ((rd_T50 l0 (ji12)).f0) ≥ ((rd_T50 l0 x4_3).f0) then (some 5) else (plenumref03_Check.l1 k3 l0 (wrap64 (x4_3 + 1)))) else (none)) else (none)) else (none)) = some r := by first | (rw [hji12] at H; exact H) | (simp only [hji12] at H ⊢; exact H)
          have hji12w : (IntKind.i64.wrap (x4_3 - 1)) = ji12 := (i64_w _).trans hji12
          by_cases c13 : 0 ≤ (ji12)
          ·
           rw [if_pos c13] at H
           have c13b0 : decide (0 ≤ (ji12)) = true := decide_eq_true c13
           clear c13
           by_cases c14 : (ji12) < (l0.length : Int)
           ·
            rw [if_pos c14] at H
            have c14b0 : decide ((ji12) < (l0.length : Int)) = true := decide_eq_true c14
            clear c14
            by_cases c15 : 0 ≤ x4_3
            ·
             rw [if_pos c15] at H
             have c15b0 : decide (0 ≤ x4_3) = true := decide_eq_true c15
             clear c15
             by_cases c16 : ((rd_T50 l0 (ji12)).f0) ≥ ((rd_T50 l0 x4_3).f0)
             ·
              rw [if_pos c16] at H
              have c16b0 : decide (((rd_T50 l0 x4_3).f0) ≤ ((rd_T50 l0 (ji12)).f0)) = true := decide_eq_true c16
              clear c16
              obtain rfl := Option.some.inj H
              have p262 : 0 ≤ ((ji12) : Int) := of_decide_eq_true (by first | (with_reducible assumption) | assumption)
              have q262 : (ji12) < (l0.length : Int) := of_decide_eq_true (by first | (with_reducible assumption) | assumption)
              obtain ⟨ad262, e262, hx262_0, hx262_1⟩ := at_T50 HR0.out (ji12) p262 q262
              cases e262
              replace p262 := eq_true p262
              replace q262 := eq_true q262
              have p263 : 0 ≤ (x4_3 : Int) := of_decide_eq_true (by first | (with_reducible assumption) | assumption)
              have q263 : x4_3 < (l0.length : Int) := of_decide_eq_true (by first | (with_reducible assumption) | assumption)
              obtain ⟨ad263, e263, hx263_0, hx263_1⟩ := at_T50 HR0.out x4_3 p263 q263
              obtain rfl : ad262 = ad263 := (by injection e263)
              replace p263 := eq_true p263
              replace q263 := eq_true q263
              go_wp2
              repeat (go_quiet (fail); try go_wp2)
              go_ret
              exact ⟨by first | rfl | (simp; done) | (simp only [← hji12] <;> (first | rfl | simp)) | (simp [*]; done), by repeat (first | exact Drawn0.refl _ | apply Drawn0.step)⟩
             ·
              rw [if_neg c16] at H
              have c16b0 : decide (((rd_T50 l0 x4_3).f0) ≤ ((rd_T50 l0 (ji12)).f0)) = false := decide_eq_false c16
              clear c16
              have H' := Aside0.mk H
              clear H
              have p262 : 0 ≤ ((ji12) : Int) := of_decide_eq_true (by first | (with_reducible assumption) | assumption)
              have q262 : (ji12) < (l0.length : Int) := of_decide_eq_true (by first | (with_reducible assumption) | assumption)
              obtain ⟨ad262, e262, hx262_0, hx262_1⟩ := at_T50 HR0.out (ji12) p262 q262
              cases e262
              replace p262 := eq_true p262
              replace q262 := eq_true q262
              have p263 : 0 ≤ (x4_3 : Int) := of_decide_eq_true (by first | (with_reducible assumption) | assumption)
              have q263 : x4_3 < (l0.length : Int) := of_decide_eq_true (by first | (with_reducible assumption) | assumption)
              obtain ⟨ad263, e263, hx263_0, hx263_1⟩ := at_T50 HR0.out x4_3 p263 q263
              obtain rfl : ad262 = ad263 := (by injection e263)
              replace p263 := eq_true p263
              replace q263 := eq_true q263
              go_wp2
              repeat (go_quiet (fail); try go_wp2)
              go_roundg k3
              case measure => have := HJ1.out; have := HK2.out; have := HK3.out; omega
              case rel => exact ⟨(wrap64 (x4_3 + 1)), (by first | rfl | (simp; done) | (simp [*]; done)), H', ⟨by have := HJ1.out; have := HK2.out; have := HK3.out; omega⟩, by repeat (first | exact Drawn0.refl _ | apply Drawn0.step)⟩
            ·
             rw [if_neg c15] at H
             exact absurd H (by simp)
           ·
            rw [if_neg c14] at H
            exact absurd H (by simp)
          ·
           rw [if_neg c13] at H
           exact absurd H (by simp)
         ·
          rw [if_neg c11] at H
          have c11b0 : decide (x4_3 < (l0.length : Int)) = false := decide_eq_false c11
          clear c11
          obtain rfl := Option.some.inj H
          go_wp2
          repeat (go_quiet (fail); try go_wp2)
          go_ret
          exact ⟨by first | rfl | (simp; done) | (simp [*]; done), by repeat (first | exact Drawn0.refl _ | apply Drawn0.step)⟩
end Go.Proofs.Ytacheoimnckghaa.PT
