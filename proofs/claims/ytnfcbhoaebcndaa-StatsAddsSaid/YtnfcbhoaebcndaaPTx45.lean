-- Laid by hp.py (a program of this session's) through the kit's printer. (squeezed)
import Derived.Test.YtnfcbhoaebcndaaPTx0
import Derived.Test.YtnfcbhoaebcndaaPTx25
namespace Go.Proofs.Ytnfcbhoaebcndaa.PT
open Go.RowKit Go.Proofs.YtnfcbhoaebcndaaW.PrintWords Go.Proofs.YtnfcbhoaebcndaaW.PrintLast Go.Proofs.YtnfcbhoaebcndaaW.PrintMore
attribute [local go_sem] max2_int min2_int max_two min_two max_three min_three max_four min_four   -- for this text's walks alone
set_option linter.unusedVariables false
set_option linter.unusedSimpArgs false
/-! ### plenumref44_Extremes: function 35 -/
def plenumref44_Extremes.l0 : Nat → Int → Int → Bool → List (S81) → Int → Option (Int × Int × Bool)
 | 0, _, _, _, _, _ => none
 | k + 1, x9, x10, x11, x12, x13 => if x13 < (x12.length : Int) then (if 0 ≤ x13 then (if ((rd_T81 x12 x13).f0.f0) = 1 then (if x11 = true then (plenumref44_Extremes.l0 k (mn x9 ((rd_T81 x12 x13).f0.f1)) (mx x10 ((rd_T81 x12 x13).f0.f1)) x11 x12 (wrap64 (x13 + 1))) else (plenumref44_Extremes.l0 k ((rd_T81 x12 x13).f0.f1) ((rd_T81 x12 x13).f0.f1) true x12 (wrap64 (x13 + 1)))) else (plenumref44_Extremes.l0 k x9 x10 x11 x12 (wrap64 (x13 + 1)))) else (none)) else (some (x9, x10, x11))
def plenumref44_Extremes.f (k : Nat) (l0 : List (S57)) (a1 : Int) (a2 : Int) : Option (Int × Int × Bool) := (plenumref44_Parts.f k l0 a1 a2).bind fun t408 => (plenumref44_Extremes.l0 k 0 0 false t408 0)
theorem plenumref44_Extremes.mono_l : ∀ k, (∀ y0 y1 y2 y3 y4, LeO (plenumref44_Extremes.l0 k y0 y1 y2 y3 y4) (plenumref44_Extremes.l0 (k + 1) y0 y1 y2 y3 y4))
 | 0 => fun _ _ _ _ _ r h => by simp [plenumref44_Extremes.l0] at h
 | k + 1 => by
  have ih0 := plenumref44_Extremes.mono_l k
  ·
   intro y0 y1 y2 y3 y4
   unfold plenumref44_Extremes.l0
   repeat' first
   | (with_reducible exact ih0 _ _ _ _ _)
   | (with_reducible exact plenumref44_Parts.mono _ _ _ _)
   | (with_reducible exact LeO.refl _)
   | (with_reducible exact LeO.none _)
   | (with_reducible refine LeO.ite ?_ ?_)
   | (with_reducible refine LeO.bind ?_ (fun _ => ?_))
   | exact ih0 _ _ _ _ _
   | exact plenumref44_Parts.mono _ _ _ _
   | exact LeO.none _
   | refine LeO.ite ?_ ?_
   | refine LeO.bind ?_ (fun _ => ?_)
theorem plenumref44_Extremes.mono : ∀ a0 a1 a2 k, LeO (plenumref44_Extremes.f k a0 a1 a2) (plenumref44_Extremes.f (k + 1) a0 a1 a2) := by
 intro a0 a1 a2 k
 have ih0 := plenumref44_Extremes.mono_l k
 unfold plenumref44_Extremes.f
 repeat' first
  | (with_reducible exact ih0 _ _ _ _ _)
  | (with_reducible exact plenumref44_Parts.mono _ _ _ _)
  | (with_reducible exact LeO.refl _)
  | (with_reducible exact LeO.none _)
  | (with_reducible refine LeO.ite ?_ ?_)
  | (with_reducible refine LeO.bind ?_ (fun _ => ?_))
  | exact ih0 _ _ _ _ _
  | exact plenumref44_Parts.mono _ _ _ _
  | exact LeO.none _
  | refine LeO.ite ?_ ?_
  | refine LeO.bind ?_ (fun _ => ?_)
set_option maxHeartbeats 8000000 in
set_option maxRecDepth 100000 in
theorem plenumref44_Extremes.calls (k : Nat) (A0 : Option Addr) (c0 : Nat) (l0 : List (S57)) (a1 : Int) (a2 : Int) (r1 : Int) (r2 : Int) (r3 : Bool) (w : World) (hr0 : Kd.C k57 w A0 l0.length l0) (hc0 : l0.length ≤ c0) (h : plenumref44_Extremes.f k l0 a1 a2 = some (r1, r2, r3)) :
 Calls Try.prog 35 #[.slice A0 l0.length c0, .int .i64 a1, .int .i64 a2] w fun e w' => e = .returned (.tuple #[.int .i64 r1, .int .i64 r2, .bool r3]) ∧ Below w.heap.size w w' := by
 have HR0 := Aside0.mk hr0
 have HC0 := Aside0.mk hc0
 clear hr0 hc0
 have HB := Aside0.mk (Below.refl w.heap.size w)
 have H : ((plenumref44_Parts.f k l0 a1 a2).bind fun t408 => (plenumref44_Extremes.l0 k 0 0 false t408 0)) = some (r1, r2, r3) := h
 clear h
 replace H := Option.bind_eq_some_iff.mp H
 obtain ⟨t408, A40, H⟩ := H
 replace H : (plenumref44_Extremes.l0 k 0 0 false t408 0) = some (r1, r2, r3) := H
 have A4 := Aside0.mk A40
 clear A40
 have H' := Aside0.mk H
 clear H
 go_enter Try.func35, Try.ntmps35
 go_wp2_with (first | ((with_reducible refine gate_callee (f := 50) rfl ?_); refine goesL_ (some 18) rfl rfl Try.func50 (by kernel_rfl) rfl #[.slice A0 l0.length c0, .int .i64 a1, .int .i64 a2] rfl (by (try simp only [List.map_toArray, List.map_cons, List.map_nil]); first | done | rfl | (simp only [List.length_drop, List.length_take]; rfl)) ?_; (with_reducible refine (plenumref44_Parts.calls k _ _ l0 a1 a2 t408 _ ?side1 ?side2 A4.out).mono ?_); (case side1 => repeat (first | exact HR0.out | (with_reducible refine Kd.C_alloc ?_ _) | (with_reducible refine Kd.C_drewN ?_ _) | (with_reducible refine Kd.C_drew ?_))); (case side2 => exact HC0.out); rintro e w5 ⟨v409, rfl, ho0, hb⟩; refine ⟨_, rfl, ?_⟩; have n0_ := Aside0.mk (Kd.R_lower ho0 (below_size (by repeat (first | (with_reducible first | exact HB.out | apply below_alloc | apply pw_below_drewN | apply below_drew1) | exact HB.out)))); have n1_ := Aside0.mk (below_step (by repeat (first | (with_reducible first | exact HB.out | apply below_alloc | apply pw_below_drewN | apply below_drew1) | exact HB.out)) hb); clear HB; have HO410 := n0_; have HB := n1_; clear n0_ n1_; (try clear hb); (try clear hb2); (try clear hk); (try clear hi); (try clear ho0)))
 go_loopg [9, 10, 11, 13] k (fun kq v9 v10 v11 v13 w' => ∃ (x9_1 : Int) (x10_1 : Int) (x11_1 : Bool) (x13_1 : Int), v9 = .int .i64 x9_1 ∧ v10 = .int .i64 x10_1 ∧ v11 = .bool x11_1 ∧ v13 = .int .i64 x13_1 ∧ Aside0 (plenumref44_Extremes.l0 kq x9_1 x10_1 x11_1 t408 x13_1 = some (r1, r2, r3)) ∧ Aside0 (kq ≤ k) ∧ Aside0 (Kd.R k81 81 w' w.heap.size (fun _ => True) v409 t408) ∧ Aside0 (Below w.heap.size w w'))
 case atStart => exact ⟨(0), (0), (false), (0), (by first | rfl | (simp; done) | (simp [*]; done)), (by first | rfl | (simp; done) | (simp [*]; done)), (by first | rfl | (simp; done) | (simp [*]; done)), (by first | rfl | (simp; done) | (simp [*]; done)), H', ⟨Nat.le_refl _⟩, ⟨by (with_reducible repeat (first | apply Kd.R_alloc | apply Kd.R_drewN | apply Kd.R_drew)); exact HO410.out⟩, ⟨by repeat (first | (with_reducible first | exact HB.out | apply below_alloc | apply pw_below_drewN | apply below_drew1) | exact HB.out)⟩⟩
 case round =>
  clear H'
  try clear p2
  try clear c3
  try clear c5
  obtain ⟨x9_1, x10_1, x11_1, x13_1, rfl, rfl, rfl, rfl, HA, HK1, HO_12, HB⟩ := hrel
  cases gk with
  | zero => exact absurd HA.out (by simp [plenumref44_Extremes.l0])
  | succ k1 =>
   have H := HA.out
   clear HA
   simp only [plenumref44_Extremes.l0] at H
   by_cases c6 : x13_1 < (t408.length : Int)
   ·
    rw [if_pos c6] at H
    have c6b0 : decide (x13_1 < (t408.length : Int)) = true := decide_eq_true c6
    clear c6
    by_cases c7 : 0 ≤ x13_1
    ·
     rw [if_pos c7] at H
     have c7b0 : decide (0 ≤ x13_1) = true := decide_eq_true c7
     clear c7
     by_cases c8 : ((rd_T81 t408 x13_1).f0.f0) = 1
     ·
      rw [if_pos c8] at H
      have c8b0 : (((rd_T81 t408 x13_1).f0.f0) == 1) = true := beq_iff_eq.mpr c8
      have c8b1 : (((rd_T81 t408 x13_1).f0.f0) != 1) = false := bne_eq_false_iff_eq.mpr c8
      clear c8
      by_cases c9 : x11_1 = true
      ·
       subst c9
       have H1 : (plenumref44_Extremes.l0 k1 (mn x9_1 ((rd_T81 t408 x13_1).f0.f1)) (mx x10_1 ((rd_T81 t408 x13_1).f0.f1)) true t408 (wrap64 (x13_1 + 1))) = some (r1, r2, r3) := by rw [if_pos rfl] at H; exact H
       clear H
       have H := H1
       clear H1
       obtain ⟨ji10, hji10⟩ : ∃ j_ : Int, (mn x9_1 ((rd_T81 t408 x13_1).f0.f1)) = j_ := ⟨_, rfl⟩
       replace H : (plenumref44_Extremes.l0 k1 ji10 (mx x10_1 ((rd_T81 t408 x13_1).f0.f1)) true t408 (wrap64 (x13_1 + 1))) = some (r1, r2, r3) := by first | (rw [hji10] at H; exact H) | (simp only [hji10] at H ⊢; exact H)
       have hji10_ : (if ((rd_T81 t408 x13_1).f0.f1) < x9_1 then ((rd_T81 t408 x13_1).f0.f1) else x9_1) = ji10 := hji10
       obtain ⟨ji11, hji11⟩ : ∃ j_ : Int, (mx x10_1 ((rd_T81 t408 x13_1).f0.f1)) = j_ := ⟨_, rfl⟩
       replace H : (plenumref44_Extremes.l0 k1 ji10 ji11 true t408 (wrap64 (x13_1 + 1))) = some (r1, r2, r3) := by first | (rw [hji11] at H; exact H) | (simp only [hji11] at H ⊢; exact H)
       have hji11_ : (if x10_1 < ((rd_T81 t408 x13_1).f0.f1) then ((rd_T81 t408 x13_1).f0.f1) else x10_1) = ji11 := hji11
       have H' := Aside0.mk H
       clear H
       obtain ⟨Ao12, co12, eo12⟩ := Kd.R_slice HO_12.out
       subst eo12
       have p411 : 0 ≤ (x13_1 : Int) := of_decide_eq_true (by first | (with_reducible assumption) | assumption)
       have q411 : x13_1 < (t408.length : Int) := of_decide_eq_true (by first | (with_reducible assumption) | assumption)
       obtain ⟨ad411, e411, hx411_0, hx411_1, hx411_2⟩ := at_T81 (Kd.R_reads' HO_12.out).2.2 x13_1 p411 q411
       cases e411
       replace p411 := eq_true p411
       replace q411 := eq_true q411
       have p412 : 0 ≤ (x13_1 : Int) := of_decide_eq_true (by first | (with_reducible assumption) | assumption)
       have q412 : x13_1 < (t408.length : Int) := of_decide_eq_true (by first | (with_reducible assumption) | assumption)
       obtain ⟨ad412, e412, hx412_0, hx412_1, hx412_2⟩ := at_T81 (Kd.R_reads' HO_12.out).2.2 x13_1 p412 q412
       obtain rfl : ad411 = ad412 := (by injection e412)
       replace p412 := eq_true p412
       replace q412 := eq_true q412
       go_wp2
       go_roundg k1
       case measure => have := HK1.out; omega
       case rel => exact ⟨(ji10), (ji11), (true), (wrap64 (x13_1 + 1)), (by first | rfl | (simp; done) | (simp only [← hji10] <;> (first | rfl | simp)) | (simp [*]; done)), (by first | rfl | (simp; done) | (simp only [← hji11] <;> (first | rfl | simp)) | (simp [*]; done)), (by first | rfl | (simp; done) | (simp [*]; done)), (by first | rfl | (simp; done) | (simp [*]; done)), H', ⟨by have := HK1.out; omega⟩, ⟨by (with_reducible repeat (first | apply Kd.R_alloc | apply Kd.R_drewN | apply Kd.R_drew)); exact HO_12.out⟩, ⟨by repeat (first | (with_reducible first | exact HB.out | apply below_alloc | apply pw_below_drewN | apply below_drew1) | exact HB.out)⟩⟩
      ·
       replace c9 := Bool.eq_false_iff.mpr c9
       subst c9
       have H1 : (plenumref44_Extremes.l0 k1 ((rd_T81 t408 x13_1).f0.f1) ((rd_T81 t408 x13_1).f0.f1) true t408 (wrap64 (x13_1 + 1))) = some (r1, r2, r3) := by rw [if_neg (show ¬ (false = true) by decide)] at H; exact H
       clear H
       have H := H1
       clear H1
       have H' := Aside0.mk H
       clear H
       obtain ⟨Ao13, co13, eo13⟩ := Kd.R_slice HO_12.out
       subst eo13
       have p411 : 0 ≤ (x13_1 : Int) := of_decide_eq_true (by first | (with_reducible assumption) | assumption)
       have q411 : x13_1 < (t408.length : Int) := of_decide_eq_true (by first | (with_reducible assumption) | assumption)
       obtain ⟨ad411, e411, hx411_0, hx411_1, hx411_2⟩ := at_T81 (Kd.R_reads' HO_12.out).2.2 x13_1 p411 q411
       cases e411
       replace p411 := eq_true p411
       replace q411 := eq_true q411
       have p412 : 0 ≤ (x13_1 : Int) := of_decide_eq_true (by first | (with_reducible assumption) | assumption)
       have q412 : x13_1 < (t408.length : Int) := of_decide_eq_true (by first | (with_reducible assumption) | assumption)
       obtain ⟨ad412, e412, hx412_0, hx412_1, hx412_2⟩ := at_T81 (Kd.R_reads' HO_12.out).2.2 x13_1 p412 q412
       obtain rfl : ad411 = ad412 := (by injection e412)
       replace p412 := eq_true p412
       replace q412 := eq_true q412
       go_wp2
       go_roundg k1
       case measure => have := HK1.out; omega
       case rel => exact ⟨((rd_T81 t408 x13_1).f0.f1), ((rd_T81 t408 x13_1).f0.f1), (true), (wrap64 (x13_1 + 1)), (by first | rfl | (simp; done) | (simp [*]; done)), (by first | rfl | (simp; done) | (simp [*]; done)), (by first | rfl | (simp; done) | (simp [*]; done)), (by first | rfl | (simp; done) | (simp [*]; done)), H', ⟨by have := HK1.out; omega⟩, ⟨by (with_reducible repeat (first | apply Kd.R_alloc | apply Kd.R_drewN | apply Kd.R_drew)); exact HO_12.out⟩, ⟨by repeat (first | (with_reducible first | exact HB.out | apply below_alloc | apply pw_below_drewN | apply below_drew1) | exact HB.out)⟩⟩
     ·
      rw [if_neg c8] at H
      have c8b0 : (((rd_T81 t408 x13_1).f0.f0) == 1) = false := beq_eq_false_iff_ne.mpr c8
      have c8b1 : (((rd_T81 t408 x13_1).f0.f0) != 1) = true := bne_iff_ne.mpr c8
      have H' := Aside0.mk H
      clear H
      obtain ⟨Ao14, co14, eo14⟩ := Kd.R_slice HO_12.out
      subst eo14
      have p411 : 0 ≤ (x13_1 : Int) := of_decide_eq_true (by first | (with_reducible assumption) | assumption)
      have q411 : x13_1 < (t408.length : Int) := of_decide_eq_true (by first | (with_reducible assumption) | assumption)
      obtain ⟨ad411, e411, hx411_0, hx411_1, hx411_2⟩ := at_T81 (Kd.R_reads' HO_12.out).2.2 x13_1 p411 q411
      cases e411
      replace p411 := eq_true p411
      replace q411 := eq_true q411
      have p412 : 0 ≤ (x13_1 : Int) := of_decide_eq_true (by first | (with_reducible assumption) | assumption)
      have q412 : x13_1 < (t408.length : Int) := of_decide_eq_true (by first | (with_reducible assumption) | assumption)
      obtain ⟨ad412, e412, hx412_0, hx412_1, hx412_2⟩ := at_T81 (Kd.R_reads' HO_12.out).2.2 x13_1 p412 q412
      obtain rfl : ad411 = ad412 := (by injection e412)
      replace p412 := eq_true p412
      replace q412 := eq_true q412
      go_wp2
      go_roundg k1
      case measure => have := HK1.out; omega
      case rel => exact ⟨(x9_1), (x10_1), (x11_1), (wrap64 (x13_1 + 1)), (by first | rfl | (simp; done) | (simp [*]; done)), (by first | rfl | (simp; done) | (simp [*]; done)), (by first | rfl | (simp; done) | (simp [*]; done)), (by first | rfl | (simp; done) | (simp [*]; done)), H', ⟨by have := HK1.out; omega⟩, ⟨by (with_reducible repeat (first | apply Kd.R_alloc | apply Kd.R_drewN | apply Kd.R_drew)); exact HO_12.out⟩, ⟨by repeat (first | (with_reducible first | exact HB.out | apply below_alloc | apply pw_below_drewN | apply below_drew1) | exact HB.out)⟩⟩
    ·
     rw [if_neg c7] at H
     exact absurd H (by simp)
   ·
    rw [if_neg c6] at H
    have c6b0 : decide (x13_1 < (t408.length : Int)) = false := decide_eq_false c6
    clear c6
    simp only [Option.some.injEq, Prod.mk.injEq] at H
    obtain ⟨rfl, rfl, rfl⟩ := H
    obtain ⟨Ao15, co15, eo15⟩ := Kd.R_slice HO_12.out
    subst eo15
    go_wp2
    go_ret3
    exact ⟨by first | rfl | (simp [errW_none, errW_some] <;> rfl) | (simp [*, errW_none, errW_some] <;> rfl), by repeat (first | (with_reducible first | exact HB.out | apply below_alloc | apply pw_below_drewN | apply below_drew1) | exact HB.out)⟩
end Go.Proofs.Ytnfcbhoaebcndaa.PT
