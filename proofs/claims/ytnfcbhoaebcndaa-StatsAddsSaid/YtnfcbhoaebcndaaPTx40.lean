-- Laid by hp.py (a program of this session's) through the kit's printer. (squeezed)
import Derived.Test.YtnfcbhoaebcndaaPTx0
import Derived.Test.YtnfcbhoaebcndaaPTx25
namespace Go.Proofs.Ytnfcbhoaebcndaa.PT
open Go.RowKit Go.Proofs.YtnfcbhoaebcndaaW.PrintWords Go.Proofs.YtnfcbhoaebcndaaW.PrintLast Go.Proofs.YtnfcbhoaebcndaaW.PrintMore
attribute [local go_sem] max2_int min2_int max_two min_two max_three min_three max_four min_four   -- for this text's walks alone
set_option linter.unusedVariables false
set_option linter.unusedSimpArgs false
/-! ### plenumref44_Integral: function 33 -/
def plenumref44_Integral.l0 : Nat → Int → Int → List (S81) → Int → Option (Int × Int)
 | 0, _, _, _, _ => none
 | k + 1, x8, x9, x10, x11 => if x11 < (x10.length : Int) then (if 0 ≤ x11 then (if ((rd_T81 x10 x11).f0.f0) = 1 then (plenumref44_Integral.l0 k (wrap64 (x8 + (wrap64 (((rd_T81 x10 x11).f0.f1) * ((rd_T81 x10 x11).f1))))) (wrap64 (x9 + ((rd_T81 x10 x11).f1))) x10 (wrap64 (x11 + 1))) else (plenumref44_Integral.l0 k x8 x9 x10 (wrap64 (x11 + 1)))) else (none)) else (some (x8, x9))
def plenumref44_Integral.f (k : Nat) (l0 : List (S57)) (a1 : Int) (a2 : Int) : Option (Int × Int) := (plenumref44_Parts.f k l0 a1 a2).bind fun t395 => (plenumref44_Integral.l0 k 0 0 t395 0)
theorem plenumref44_Integral.mono_l : ∀ k, (∀ y0 y1 y2 y3, LeO (plenumref44_Integral.l0 k y0 y1 y2 y3) (plenumref44_Integral.l0 (k + 1) y0 y1 y2 y3))
 | 0 => fun _ _ _ _ r h => by simp [plenumref44_Integral.l0] at h
 | k + 1 => by
  have ih0 := plenumref44_Integral.mono_l k
  ·
   intro y0 y1 y2 y3
   unfold plenumref44_Integral.l0
   repeat' first
   | (with_reducible exact ih0 _ _ _ _)
   | (with_reducible exact plenumref44_Parts.mono _ _ _ _)
   | (with_reducible exact LeO.refl _)
   | (with_reducible exact LeO.none _)
   | (with_reducible refine LeO.ite ?_ ?_)
   | (with_reducible refine LeO.bind ?_ (fun _ => ?_))
   | exact ih0 _ _ _ _
   | exact plenumref44_Parts.mono _ _ _ _
   | exact LeO.none _
   | refine LeO.ite ?_ ?_
   | refine LeO.bind ?_ (fun _ => ?_)
theorem plenumref44_Integral.mono : ∀ a0 a1 a2 k, LeO (plenumref44_Integral.f k a0 a1 a2) (plenumref44_Integral.f (k + 1) a0 a1 a2) := by
 intro a0 a1 a2 k
 have ih0 := plenumref44_Integral.mono_l k
 unfold plenumref44_Integral.f
 repeat' first
  | (with_reducible exact ih0 _ _ _ _)
  | (with_reducible exact plenumref44_Parts.mono _ _ _ _)
  | (with_reducible exact LeO.refl _)
  | (with_reducible exact LeO.none _)
  | (with_reducible refine LeO.ite ?_ ?_)
  | (with_reducible refine LeO.bind ?_ (fun _ => ?_))
  | exact ih0 _ _ _ _
  | exact plenumref44_Parts.mono _ _ _ _
  | exact LeO.none _
  | refine LeO.ite ?_ ?_
  | refine LeO.bind ?_ (fun _ => ?_)
set_option maxHeartbeats 8000000 in
set_option maxRecDepth 100000 in
theorem plenumref44_Integral.calls (k : Nat) (A0 : Option Addr) (c0 : Nat) (l0 : List (S57)) (a1 : Int) (a2 : Int) (r1 : Int) (r2 : Int) (w : World) (hr0 : Kd.C k57 w A0 l0.length l0) (hc0 : l0.length ≤ c0) (h : plenumref44_Integral.f k l0 a1 a2 = some (r1, r2)) :
 Calls Try.prog 33 #[.slice A0 l0.length c0, .int .i64 a1, .int .i64 a2] w fun e w' => e = .returned (.tuple #[.int .i64 r1, .int .i64 r2]) ∧ Below w.heap.size w w' := by
 have HR0 := Aside0.mk hr0
 have HC0 := Aside0.mk hc0
 clear hr0 hc0
 have HB := Aside0.mk (Below.refl w.heap.size w)
 have H : ((plenumref44_Parts.f k l0 a1 a2).bind fun t395 => (plenumref44_Integral.l0 k 0 0 t395 0)) = some (r1, r2) := h
 clear h
 replace H := Option.bind_eq_some_iff.mp H
 obtain ⟨t395, A40, H⟩ := H
 replace H : (plenumref44_Integral.l0 k 0 0 t395 0) = some (r1, r2) := H
 have A4 := Aside0.mk A40
 clear A40
 have H' := Aside0.mk H
 clear H
 go_enter Try.func33, Try.ntmps33
 go_wp2_with (first | (go_at_call 50; (with_reducible refine (plenumref44_Parts.calls k _ _ l0 a1 a2 t395 _ ?side1 ?side2 A4.out).mono ?_); (case side1 => repeat (first | exact HR0.out | (with_reducible refine Kd.C_alloc ?_ _) | (with_reducible refine Kd.C_drewN ?_ _) | (with_reducible refine Kd.C_drew ?_))); (case side2 => exact HC0.out); rintro e w5 ⟨v396, rfl, ho0, hb⟩; have n0_ := Aside0.mk (Kd.R_lower ho0 (below_size (by repeat (first | (with_reducible first | exact HB.out | apply below_alloc | apply pw_below_drewN | apply below_drew1) | exact HB.out)))); have n1_ := Aside0.mk (below_step (by repeat (first | (with_reducible first | exact HB.out | apply below_alloc | apply pw_below_drewN | apply below_drew1) | exact HB.out)) hb); clear HB; have HO397 := n0_; have HB := n1_; clear n0_ n1_; (try clear hb); (try clear hb2); (try clear hk); (try clear hi); (try clear ho0)))
 repeat (go_quiet (first | (go_at_call 50; (with_reducible refine (plenumref44_Parts.calls k _ _ l0 a1 a2 t395 _ ?side1 ?side2 A4.out).mono ?_); (case side1 => repeat (first | exact HR0.out | (with_reducible refine Kd.C_alloc ?_ _) | (with_reducible refine Kd.C_drewN ?_ _) | (with_reducible refine Kd.C_drew ?_))); (case side2 => exact HC0.out); rintro e w5 ⟨v396, rfl, ho0, hb⟩; have n0_ := Aside0.mk (Kd.R_lower ho0 (below_size (by repeat (first | (with_reducible first | exact HB.out | apply below_alloc | apply pw_below_drewN | apply below_drew1) | exact HB.out)))); have n1_ := Aside0.mk (below_step (by repeat (first | (with_reducible first | exact HB.out | apply below_alloc | apply pw_below_drewN | apply below_drew1) | exact HB.out)) hb); clear HB; have HO397 := n0_; have HB := n1_; clear n0_ n1_; (try clear hb); (try clear hb2); (try clear hk); (try clear hi); (try clear ho0))); try go_wp2_with (first | (go_at_call 50; (with_reducible refine (plenumref44_Parts.calls k _ _ l0 a1 a2 t395 _ ?side1 ?side2 A4.out).mono ?_); (case side1 => repeat (first | exact HR0.out | (with_reducible refine Kd.C_alloc ?_ _) | (with_reducible refine Kd.C_drewN ?_ _) | (with_reducible refine Kd.C_drew ?_))); (case side2 => exact HC0.out); rintro e w5 ⟨v396, rfl, ho0, hb⟩; have n0_ := Aside0.mk (Kd.R_lower ho0 (below_size (by repeat (first | (with_reducible first | exact HB.out | apply below_alloc | apply pw_below_drewN | apply below_drew1) | exact HB.out)))); have n1_ := Aside0.mk (below_step (by repeat (first | (with_reducible first | exact HB.out | apply below_alloc | apply pw_below_drewN | apply below_drew1) | exact HB.out)) hb); clear HB; have HO397 := n0_; have HB := n1_; clear n0_ n1_; (try clear hb); (try clear hb2); (try clear hk); (try clear hi); (try clear ho0))))
 go_loopg [8, 9, 11] k (fun kq v8 v9 v11 w' => ∃ (x8_1 : Int) (x9_1 : Int) (x11_1 : Int), v8 = .int .i64 x8_1 ∧ v9 = .int .i64 x9_1 ∧ v11 = .int .i64 x11_1 ∧ Aside0 (plenumref44_Integral.l0 kq x8_1 x9_1 t395 x11_1 = some (r1, r2)) ∧ Aside0 (kq ≤ k) ∧ Aside0 (Kd.R k81 81 w' w.heap.size (fun _ => True) v396 t395) ∧ Aside0 (Below w.heap.size w w'))
 case atStart => exact ⟨(0), (0), (0), (by first | rfl | (simp; done) | (simp [*]; done)), (by first | rfl | (simp; done) | (simp [*]; done)), (by first | rfl | (simp; done) | (simp [*]; done)), H', ⟨Nat.le_refl _⟩, ⟨by (with_reducible repeat (first | apply Kd.R_alloc | apply Kd.R_drewN | apply Kd.R_drew)); exact HO397.out⟩, ⟨by repeat (first | (with_reducible first | exact HB.out | apply below_alloc | apply pw_below_drewN | apply below_drew1) | exact HB.out)⟩⟩
 case round =>
  clear H'
  try clear p2
  try clear c3
  obtain ⟨x8_1, x9_1, x11_1, rfl, rfl, rfl, HA, HK1, HO_10, HB⟩ := hrel
  cases gk with
  | zero => exact absurd HA.out (by simp [plenumref44_Integral.l0])
  | succ k1 =>
   have H := HA.out
   clear HA
   simp only [plenumref44_Integral.l0] at H
   by_cases c6 : x11_1 < (t395.length : Int)
   ·
    rw [if_pos c6] at H
    have c6b0 : decide (x11_1 < (t395.length : Int)) = true := decide_eq_true c6
    clear c6
    by_cases c7 : 0 ≤ x11_1
    ·
     rw [if_pos c7] at H
     have c7b0 : decide (0 ≤ x11_1) = true := decide_eq_true c7
     clear c7
     by_cases c8 : ((rd_T81 t395 x11_1).f0.f0) = 1
     ·
      rw [if_pos c8] at H
      have c8b0 : (((rd_T81 t395 x11_1).f0.f0) == 1) = true := beq_iff_eq.mpr c8
      have c8b1 : (((rd_T81 t395 x11_1).f0.f0) != 1) = false := bne_eq_false_iff_eq.mpr c8
      clear c8
      have H' := Aside0.mk H
      clear H
      obtain ⟨Ao9, co9, eo9⟩ := Kd.R_slice HO_10.out
      subst eo9
      have p398 : 0 ≤ (x11_1 : Int) := of_decide_eq_true (by first | (with_reducible assumption) | assumption)
      have q398 : x11_1 < (t395.length : Int) := of_decide_eq_true (by first | (with_reducible assumption) | assumption)
      obtain ⟨ad398, e398, hx398_0, hx398_1, hx398_2⟩ := at_T81 (Kd.R_reads' HO_10.out).2.2 x11_1 p398 q398
      cases e398
      replace p398 := eq_true p398
      replace q398 := eq_true q398
      have p399 : 0 ≤ (x11_1 : Int) := of_decide_eq_true (by first | (with_reducible assumption) | assumption)
      have q399 : x11_1 < (t395.length : Int) := of_decide_eq_true (by first | (with_reducible assumption) | assumption)
      obtain ⟨ad399, e399, hx399_0, hx399_1, hx399_2⟩ := at_T81 (Kd.R_reads' HO_10.out).2.2 x11_1 p399 q399
      obtain rfl : ad398 = ad399 := (by injection e399)
      replace p399 := eq_true p399
      replace q399 := eq_true q399
      have p400 : 0 ≤ (x11_1 : Int) := of_decide_eq_true (by first | (with_reducible assumption) | assumption)
      have q400 : x11_1 < (t395.length : Int) := of_decide_eq_true (by first | (with_reducible assumption) | assumption)
      obtain ⟨ad400, e400, hx400_0, hx400_1, hx400_2⟩ := at_T81 (Kd.R_reads' HO_10.out).2.2 x11_1 p400 q400
      obtain rfl : ad398 = ad400 := (by injection e400)
      replace p400 := eq_true p400
      replace q400 := eq_true q400
      have p401 : 0 ≤ (x11_1 : Int) := of_decide_eq_true (by first | (with_reducible assumption) | assumption)
      have q401 : x11_1 < (t395.length : Int) := of_decide_eq_true (by first | (with_reducible assumption) | assumption)
      obtain ⟨ad401, e401, hx401_0, hx401_1, hx401_2⟩ := at_T81 (Kd.R_reads' HO_10.out).2.2 x11_1 p401 q401
      obtain rfl : ad398 = ad401 := (by injection e401)
      replace p401 := eq_true p401
      replace q401 := eq_true q401
      go_wp2
      repeat (go_quiet (fail); try go_wp2)
      go_roundg k1
      case measure => have := HK1.out; omega
      case rel => exact ⟨(wrap64 (x8_1 + (wrap64 (((rd_T81 t395 x11_1).f0.f1) * ((rd_T81 t395 x11_1).f1))))), (wrap64 (x9_1 + ((rd_T81 t395 x11_1).f1))), (wrap64 (x11_1 + 1)), (by first | rfl | (simp; done) | (simp [*]; done)), (by first | rfl | (simp; done) | (simp [*]; done)), (by first | rfl | (simp; done) | (simp [*]; done)), H', ⟨by have := HK1.out; omega⟩, ⟨by (with_reducible repeat (first | apply Kd.R_alloc | apply Kd.R_drewN | apply Kd.R_drew)); exact HO_10.out⟩, ⟨by repeat (first | (with_reducible first | exact HB.out | apply below_alloc | apply pw_below_drewN | apply below_drew1) | exact HB.out)⟩⟩
     ·
      rw [if_neg c8] at H
      have c8b0 : (((rd_T81 t395 x11_1).f0.f0) == 1) = false := beq_eq_false_iff_ne.mpr c8
      have c8b1 : (((rd_T81 t395 x11_1).f0.f0) != 1) = true := bne_iff_ne.mpr c8
      have H' := Aside0.mk H
      clear H
      obtain ⟨Ao10, co10, eo10⟩ := Kd.R_slice HO_10.out
      subst eo10
      have p398 : 0 ≤ (x11_1 : Int) := of_decide_eq_true (by first | (with_reducible assumption) | assumption)
      have q398 : x11_1 < (t395.length : Int) := of_decide_eq_true (by first | (with_reducible assumption) | assumption)
      obtain ⟨ad398, e398, hx398_0, hx398_1, hx398_2⟩ := at_T81 (Kd.R_reads' HO_10.out).2.2 x11_1 p398 q398
      cases e398
      replace p398 := eq_true p398
      replace q398 := eq_true q398
      go_wp2
      repeat (go_quiet (fail); try go_wp2)
      go_roundg k1
      case measure => have := HK1.out; omega
      case rel => exact ⟨(x8_1), (x9_1), (wrap64 (x11_1 + 1)), (by first | rfl | (simp; done) | (simp [*]; done)), (by first | rfl | (simp; done) | (simp [*]; done)), (by first | rfl | (simp; done) | (simp [*]; done)), H', ⟨by have := HK1.out; omega⟩, ⟨by (with_reducible repeat (first | apply Kd.R_alloc | apply Kd.R_drewN | apply Kd.R_drew)); exact HO_10.out⟩, ⟨by repeat (first | (with_reducible first | exact HB.out | apply below_alloc | apply pw_below_drewN | apply below_drew1) | exact HB.out)⟩⟩
    ·
     rw [if_neg c7] at H
     exact absurd H (by simp)
   ·
    rw [if_neg c6] at H
    have c6b0 : decide (x11_1 < (t395.length : Int)) = false := decide_eq_false c6
    clear c6
    simp only [Option.some.injEq, Prod.mk.injEq] at H
    obtain ⟨rfl, rfl⟩ := H
    obtain ⟨Ao11, co11, eo11⟩ := Kd.R_slice HO_10.out
    subst eo11
    go_wp2
    repeat (go_quiet (fail); try go_wp2)
    go_ret2
    exact ⟨by first | rfl | (simp [errW_none, errW_some] <;> rfl) | (simp [*, errW_none, errW_some] <;> rfl), by repeat (first | (with_reducible first | exact HB.out | apply below_alloc | apply pw_below_drewN | apply below_drew1) | exact HB.out)⟩
end Go.Proofs.Ytnfcbhoaebcndaa.PT
