-- Laid by hp.py (a program of this session's) through the kit's printer. (squeezed)
import Derived.Test.YtnfcbhoaebcndaaPTx0
import Derived.Test.YtnfcbhoaebcndaaPTx44
namespace Go.Proofs.Ytnfcbhoaebcndaa.PT
open Go.RowKit Go.Proofs.YtnfcbhoaebcndaaW.PrintWords Go.Proofs.YtnfcbhoaebcndaaW.PrintLast Go.Proofs.YtnfcbhoaebcndaaW.PrintMore
attribute [local go_sem] max2_int min2_int max_two min_two max_three min_three max_four min_four   -- for this text's walks alone
set_option linter.unusedVariables false
set_option linter.unusedSimpArgs false
/-! ### plenumref44_Degrees: function 38 -/
def plenumref44_Degrees.l0 : Nat → List (S57) → Int → Int → Int → Bool → Int → Option (Int × Bool)
 | 0, _, _, _, _, _, _ => none
 | k + 1, x0, x1, x3, x10, x11, x12 => if x12 ≤ x3 then ((plenumref44_Mean.f k x0 (wrap64 (x12 * 86400)) (wrap64 ((wrap64 (x12 + 1)) * 86400))).bind fun bt436 => (if bt436.2 = true then (plenumref44_Degrees.l0 k x0 x1 x3 (wrap64 (x10 + (mx 0 (wrap64 (x1 - bt436.1))))) true (wrap64 (x12 + 1))) else (plenumref44_Degrees.l0 k x0 x1 x3 x10 x11 (wrap64 (x12 + 1))))) else (some (x10, x11))
def plenumref44_Degrees.f (k : Nat) (l0 : List (S57)) (a1 : Int) (a2 : Int) (a3 : Int) : Option (Int × Bool) := plenumref44_Degrees.l0 k l0 a1 a3 0 false a2
theorem plenumref44_Degrees.mono_l : ∀ k, (∀ y0 y1 y2 y3 y4 y5, LeO (plenumref44_Degrees.l0 k y0 y1 y2 y3 y4 y5) (plenumref44_Degrees.l0 (k + 1) y0 y1 y2 y3 y4 y5))
 | 0 => fun _ _ _ _ _ _ r h => by simp [plenumref44_Degrees.l0] at h
 | k + 1 => by
  have ih0 := plenumref44_Degrees.mono_l k
  ·
   intro y0 y1 y2 y3 y4 y5
   unfold plenumref44_Degrees.l0
   repeat' first
   | (with_reducible exact ih0 _ _ _ _ _ _)
   | (with_reducible exact plenumref44_Mean.mono _ _ _ _)
   | (with_reducible exact LeO.refl _)
   | (with_reducible exact LeO.none _)
   | (with_reducible refine LeO.ite ?_ ?_)
   | (with_reducible refine LeO.bind ?_ (fun _ => ?_))
   | exact ih0 _ _ _ _ _ _
   | exact plenumref44_Mean.mono _ _ _ _
   | exact LeO.none _
   | refine LeO.ite ?_ ?_
   | refine LeO.bind ?_ (fun _ => ?_)
theorem plenumref44_Degrees.mono : ∀ a0 a1 a2 a3 k, LeO (plenumref44_Degrees.f k a0 a1 a2 a3) (plenumref44_Degrees.f (k + 1) a0 a1 a2 a3) := by
 intro a0 a1 a2 a3 k
 have ih0 := plenumref44_Degrees.mono_l k
 unfold plenumref44_Degrees.f
 repeat' first
  | (with_reducible exact ih0 _ _ _ _ _ _)
  | (with_reducible exact plenumref44_Mean.mono _ _ _ _)
  | (with_reducible exact LeO.refl _)
  | (with_reducible exact LeO.none _)
  | (with_reducible refine LeO.ite ?_ ?_)
  | (with_reducible refine LeO.bind ?_ (fun _ => ?_))
  | exact ih0 _ _ _ _ _ _
  | exact plenumref44_Mean.mono _ _ _ _
  | exact LeO.none _
  | refine LeO.ite ?_ ?_
  | refine LeO.bind ?_ (fun _ => ?_)
set_option maxHeartbeats 8000000 in
set_option maxRecDepth 100000 in
theorem plenumref44_Degrees.calls (k : Nat) (A0 : Option Addr) (c0 : Nat) (l0 : List (S57)) (a1 : Int) (a2 : Int) (a3 : Int) (r1 : Int) (r2 : Bool) (w : World) (hr0 : Kd.C k57 w A0 l0.length l0) (hc0 : l0.length ≤ c0) (h : plenumref44_Degrees.f k l0 a1 a2 a3 = some (r1, r2)) :
 Calls Try.prog 38 #[.slice A0 l0.length c0, .int .i64 a1, .int .i64 a2, .int .i64 a3] w fun e w' => e = .returned (.tuple #[.int .i64 r1, .bool r2]) ∧ Below w.heap.size w w' := by
 have HR0 := Aside0.mk hr0
 have HC0 := Aside0.mk hc0
 clear hr0 hc0
 have HB := Aside0.mk (Below.refl w.heap.size w)
 have H : (plenumref44_Degrees.l0 k l0 a1 a3 0 false a2) = some (r1, r2) := h
 clear h
 have H' := Aside0.mk H
 clear H
 go_enter Try.func38, Try.ntmps38
 go_wp2
 go_loopg [10, 11, 12] k (fun kq v10 v11 v12 w' => ∃ (x10_1 : Int) (x11_1 : Bool) (x12_1 : Int), v10 = .int .i64 x10_1 ∧ v11 = .bool x11_1 ∧ v12 = .int .i64 x12_1 ∧ Aside0 (plenumref44_Degrees.l0 kq l0 a1 a3 x10_1 x11_1 x12_1 = some (r1, r2)) ∧ Aside0 (kq ≤ k) ∧ Aside0 (Below w.heap.size w w'))
 case atStart => exact ⟨(0), (false), (a2), (by first | rfl | (simp; done) | (simp [*]; done)), (by first | rfl | (simp; done) | (simp [*]; done)), (by first | rfl | (simp; done) | (simp [*]; done)), H', ⟨Nat.le_refl _⟩, ⟨by repeat (first | (with_reducible first | exact HB.out | apply below_alloc | apply pw_below_drewN | apply below_drew1) | exact HB.out)⟩⟩
 case round =>
  clear H'
  try clear p2
  try clear c3
  obtain ⟨x10_1, x11_1, x12_1, rfl, rfl, rfl, HA, HK1, HB⟩ := hrel
  cases gk with
  | zero => exact absurd HA.out (by simp [plenumref44_Degrees.l0])
  | succ k1 =>
   have H := HA.out
   clear HA
   simp only [plenumref44_Degrees.l0] at H
   by_cases c5 : x12_1 ≤ a3
   ·
    rw [if_pos c5] at H
    have c5b0 : decide (x12_1 ≤ a3) = true := decide_eq_true c5
    clear c5
    replace H := Option.bind_eq_some_iff.mp H
    obtain ⟨⟨t436, t437⟩, A60, H⟩ := H
    replace H : (if t437 = true then (plenumref44_Degrees.l0 k1 l0 a1 a3 (wrap64 (x10_1 + (mx 0 (wrap64 (a1 - t436))))) true (wrap64 (x12_1 + 1))) else (plenumref44_Degrees.l0 k1 l0 a1 a3 x10_1 x11_1 (wrap64 (x12_1 + 1)))) = some (r1, r2) := H
    have A6 := Aside0.mk A60
    clear A60
    by_cases c7 : t437 = true
    ·
     subst c7
     have H1 : (plenumref44_Degrees.l0 k1 l0 a1 a3 (wrap64 (x10_1 + (mx 0 (wrap64 (a1 - t436))))) true (wrap64 (x12_1 + 1))) = some (r1, r2) := by rw [if_pos rfl] at H; exact H
     clear H
     have H := H1
     clear H1
     obtain ⟨ji8, hji8⟩ : ∃ j_ : Int, (mx 0 (wrap64 (a1 - t436))) = j_ := ⟨_, rfl⟩
     replace H : (plenumref44_Degrees.l0 k1 l0 a1 a3 (wrap64 (x10_1 + (ji8))) true (wrap64 (x12_1 + 1))) = some (r1, r2) := by first | (rw [hji8] at H; exact H) | (simp only [hji8] at H ⊢; exact H)
     (try rw [hji8] at A6)
     have hji8_ : (if 0 < (wrap64 (a1 - t436)) then (wrap64 (a1 - t436)) else 0) = ji8 := hji8
     have H' := Aside0.mk H
     clear H
     go_wp2_with (first | ((with_reducible refine gate_callee (f := 34) rfl ?_); refine goesL_ (some 32) rfl rfl Try.func34 (by kernel_rfl) rfl #[.slice A0 l0.length c0, .int .i64 (wrap64 (x12_1 * 86400)), .int .i64 (wrap64 ((wrap64 (x12_1 + 1)) * 86400))] rfl (by (try simp only [List.map_toArray, List.map_cons, List.map_nil]); first | done | rfl | (simp only [List.length_drop, List.length_take]; rfl)) ?_; (with_reducible refine (plenumref44_Mean.calls k1 _ _ l0 (wrap64 (x12_1 * 86400)) (wrap64 ((wrap64 (x12_1 + 1)) * 86400)) t436 true _ ?side1 ?side2 A6.out).mono ?_); (case side1 => repeat (first | exact (Kd.C_below HR0.out HB.out) | (with_reducible refine Kd.C_alloc ?_ _) | (with_reducible refine Kd.C_drewN ?_ _) | (with_reducible refine Kd.C_drew ?_))); (case side2 => exact HC0.out); rintro e w9 ⟨rfl, hb⟩; refine ⟨_, rfl, ?_⟩; have n0_ := Aside0.mk (below_step (by repeat (first | (with_reducible first | exact HB.out | apply below_alloc | apply pw_below_drewN | apply below_drew1) | exact HB.out)) hb); clear HB; have HB := n0_; clear n0_; (try clear hb); (try clear hb2); (try clear hk); (try clear hi)))
     go_roundg k1
     case measure => have := HK1.out; omega
     case rel => exact ⟨(wrap64 (x10_1 + (ji8))), (true), (wrap64 (x12_1 + 1)), (by first | rfl | (simp; done) | (simp only [← hji8] <;> (first | rfl | simp)) | (simp [*]; done)), (by first | rfl | (simp; done) | (simp [*]; done)), (by first | rfl | (simp; done) | (simp [*]; done)), H', ⟨by have := HK1.out; omega⟩, ⟨by repeat (first | (with_reducible first | exact HB.out | apply below_alloc | apply pw_below_drewN | apply below_drew1) | exact HB.out)⟩⟩
    ·
     replace c7 := Bool.eq_false_iff.mpr c7
     subst c7
     have H1 : (plenumref44_Degrees.l0 k1 l0 a1 a3 x10_1 x11_1 (wrap64 (x12_1 + 1))) = some (r1, r2) := by rw [if_neg (show ¬ (false = true) by decide)] at H; exact H
     clear H
     have H := H1
     clear H1
     have H' := Aside0.mk H
     clear H
     go_wp2_with (first | ((with_reducible refine gate_callee (f := 34) rfl ?_); refine goesL_ (some 32) rfl rfl Try.func34 (by kernel_rfl) rfl #[.slice A0 l0.length c0, .int .i64 (wrap64 (x12_1 * 86400)), .int .i64 (wrap64 ((wrap64 (x12_1 + 1)) * 86400))] rfl (by (try simp only [List.map_toArray, List.map_cons, List.map_nil]); first | done | rfl | (simp only [List.length_drop, List.length_take]; rfl)) ?_; (with_reducible refine (plenumref44_Mean.calls k1 _ _ l0 (wrap64 (x12_1 * 86400)) (wrap64 ((wrap64 (x12_1 + 1)) * 86400)) t436 false _ ?side1 ?side2 A6.out).mono ?_); (case side1 => repeat (first | exact (Kd.C_below HR0.out HB.out) | (with_reducible refine Kd.C_alloc ?_ _) | (with_reducible refine Kd.C_drewN ?_ _) | (with_reducible refine Kd.C_drew ?_))); (case side2 => exact HC0.out); rintro e w10 ⟨rfl, hb⟩; refine ⟨_, rfl, ?_⟩; have n0_ := Aside0.mk (below_step (by repeat (first | (with_reducible first | exact HB.out | apply below_alloc | apply pw_below_drewN | apply below_drew1) | exact HB.out)) hb); clear HB; have HB := n0_; clear n0_; (try clear hb); (try clear hb2); (try clear hk); (try clear hi)))
     go_roundg k1
     case measure => have := HK1.out; omega
     case rel => exact ⟨(x10_1), (x11_1), (wrap64 (x12_1 + 1)), (by first | rfl | (simp; done) | (simp [*]; done)), (by first | rfl | (simp; done) | (simp [*]; done)), (by first | rfl | (simp; done) | (simp [*]; done)), H', ⟨by have := HK1.out; omega⟩, ⟨by repeat (first | (with_reducible first | exact HB.out | apply below_alloc | apply pw_below_drewN | apply below_drew1) | exact HB.out)⟩⟩
   ·
    rw [if_neg c5] at H
    have c5b0 : decide (x12_1 ≤ a3) = false := decide_eq_false c5
    clear c5
    simp only [Option.some.injEq, Prod.mk.injEq] at H
    obtain ⟨rfl, rfl⟩ := H
    go_wp2
    go_ret2
    exact ⟨by first | rfl | (simp [errW_none, errW_some] <;> rfl) | (simp [*, errW_none, errW_some] <;> rfl), by repeat (first | (with_reducible first | exact HB.out | apply below_alloc | apply pw_below_drewN | apply below_drew1) | exact HB.out)⟩
end Go.Proofs.Ytnfcbhoaebcndaa.PT
