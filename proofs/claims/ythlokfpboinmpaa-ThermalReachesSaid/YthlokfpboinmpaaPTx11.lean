-- Laid by hp.py (a program of this session's) through the kit's printer.
import Derived.Test.YthlokfpboinmpaaPTx0
import Derived.Test.YthlokfpboinmpaaPTx7
namespace Go.Proofs.Ythlokfpboinmpaa.PT
open Go.RowKit Go.Proofs.YthlokfpboinmpaaW.PrintWords Go.Proofs.YthlokfpboinmpaaW.PrintLast Go.Proofs.YthlokfpboinmpaaW.PrintMore
attribute [local go_sem] max2_int min2_int max_two min_two max_three min_three max_four min_four   -- for this text's walks alone
set_option linter.unusedVariables false
set_option linter.unusedSimpArgs false

/-! ### plenumref35_Reaches: function 21 -/
mutual
def plenumref35_Reaches.j0 : Nat → Int → Int → Int → Int → Int → Int → Bool → Int → Int → Option (Int × Int)
  | 0, _, _, _, _, _, _, _, _, _ => none
  | k + 1, x1, x2, x3, x4, x5, x6, x53, x254000, x254001 => if x53 = true then (some (0, 6)) else (plenumref35_Reaches.j1 k x1 x2 x3 x4 x5 x6 (decide (x1 < x4)) x254000 x254001)
def plenumref35_Reaches.j1 : Nat → Int → Int → Int → Int → Int → Int → Bool → Int → Int → Option (Int × Int)
  | 0, _, _, _, _, _, _, _, _, _ => none
  | k + 1, x1, x2, x3, x4, x5, x6, x16, x254000, x254001 => plenumref35_Reaches.l0 k x1 x2 x3 x4 x5 x6 x16 0 x254000 x254001
def plenumref35_Reaches.l0 : Nat → Int → Int → Int → Int → Int → Int → Bool → Int → Int → Int → Option (Int × Int)
  | 0, _, _, _, _, _, _, _, _, _, _ => none
  | k + 1, x1, x2, x3, x4, x5, x6, x16, x17, x254000, x254001 => if x17 ≤ x6 then (if x1 = x4 then (some (x17, 0)) else (if x16 = true then (if x1 > x4 then (some (x17, 0)) else ((plenumref35_Next.f x254000 x254001 x1 x2 x3 x5).bind fun t260 => (plenumref35_Reaches.l0 k t260 x2 x3 x4 x5 x6 x16 (wrap64 (x17 + 1)) x254000 x254001))) else (if x1 < x4 then (some (x17, 0)) else ((plenumref35_Next.f x254000 x254001 x1 x2 x3 x5).bind fun t261 => (plenumref35_Reaches.l0 k t261 x2 x3 x4 x5 x6 x16 (wrap64 (x17 + 1)) x254000 x254001))))) else (some (0, 9))
end
def plenumref35_Reaches.f (k : Nat) (a0_0 : Int) (a0_1 : Int) (a1 : Int) (a2 : Int) (a3 : Int) (a4 : Int) (a5 : Int) (a6 : Int) : Option (Int × Int) := (plenumref35_Check.f a0_0 a0_1).bind fun t254 => (if t254 = 0 then ((plenumref35_Temp.f a1).bind fun t255 => (if t255 = true then ((plenumref35_Temp.f a2).bind fun t256 => (if t256 = true then ((plenumref35_Heat.f a3).bind fun t257 => (if t257 = true then ((plenumref35_Temp.f a4).bind fun t258 => (if t258 = true then ((plenumref35_Time.f a5).bind fun t259 => (if t259 = true then (if a6 < 0 then (plenumref35_Reaches.j0 k a1 a2 a3 a4 a5 a6 true a0_0 a0_1) else (plenumref35_Reaches.j0 k a1 a2 a3 a4 a5 a6 (decide (a6 > 10000)) a0_0 a0_1)) else (plenumref35_Reaches.j0 k a1 a2 a3 a4 a5 a6 true a0_0 a0_1))) else (plenumref35_Reaches.j0 k a1 a2 a3 a4 a5 a6 true a0_0 a0_1))) else (plenumref35_Reaches.j0 k a1 a2 a3 a4 a5 a6 true a0_0 a0_1))) else (plenumref35_Reaches.j0 k a1 a2 a3 a4 a5 a6 true a0_0 a0_1))) else (plenumref35_Reaches.j0 k a1 a2 a3 a4 a5 a6 true a0_0 a0_1))) else (plenumref35_Reaches.j0 k a1 a2 a3 a4 a5 a6 true a0_0 a0_1))
theorem plenumref35_Reaches.mono_l : ∀ k, (∀ y0 y1 y2 y3 y4 y5 y6 y7 y8, LeO (plenumref35_Reaches.j0 k y0 y1 y2 y3 y4 y5 y6 y7 y8) (plenumref35_Reaches.j0 (k + 1) y0 y1 y2 y3 y4 y5 y6 y7 y8)) ∧ (∀ y0 y1 y2 y3 y4 y5 y6 y7 y8, LeO (plenumref35_Reaches.j1 k y0 y1 y2 y3 y4 y5 y6 y7 y8) (plenumref35_Reaches.j1 (k + 1) y0 y1 y2 y3 y4 y5 y6 y7 y8)) ∧ (∀ y0 y1 y2 y3 y4 y5 y6 y7 y8 y9, LeO (plenumref35_Reaches.l0 k y0 y1 y2 y3 y4 y5 y6 y7 y8 y9) (plenumref35_Reaches.l0 (k + 1) y0 y1 y2 y3 y4 y5 y6 y7 y8 y9))
  | 0 => ⟨fun _ _ _ _ _ _ _ _ _ r h => by simp [plenumref35_Reaches.j0] at h, fun _ _ _ _ _ _ _ _ _ r h => by simp [plenumref35_Reaches.j1] at h, fun _ _ _ _ _ _ _ _ _ _ r h => by simp [plenumref35_Reaches.l0] at h⟩
  | k + 1 => by
    obtain ⟨ih0, ih1, ih2⟩ := plenumref35_Reaches.mono_l k
    refine ⟨?_, ?_, ?_⟩
    · intro y0 y1 y2 y3 y4 y5 y6 y7 y8
      unfold plenumref35_Reaches.j0
      repeat' first
      | (with_reducible exact ih0 _ _ _ _ _ _ _ _ _)
      | (with_reducible exact ih1 _ _ _ _ _ _ _ _ _)
      | (with_reducible exact ih2 _ _ _ _ _ _ _ _ _ _)
      | (with_reducible exact LeO.refl _)
      | (with_reducible exact LeO.none _)
      | (with_reducible refine LeO.ite ?_ ?_)
      | (with_reducible refine LeO.bind ?_ (fun _ => ?_))
      | exact ih0 _ _ _ _ _ _ _ _ _
      | exact ih1 _ _ _ _ _ _ _ _ _
      | exact ih2 _ _ _ _ _ _ _ _ _ _
      | exact LeO.none _
      | refine LeO.ite ?_ ?_
      | refine LeO.bind ?_ (fun _ => ?_)
    · intro y0 y1 y2 y3 y4 y5 y6 y7 y8
      unfold plenumref35_Reaches.j1
      repeat' first
      | (with_reducible exact ih0 _ _ _ _ _ _ _ _ _)
      | (with_reducible exact ih1 _ _ _ _ _ _ _ _ _)
      | (with_reducible exact ih2 _ _ _ _ _ _ _ _ _ _)
      | (with_reducible exact LeO.refl _)
      | (with_reducible exact LeO.none _)
      | (with_reducible refine LeO.ite ?_ ?_)
      | (with_reducible refine LeO.bind ?_ (fun _ => ?_))
      | exact ih0 _ _ _ _ _ _ _ _ _
      | exact ih1 _ _ _ _ _ _ _ _ _
      | exact ih2 _ _ _ _ _ _ _ _ _ _
      | exact LeO.none _
      | refine LeO.ite ?_ ?_
      | refine LeO.bind ?_ (fun _ => ?_)
    · intro y0 y1 y2 y3 y4 y5 y6 y7 y8 y9
      unfold plenumref35_Reaches.l0
      repeat' first
      | (with_reducible exact ih0 _ _ _ _ _ _ _ _ _)
      | (with_reducible exact ih1 _ _ _ _ _ _ _ _ _)
      | (with_reducible exact ih2 _ _ _ _ _ _ _ _ _ _)
      | (with_reducible exact LeO.refl _)
      | (with_reducible exact LeO.none _)
      | (with_reducible refine LeO.ite ?_ ?_)
      | (with_reducible refine LeO.bind ?_ (fun _ => ?_))
      | exact ih0 _ _ _ _ _ _ _ _ _
      | exact ih1 _ _ _ _ _ _ _ _ _
      | exact ih2 _ _ _ _ _ _ _ _ _ _
      | exact LeO.none _
      | refine LeO.ite ?_ ?_
      | refine LeO.bind ?_ (fun _ => ?_)
theorem plenumref35_Reaches.mono : ∀ a0 a1 a2 a3 a4 a5 a6 a7 k, LeO (plenumref35_Reaches.f k a0 a1 a2 a3 a4 a5 a6 a7) (plenumref35_Reaches.f (k + 1) a0 a1 a2 a3 a4 a5 a6 a7) := by
  intro a0 a1 a2 a3 a4 a5 a6 a7 k
  obtain ⟨ih0, ih1, ih2⟩ := plenumref35_Reaches.mono_l k
  unfold plenumref35_Reaches.f
  repeat' first
      | (with_reducible exact ih0 _ _ _ _ _ _ _ _ _)
      | (with_reducible exact ih1 _ _ _ _ _ _ _ _ _)
      | (with_reducible exact ih2 _ _ _ _ _ _ _ _ _ _)
      | (with_reducible exact LeO.refl _)
      | (with_reducible exact LeO.none _)
      | (with_reducible refine LeO.ite ?_ ?_)
      | (with_reducible refine LeO.bind ?_ (fun _ => ?_))
      | exact ih0 _ _ _ _ _ _ _ _ _
      | exact ih1 _ _ _ _ _ _ _ _ _
      | exact ih2 _ _ _ _ _ _ _ _ _ _
      | exact LeO.none _
      | refine LeO.ite ?_ ?_
      | refine LeO.bind ?_ (fun _ => ?_)
set_option maxHeartbeats 8000000 in
set_option maxRecDepth 100000 in
theorem plenumref35_Reaches.calls (k : Nat) (a0_0 : Int) (a0_1 : Int) (a1 : Int) (a2 : Int) (a3 : Int) (a4 : Int) (a5 : Int) (a6 : Int) (r1 : Int) (r2 : Int) (w : World) (h : plenumref35_Reaches.f k a0_0 a0_1 a1 a2 a3 a4 a5 a6 = some (r1, r2)) :
    Calls Try.prog 21 #[.agg #[.int .i64 a0_0, .int .i64 a0_1], .int .i64 a1, .int .i64 a2, .int .i64 a3, .int .i64 a4, .int .i64 a5, .int .i64 a6] w fun e w' => e = .returned (.tuple #[.int .i64 r1, .int .i64 r2]) ∧ Below w.heap.size w w' := by
  have hu23 := Try.underlying23
  have HB := Aside0.mk (Below.refl w.heap.size w)
  have H : ((plenumref35_Check.f a0_0 a0_1).bind fun t254 => (if t254 = 0 then ((plenumref35_Temp.f a1).bind fun t255 => (if t255 = true then ((plenumref35_Temp.f a2).bind fun t256 => (if t256 = true then ((plenumref35_Heat.f a3).bind fun t257 => (if t257 = true then ((plenumref35_Temp.f a4).bind fun t258 => (if t258 = true then ((plenumref35_Time.f a5).bind fun t259 => (if t259 = true then (if a6 < 0 then (plenumref35_Reaches.j0 k a1 a2 a3 a4 a5 a6 true a0_0 a0_1) else (plenumref35_Reaches.j0 k a1 a2 a3 a4 a5 a6 (decide (a6 > 10000)) a0_0 a0_1)) else (plenumref35_Reaches.j0 k a1 a2 a3 a4 a5 a6 true a0_0 a0_1))) else (plenumref35_Reaches.j0 k a1 a2 a3 a4 a5 a6 true a0_0 a0_1))) else (plenumref35_Reaches.j0 k a1 a2 a3 a4 a5 a6 true a0_0 a0_1))) else (plenumref35_Reaches.j0 k a1 a2 a3 a4 a5 a6 true a0_0 a0_1))) else (plenumref35_Reaches.j0 k a1 a2 a3 a4 a5 a6 true a0_0 a0_1))) else (plenumref35_Reaches.j0 k a1 a2 a3 a4 a5 a6 true a0_0 a0_1))) = some (r1, r2) := h
  clear h
  have HC8 := Aside0.mk H
  clear H
  go_enter Try.func21, Try.ntmps21
  go_upto_region 1 with (first | ((with_reducible refine gate_dst (N := 7) rfl ?_); refine box_event ?hg (N := 7) ?hd (cs := #[.int .i64 a0_0, .int .i64 a0_1]) (t := 23) ?hr ?_; (case hd => rfl); (case hg => rfl); (case hr => first | (go_simp; done) | (go_simp; rfl)); intro gb253 hg w9 hbox hb; have n0_ := Aside0.mk (below_step (by repeat (first | (with_reducible first | exact HB.out | apply below_alloc | apply pw_below_drewN | apply below_drew1) | exact HB.out)) hb); have n1_ := Aside0.mk (hbox); have n2_ := Aside0.mk ((by rw [hg]; exact (below_size (by repeat (first | (with_reducible first | exact HB.out | apply below_alloc | apply pw_below_drewN | apply below_drew1) | exact HB.out))) : w.heap.size ≤ gb253)); have n3_ := Aside0.mk ((by rw [hg]; exact (below_size (by repeat (first | (with_reducible first | exact HB.out | apply below_alloc | apply pw_below_drewN | apply below_drew1) | exact HB.out))) : w.heap.size ≤ gb253)); clear HB; have HB := n0_; have BK253 := n1_; have GW253 := n2_; have GE253 := n3_; clear n0_ n1_ n2_ n3_; clear hb hbox hg))
  (try simp only [Act.put, List.setIfInBounds_toArray, List.set_cons_zero, List.set_cons_succ])
  go_cut [53] (fun v53 wc => ∃ (kq : Nat) (x53_7 : Bool), v53 = .bool x53_7 ∧ Aside0 (plenumref35_Reaches.j0 kq a1 a2 a3 a4 a5 a6 x53_7 a0_0 a0_1 = some (r1, r2)) ∧ Aside0 (kq ≤ k) ∧ Aside0 (wc.heap[gb253]? = some (.cells #[.int .i64 a0_0, .int .i64 a0_1] 23 (0, 0))) ∧ Aside0 (Below w.heap.size w wc))
  case first =>
    have H := HC8.out
    clear HC8
    replace H := Option.bind_eq_some_iff.mp H
    obtain ⟨t254, A100, H⟩ := H
    replace H : (if t254 = 0 then ((plenumref35_Temp.f a1).bind fun t255 => (if t255 = true then ((plenumref35_Temp.f a2).bind fun t256 => (if t256 = true then ((plenumref35_Heat.f a3).bind fun t257 => (if t257 = true then ((plenumref35_Temp.f a4).bind fun t258 => (if t258 = true then ((plenumref35_Time.f a5).bind fun t259 => (if t259 = true then (if a6 < 0 then (plenumref35_Reaches.j0 k a1 a2 a3 a4 a5 a6 true a0_0 a0_1) else (plenumref35_Reaches.j0 k a1 a2 a3 a4 a5 a6 (decide (a6 > 10000)) a0_0 a0_1)) else (plenumref35_Reaches.j0 k a1 a2 a3 a4 a5 a6 true a0_0 a0_1))) else (plenumref35_Reaches.j0 k a1 a2 a3 a4 a5 a6 true a0_0 a0_1))) else (plenumref35_Reaches.j0 k a1 a2 a3 a4 a5 a6 true a0_0 a0_1))) else (plenumref35_Reaches.j0 k a1 a2 a3 a4 a5 a6 true a0_0 a0_1))) else (plenumref35_Reaches.j0 k a1 a2 a3 a4 a5 a6 true a0_0 a0_1))) else (plenumref35_Reaches.j0 k a1 a2 a3 a4 a5 a6 true a0_0 a0_1)) = some (r1, r2) := H
    have A10 := Aside0.mk A100
    clear A100
    by_cases c11 : t254 = 0
    · rw [if_pos c11] at H
      have c11b0 : (t254 == 0) = true := beq_iff_eq.mpr c11
      have c11b1 : (t254 != 0) = false := bne_eq_false_iff_eq.mpr c11
      clear c11
      (first | rw [c11b0] | (simp only [i64_w, i32_w]; rw [c11b0]) | skip)
      replace H := Option.bind_eq_some_iff.mp H
      obtain ⟨t255, A120, H⟩ := H
      replace H : (if t255 = true then ((plenumref35_Temp.f a2).bind fun t256 => (if t256 = true then ((plenumref35_Heat.f a3).bind fun t257 => (if t257 = true then ((plenumref35_Temp.f a4).bind fun t258 => (if t258 = true then ((plenumref35_Time.f a5).bind fun t259 => (if t259 = true then (if a6 < 0 then (plenumref35_Reaches.j0 k a1 a2 a3 a4 a5 a6 true a0_0 a0_1) else (plenumref35_Reaches.j0 k a1 a2 a3 a4 a5 a6 (decide (a6 > 10000)) a0_0 a0_1)) else (plenumref35_Reaches.j0 k a1 a2 a3 a4 a5 a6 true a0_0 a0_1))) else (plenumref35_Reaches.j0 k a1 a2 a3 a4 a5 a6 true a0_0 a0_1))) else (plenumref35_Reaches.j0 k a1 a2 a3 a4 a5 a6 true a0_0 a0_1))) else (plenumref35_Reaches.j0 k a1 a2 a3 a4 a5 a6 true a0_0 a0_1))) else (plenumref35_Reaches.j0 k a1 a2 a3 a4 a5 a6 true a0_0 a0_1)) = some (r1, r2) := H
      have A12 := Aside0.mk A120
      clear A120
      by_cases c13 : t255 = true
      · subst c13
        have H1 : ((plenumref35_Temp.f a2).bind fun t256 => (if t256 = true then ((plenumref35_Heat.f a3).bind fun t257 => (if t257 = true then ((plenumref35_Temp.f a4).bind fun t258 => (if t258 = true then ((plenumref35_Time.f a5).bind fun t259 => (if t259 = true then (if a6 < 0 then (plenumref35_Reaches.j0 k a1 a2 a3 a4 a5 a6 true a0_0 a0_1) else (plenumref35_Reaches.j0 k a1 a2 a3 a4 a5 a6 (decide (a6 > 10000)) a0_0 a0_1)) else (plenumref35_Reaches.j0 k a1 a2 a3 a4 a5 a6 true a0_0 a0_1))) else (plenumref35_Reaches.j0 k a1 a2 a3 a4 a5 a6 true a0_0 a0_1))) else (plenumref35_Reaches.j0 k a1 a2 a3 a4 a5 a6 true a0_0 a0_1))) else (plenumref35_Reaches.j0 k a1 a2 a3 a4 a5 a6 true a0_0 a0_1))) = some (r1, r2) := by rw [if_pos rfl] at H; exact H
        clear H
        have H := H1
        clear H1
        replace H := Option.bind_eq_some_iff.mp H
        obtain ⟨t256, A140, H⟩ := H
        replace H : (if t256 = true then ((plenumref35_Heat.f a3).bind fun t257 => (if t257 = true then ((plenumref35_Temp.f a4).bind fun t258 => (if t258 = true then ((plenumref35_Time.f a5).bind fun t259 => (if t259 = true then (if a6 < 0 then (plenumref35_Reaches.j0 k a1 a2 a3 a4 a5 a6 true a0_0 a0_1) else (plenumref35_Reaches.j0 k a1 a2 a3 a4 a5 a6 (decide (a6 > 10000)) a0_0 a0_1)) else (plenumref35_Reaches.j0 k a1 a2 a3 a4 a5 a6 true a0_0 a0_1))) else (plenumref35_Reaches.j0 k a1 a2 a3 a4 a5 a6 true a0_0 a0_1))) else (plenumref35_Reaches.j0 k a1 a2 a3 a4 a5 a6 true a0_0 a0_1))) else (plenumref35_Reaches.j0 k a1 a2 a3 a4 a5 a6 true a0_0 a0_1)) = some (r1, r2) := H
        have A14 := Aside0.mk A140
        clear A140
        by_cases c15 : t256 = true
        · subst c15
          have H1 : ((plenumref35_Heat.f a3).bind fun t257 => (if t257 = true then ((plenumref35_Temp.f a4).bind fun t258 => (if t258 = true then ((plenumref35_Time.f a5).bind fun t259 => (if t259 = true then (if a6 < 0 then (plenumref35_Reaches.j0 k a1 a2 a3 a4 a5 a6 true a0_0 a0_1) else (plenumref35_Reaches.j0 k a1 a2 a3 a4 a5 a6 (decide (a6 > 10000)) a0_0 a0_1)) else (plenumref35_Reaches.j0 k a1 a2 a3 a4 a5 a6 true a0_0 a0_1))) else (plenumref35_Reaches.j0 k a1 a2 a3 a4 a5 a6 true a0_0 a0_1))) else (plenumref35_Reaches.j0 k a1 a2 a3 a4 a5 a6 true a0_0 a0_1))) = some (r1, r2) := by rw [if_pos rfl] at H; exact H
          clear H
          have H := H1
          clear H1
          replace H := Option.bind_eq_some_iff.mp H
          obtain ⟨t257, A160, H⟩ := H
          replace H : (if t257 = true then ((plenumref35_Temp.f a4).bind fun t258 => (if t258 = true then ((plenumref35_Time.f a5).bind fun t259 => (if t259 = true then (if a6 < 0 then (plenumref35_Reaches.j0 k a1 a2 a3 a4 a5 a6 true a0_0 a0_1) else (plenumref35_Reaches.j0 k a1 a2 a3 a4 a5 a6 (decide (a6 > 10000)) a0_0 a0_1)) else (plenumref35_Reaches.j0 k a1 a2 a3 a4 a5 a6 true a0_0 a0_1))) else (plenumref35_Reaches.j0 k a1 a2 a3 a4 a5 a6 true a0_0 a0_1))) else (plenumref35_Reaches.j0 k a1 a2 a3 a4 a5 a6 true a0_0 a0_1)) = some (r1, r2) := H
          have A16 := Aside0.mk A160
          clear A160
          by_cases c17 : t257 = true
          · subst c17
            have H1 : ((plenumref35_Temp.f a4).bind fun t258 => (if t258 = true then ((plenumref35_Time.f a5).bind fun t259 => (if t259 = true then (if a6 < 0 then (plenumref35_Reaches.j0 k a1 a2 a3 a4 a5 a6 true a0_0 a0_1) else (plenumref35_Reaches.j0 k a1 a2 a3 a4 a5 a6 (decide (a6 > 10000)) a0_0 a0_1)) else (plenumref35_Reaches.j0 k a1 a2 a3 a4 a5 a6 true a0_0 a0_1))) else (plenumref35_Reaches.j0 k a1 a2 a3 a4 a5 a6 true a0_0 a0_1))) = some (r1, r2) := by rw [if_pos rfl] at H; exact H
            clear H
            have H := H1
            clear H1
            replace H := Option.bind_eq_some_iff.mp H
            obtain ⟨t258, A180, H⟩ := H
            replace H : (if t258 = true then ((plenumref35_Time.f a5).bind fun t259 => (if t259 = true then (if a6 < 0 then (plenumref35_Reaches.j0 k a1 a2 a3 a4 a5 a6 true a0_0 a0_1) else (plenumref35_Reaches.j0 k a1 a2 a3 a4 a5 a6 (decide (a6 > 10000)) a0_0 a0_1)) else (plenumref35_Reaches.j0 k a1 a2 a3 a4 a5 a6 true a0_0 a0_1))) else (plenumref35_Reaches.j0 k a1 a2 a3 a4 a5 a6 true a0_0 a0_1)) = some (r1, r2) := H
            have A18 := Aside0.mk A180
            clear A180
            by_cases c19 : t258 = true
            · subst c19
              have H1 : ((plenumref35_Time.f a5).bind fun t259 => (if t259 = true then (if a6 < 0 then (plenumref35_Reaches.j0 k a1 a2 a3 a4 a5 a6 true a0_0 a0_1) else (plenumref35_Reaches.j0 k a1 a2 a3 a4 a5 a6 (decide (a6 > 10000)) a0_0 a0_1)) else (plenumref35_Reaches.j0 k a1 a2 a3 a4 a5 a6 true a0_0 a0_1))) = some (r1, r2) := by rw [if_pos rfl] at H; exact H
              clear H
              have H := H1
              clear H1
              replace H := Option.bind_eq_some_iff.mp H
              obtain ⟨t259, A200, H⟩ := H
              replace H : (if t259 = true then (if a6 < 0 then (plenumref35_Reaches.j0 k a1 a2 a3 a4 a5 a6 true a0_0 a0_1) else (plenumref35_Reaches.j0 k a1 a2 a3 a4 a5 a6 (decide (a6 > 10000)) a0_0 a0_1)) else (plenumref35_Reaches.j0 k a1 a2 a3 a4 a5 a6 true a0_0 a0_1)) = some (r1, r2) := H
              have A20 := Aside0.mk A200
              clear A200
              by_cases c21 : t259 = true
              · subst c21
                have H1 : (if a6 < 0 then (plenumref35_Reaches.j0 k a1 a2 a3 a4 a5 a6 true a0_0 a0_1) else (plenumref35_Reaches.j0 k a1 a2 a3 a4 a5 a6 (decide (a6 > 10000)) a0_0 a0_1)) = some (r1, r2) := by rw [if_pos rfl] at H; exact H
                clear H
                have H := H1
                clear H1
                by_cases c22 : a6 < 0
                · rw [if_pos c22] at H
                  have c22b0 : decide (a6 < 0) = true := decide_eq_true c22
                  clear c22
                  have H' := Aside0.mk H
                  clear H
                  have hcz23_0 : w9.cell? ⟨gb253, 0, none⟩ = some (.int .i64 a0_0) := (blk_cell BK253.out 0).trans rfl
                  have hcz23_1 : w9.cell? ⟨gb253, 1, none⟩ = some (.int .i64 a0_1) := (blk_cell BK253.out 1).trans rfl
                  have hfz23_0 := blk_frozen BK253.out 0
                  have hfz23_1 := blk_frozen BK253.out 1
                  go_wp2_with (first | ((with_reducible refine gate_callee (f := 17) rfl ?_); refine goesL_ (some 19) rfl rfl Try.func17 (by kernel_rfl) rfl #[.agg #[.int .i64 a0_0, .int .i64 a0_1]] rfl (by (try simp only [List.map_toArray, List.map_cons, List.map_nil]); first | done | rfl | (simp only [List.length_drop, List.length_take]; rfl)) ?_; (with_reducible refine (plenumref35_Check.calls a0_0 a0_1 t254 _ A10.out).mono ?_); rintro e w24 ⟨rfl, hb⟩; refine ⟨_, rfl, ?_⟩; have n0_ := Aside0.mk (blk_below (g := gb253) (o := .cells #[.int .i64 a0_0, .int .i64 a0_1] 23 (0, 0)) (by (with_reducible repeat (first | refine blk_drewN ?_ _ | refine blk_drew ?_ | refine blk_alloc ?_ _)); exact BK253.out) hb); have n1_ := Aside0.mk (below_step (by repeat (first | (with_reducible first | exact HB.out | apply below_alloc | apply pw_below_drewN | apply below_drew1 | refine below_set ?_ GE253.out) | exact HB.out)) hb); clear BK253; clear HB; have BK253 := n0_; have HB := n1_; clear n0_ n1_; (try clear hb); (try clear hb2); (try clear hk); (try clear hi)) | (go_at_call 29; (with_reducible refine (plenumref35_Temp.calls a1 true _ A12.out).mono ?_); rintro e w' ⟨rfl, ⟨nd, rfl⟩⟩) | (go_at_call 29; (with_reducible refine (plenumref35_Temp.calls a2 true _ A14.out).mono ?_); rintro e w' ⟨rfl, ⟨nd, rfl⟩⟩) | (go_at_call 30; (with_reducible refine (plenumref35_Heat.calls a3 true _ A16.out).mono ?_); rintro e w' ⟨rfl, ⟨nd, rfl⟩⟩) | (go_at_call 29; (with_reducible refine (plenumref35_Temp.calls a4 true _ A18.out).mono ?_); rintro e w' ⟨rfl, ⟨nd, rfl⟩⟩) | (go_at_call 31; (with_reducible refine (plenumref35_Time.calls a5 true _ A20.out).mono ?_); rintro e w' ⟨rfl, ⟨nd, rfl⟩⟩))
                  go_meet
                  case rel => exact ⟨_, (true), (by first | rfl | (simp; done) | (simp [*]; done)), H', ⟨by first | omega | exact Nat.le_refl _⟩, ⟨by (with_reducible repeat (first | refine blk_drewN ?_ _ | refine blk_drew ?_ | refine blk_alloc ?_ _)); exact BK253.out⟩, ⟨by repeat (first | (with_reducible first | exact HB.out | apply below_alloc | apply pw_below_drewN | apply below_drew1 | refine below_set ?_ GE253.out) | exact HB.out)⟩⟩
                · rw [if_neg c22] at H
                  have c22b0 : decide (a6 < 0) = false := decide_eq_false c22
                  clear c22
                  have H' := Aside0.mk H
                  clear H
                  have hcz25_0 : w9.cell? ⟨gb253, 0, none⟩ = some (.int .i64 a0_0) := (blk_cell BK253.out 0).trans rfl
                  have hcz25_1 : w9.cell? ⟨gb253, 1, none⟩ = some (.int .i64 a0_1) := (blk_cell BK253.out 1).trans rfl
                  have hfz25_0 := blk_frozen BK253.out 0
                  have hfz25_1 := blk_frozen BK253.out 1
                  go_wp2_with (first | ((with_reducible refine gate_callee (f := 17) rfl ?_); refine goesL_ (some 19) rfl rfl Try.func17 (by kernel_rfl) rfl #[.agg #[.int .i64 a0_0, .int .i64 a0_1]] rfl (by (try simp only [List.map_toArray, List.map_cons, List.map_nil]); first | done | rfl | (simp only [List.length_drop, List.length_take]; rfl)) ?_; (with_reducible refine (plenumref35_Check.calls a0_0 a0_1 t254 _ A10.out).mono ?_); rintro e w26 ⟨rfl, hb⟩; refine ⟨_, rfl, ?_⟩; have n0_ := Aside0.mk (blk_below (g := gb253) (o := .cells #[.int .i64 a0_0, .int .i64 a0_1] 23 (0, 0)) (by (with_reducible repeat (first | refine blk_drewN ?_ _ | refine blk_drew ?_ | refine blk_alloc ?_ _)); exact BK253.out) hb); have n1_ := Aside0.mk (below_step (by repeat (first | (with_reducible first | exact HB.out | apply below_alloc | apply pw_below_drewN | apply below_drew1 | refine below_set ?_ GE253.out) | exact HB.out)) hb); clear BK253; clear HB; have BK253 := n0_; have HB := n1_; clear n0_ n1_; (try clear hb); (try clear hb2); (try clear hk); (try clear hi)) | (go_at_call 29; (with_reducible refine (plenumref35_Temp.calls a1 true _ A12.out).mono ?_); rintro e w' ⟨rfl, ⟨nd, rfl⟩⟩) | (go_at_call 29; (with_reducible refine (plenumref35_Temp.calls a2 true _ A14.out).mono ?_); rintro e w' ⟨rfl, ⟨nd, rfl⟩⟩) | (go_at_call 30; (with_reducible refine (plenumref35_Heat.calls a3 true _ A16.out).mono ?_); rintro e w' ⟨rfl, ⟨nd, rfl⟩⟩) | (go_at_call 29; (with_reducible refine (plenumref35_Temp.calls a4 true _ A18.out).mono ?_); rintro e w' ⟨rfl, ⟨nd, rfl⟩⟩) | (go_at_call 31; (with_reducible refine (plenumref35_Time.calls a5 true _ A20.out).mono ?_); rintro e w' ⟨rfl, ⟨nd, rfl⟩⟩))
                  go_meet
                  case rel => exact ⟨_, (decide (a6 > 10000)), (by first | rfl | (simp; done) | (simp [*]; done)), H', ⟨by first | omega | exact Nat.le_refl _⟩, ⟨by (with_reducible repeat (first | refine blk_drewN ?_ _ | refine blk_drew ?_ | refine blk_alloc ?_ _)); exact BK253.out⟩, ⟨by repeat (first | (with_reducible first | exact HB.out | apply below_alloc | apply pw_below_drewN | apply below_drew1 | refine below_set ?_ GE253.out) | exact HB.out)⟩⟩
              · replace c21 := Bool.eq_false_iff.mpr c21
                subst c21
                have H1 : (plenumref35_Reaches.j0 k a1 a2 a3 a4 a5 a6 true a0_0 a0_1) = some (r1, r2) := by rw [if_neg (show ¬ (false = true) by decide)] at H; exact H
                clear H
                have H := H1
                clear H1
                have H' := Aside0.mk H
                clear H
                have hcz27_0 : w9.cell? ⟨gb253, 0, none⟩ = some (.int .i64 a0_0) := (blk_cell BK253.out 0).trans rfl
                have hcz27_1 : w9.cell? ⟨gb253, 1, none⟩ = some (.int .i64 a0_1) := (blk_cell BK253.out 1).trans rfl
                have hfz27_0 := blk_frozen BK253.out 0
                have hfz27_1 := blk_frozen BK253.out 1
                go_wp2_with (first | ((with_reducible refine gate_callee (f := 17) rfl ?_); refine goesL_ (some 19) rfl rfl Try.func17 (by kernel_rfl) rfl #[.agg #[.int .i64 a0_0, .int .i64 a0_1]] rfl (by (try simp only [List.map_toArray, List.map_cons, List.map_nil]); first | done | rfl | (simp only [List.length_drop, List.length_take]; rfl)) ?_; (with_reducible refine (plenumref35_Check.calls a0_0 a0_1 t254 _ A10.out).mono ?_); rintro e w28 ⟨rfl, hb⟩; refine ⟨_, rfl, ?_⟩; have n0_ := Aside0.mk (blk_below (g := gb253) (o := .cells #[.int .i64 a0_0, .int .i64 a0_1] 23 (0, 0)) (by (with_reducible repeat (first | refine blk_drewN ?_ _ | refine blk_drew ?_ | refine blk_alloc ?_ _)); exact BK253.out) hb); have n1_ := Aside0.mk (below_step (by repeat (first | (with_reducible first | exact HB.out | apply below_alloc | apply pw_below_drewN | apply below_drew1 | refine below_set ?_ GE253.out) | exact HB.out)) hb); clear BK253; clear HB; have BK253 := n0_; have HB := n1_; clear n0_ n1_; (try clear hb); (try clear hb2); (try clear hk); (try clear hi)) | (go_at_call 29; (with_reducible refine (plenumref35_Temp.calls a1 true _ A12.out).mono ?_); rintro e w' ⟨rfl, ⟨nd, rfl⟩⟩) | (go_at_call 29; (with_reducible refine (plenumref35_Temp.calls a2 true _ A14.out).mono ?_); rintro e w' ⟨rfl, ⟨nd, rfl⟩⟩) | (go_at_call 30; (with_reducible refine (plenumref35_Heat.calls a3 true _ A16.out).mono ?_); rintro e w' ⟨rfl, ⟨nd, rfl⟩⟩) | (go_at_call 29; (with_reducible refine (plenumref35_Temp.calls a4 true _ A18.out).mono ?_); rintro e w' ⟨rfl, ⟨nd, rfl⟩⟩) | (go_at_call 31; (with_reducible refine (plenumref35_Time.calls a5 false _ A20.out).mono ?_); rintro e w' ⟨rfl, ⟨nd, rfl⟩⟩))
                go_meet
                case rel => exact ⟨_, (true), (by first | rfl | (simp; done) | (simp [*]; done)), H', ⟨by first | omega | exact Nat.le_refl _⟩, ⟨by (with_reducible repeat (first | refine blk_drewN ?_ _ | refine blk_drew ?_ | refine blk_alloc ?_ _)); exact BK253.out⟩, ⟨by repeat (first | (with_reducible first | exact HB.out | apply below_alloc | apply pw_below_drewN | apply below_drew1 | refine below_set ?_ GE253.out) | exact HB.out)⟩⟩
            · replace c19 := Bool.eq_false_iff.mpr c19
              subst c19
              have H1 : (plenumref35_Reaches.j0 k a1 a2 a3 a4 a5 a6 true a0_0 a0_1) = some (r1, r2) := by rw [if_neg (show ¬ (false = true) by decide)] at H; exact H
              clear H
              have H := H1
              clear H1
              have H' := Aside0.mk H
              clear H
              have hcz29_0 : w9.cell? ⟨gb253, 0, none⟩ = some (.int .i64 a0_0) := (blk_cell BK253.out 0).trans rfl
              have hcz29_1 : w9.cell? ⟨gb253, 1, none⟩ = some (.int .i64 a0_1) := (blk_cell BK253.out 1).trans rfl
              have hfz29_0 := blk_frozen BK253.out 0
              have hfz29_1 := blk_frozen BK253.out 1
              go_wp2_with (first | ((with_reducible refine gate_callee (f := 17) rfl ?_); refine goesL_ (some 19) rfl rfl Try.func17 (by kernel_rfl) rfl #[.agg #[.int .i64 a0_0, .int .i64 a0_1]] rfl (by (try simp only [List.map_toArray, List.map_cons, List.map_nil]); first | done | rfl | (simp only [List.length_drop, List.length_take]; rfl)) ?_; (with_reducible refine (plenumref35_Check.calls a0_0 a0_1 t254 _ A10.out).mono ?_); rintro e w30 ⟨rfl, hb⟩; refine ⟨_, rfl, ?_⟩; have n0_ := Aside0.mk (blk_below (g := gb253) (o := .cells #[.int .i64 a0_0, .int .i64 a0_1] 23 (0, 0)) (by (with_reducible repeat (first | refine blk_drewN ?_ _ | refine blk_drew ?_ | refine blk_alloc ?_ _)); exact BK253.out) hb); have n1_ := Aside0.mk (below_step (by repeat (first | (with_reducible first | exact HB.out | apply below_alloc | apply pw_below_drewN | apply below_drew1 | refine below_set ?_ GE253.out) | exact HB.out)) hb); clear BK253; clear HB; have BK253 := n0_; have HB := n1_; clear n0_ n1_; (try clear hb); (try clear hb2); (try clear hk); (try clear hi)) | (go_at_call 29; (with_reducible refine (plenumref35_Temp.calls a1 true _ A12.out).mono ?_); rintro e w' ⟨rfl, ⟨nd, rfl⟩⟩) | (go_at_call 29; (with_reducible refine (plenumref35_Temp.calls a2 true _ A14.out).mono ?_); rintro e w' ⟨rfl, ⟨nd, rfl⟩⟩) | (go_at_call 30; (with_reducible refine (plenumref35_Heat.calls a3 true _ A16.out).mono ?_); rintro e w' ⟨rfl, ⟨nd, rfl⟩⟩) | (go_at_call 29; (with_reducible refine (plenumref35_Temp.calls a4 false _ A18.out).mono ?_); rintro e w' ⟨rfl, ⟨nd, rfl⟩⟩))
              go_meet
              case rel => exact ⟨_, (true), (by first | rfl | (simp; done) | (simp [*]; done)), H', ⟨by first | omega | exact Nat.le_refl _⟩, ⟨by (with_reducible repeat (first | refine blk_drewN ?_ _ | refine blk_drew ?_ | refine blk_alloc ?_ _)); exact BK253.out⟩, ⟨by repeat (first | (with_reducible first | exact HB.out | apply below_alloc | apply pw_below_drewN | apply below_drew1 | refine below_set ?_ GE253.out) | exact HB.out)⟩⟩
          · replace c17 := Bool.eq_false_iff.mpr c17
            subst c17
            have H1 : (plenumref35_Reaches.j0 k a1 a2 a3 a4 a5 a6 true a0_0 a0_1) = some (r1, r2) := by rw [if_neg (show ¬ (false = true) by decide)] at H; exact H
            clear H
            have H := H1
            clear H1
            have H' := Aside0.mk H
            clear H
            have hcz31_0 : w9.cell? ⟨gb253, 0, none⟩ = some (.int .i64 a0_0) := (blk_cell BK253.out 0).trans rfl
            have hcz31_1 : w9.cell? ⟨gb253, 1, none⟩ = some (.int .i64 a0_1) := (blk_cell BK253.out 1).trans rfl
            have hfz31_0 := blk_frozen BK253.out 0
            have hfz31_1 := blk_frozen BK253.out 1
            go_wp2_with (first | ((with_reducible refine gate_callee (f := 17) rfl ?_); refine goesL_ (some 19) rfl rfl Try.func17 (by kernel_rfl) rfl #[.agg #[.int .i64 a0_0, .int .i64 a0_1]] rfl (by (try simp only [List.map_toArray, List.map_cons, List.map_nil]); first | done | rfl | (simp only [List.length_drop, List.length_take]; rfl)) ?_; (with_reducible refine (plenumref35_Check.calls a0_0 a0_1 t254 _ A10.out).mono ?_); rintro e w32 ⟨rfl, hb⟩; refine ⟨_, rfl, ?_⟩; have n0_ := Aside0.mk (blk_below (g := gb253) (o := .cells #[.int .i64 a0_0, .int .i64 a0_1] 23 (0, 0)) (by (with_reducible repeat (first | refine blk_drewN ?_ _ | refine blk_drew ?_ | refine blk_alloc ?_ _)); exact BK253.out) hb); have n1_ := Aside0.mk (below_step (by repeat (first | (with_reducible first | exact HB.out | apply below_alloc | apply pw_below_drewN | apply below_drew1 | refine below_set ?_ GE253.out) | exact HB.out)) hb); clear BK253; clear HB; have BK253 := n0_; have HB := n1_; clear n0_ n1_; (try clear hb); (try clear hb2); (try clear hk); (try clear hi)) | (go_at_call 29; (with_reducible refine (plenumref35_Temp.calls a1 true _ A12.out).mono ?_); rintro e w' ⟨rfl, ⟨nd, rfl⟩⟩) | (go_at_call 29; (with_reducible refine (plenumref35_Temp.calls a2 true _ A14.out).mono ?_); rintro e w' ⟨rfl, ⟨nd, rfl⟩⟩) | (go_at_call 30; (with_reducible refine (plenumref35_Heat.calls a3 false _ A16.out).mono ?_); rintro e w' ⟨rfl, ⟨nd, rfl⟩⟩))
            go_meet
            case rel => exact ⟨_, (true), (by first | rfl | (simp; done) | (simp [*]; done)), H', ⟨by first | omega | exact Nat.le_refl _⟩, ⟨by (with_reducible repeat (first | refine blk_drewN ?_ _ | refine blk_drew ?_ | refine blk_alloc ?_ _)); exact BK253.out⟩, ⟨by repeat (first | (with_reducible first | exact HB.out | apply below_alloc | apply pw_below_drewN | apply below_drew1 | refine below_set ?_ GE253.out) | exact HB.out)⟩⟩
        · replace c15 := Bool.eq_false_iff.mpr c15
          subst c15
          have H1 : (plenumref35_Reaches.j0 k a1 a2 a3 a4 a5 a6 true a0_0 a0_1) = some (r1, r2) := by rw [if_neg (show ¬ (false = true) by decide)] at H; exact H
          clear H
          have H := H1
          clear H1
          have H' := Aside0.mk H
          clear H
          have hcz33_0 : w9.cell? ⟨gb253, 0, none⟩ = some (.int .i64 a0_0) := (blk_cell BK253.out 0).trans rfl
          have hcz33_1 : w9.cell? ⟨gb253, 1, none⟩ = some (.int .i64 a0_1) := (blk_cell BK253.out 1).trans rfl
          have hfz33_0 := blk_frozen BK253.out 0
          have hfz33_1 := blk_frozen BK253.out 1
          go_wp2_with (first | ((with_reducible refine gate_callee (f := 17) rfl ?_); refine goesL_ (some 19) rfl rfl Try.func17 (by kernel_rfl) rfl #[.agg #[.int .i64 a0_0, .int .i64 a0_1]] rfl (by (try simp only [List.map_toArray, List.map_cons, List.map_nil]); first | done | rfl | (simp only [List.length_drop, List.length_take]; rfl)) ?_; (with_reducible refine (plenumref35_Check.calls a0_0 a0_1 t254 _ A10.out).mono ?_); rintro e w34 ⟨rfl, hb⟩; refine ⟨_, rfl, ?_⟩; have n0_ := Aside0.mk (blk_below (g := gb253) (o := .cells #[.int .i64 a0_0, .int .i64 a0_1] 23 (0, 0)) (by (with_reducible repeat (first | refine blk_drewN ?_ _ | refine blk_drew ?_ | refine blk_alloc ?_ _)); exact BK253.out) hb); have n1_ := Aside0.mk (below_step (by repeat (first | (with_reducible first | exact HB.out | apply below_alloc | apply pw_below_drewN | apply below_drew1 | refine below_set ?_ GE253.out) | exact HB.out)) hb); clear BK253; clear HB; have BK253 := n0_; have HB := n1_; clear n0_ n1_; (try clear hb); (try clear hb2); (try clear hk); (try clear hi)) | (go_at_call 29; (with_reducible refine (plenumref35_Temp.calls a1 true _ A12.out).mono ?_); rintro e w' ⟨rfl, ⟨nd, rfl⟩⟩) | (go_at_call 29; (with_reducible refine (plenumref35_Temp.calls a2 false _ A14.out).mono ?_); rintro e w' ⟨rfl, ⟨nd, rfl⟩⟩))
          go_meet
          case rel => exact ⟨_, (true), (by first | rfl | (simp; done) | (simp [*]; done)), H', ⟨by first | omega | exact Nat.le_refl _⟩, ⟨by (with_reducible repeat (first | refine blk_drewN ?_ _ | refine blk_drew ?_ | refine blk_alloc ?_ _)); exact BK253.out⟩, ⟨by repeat (first | (with_reducible first | exact HB.out | apply below_alloc | apply pw_below_drewN | apply below_drew1 | refine below_set ?_ GE253.out) | exact HB.out)⟩⟩
      · replace c13 := Bool.eq_false_iff.mpr c13
        subst c13
        have H1 : (plenumref35_Reaches.j0 k a1 a2 a3 a4 a5 a6 true a0_0 a0_1) = some (r1, r2) := by rw [if_neg (show ¬ (false = true) by decide)] at H; exact H
        clear H
        have H := H1
        clear H1
        have H' := Aside0.mk H
        clear H
        have hcz35_0 : w9.cell? ⟨gb253, 0, none⟩ = some (.int .i64 a0_0) := (blk_cell BK253.out 0).trans rfl
        have hcz35_1 : w9.cell? ⟨gb253, 1, none⟩ = some (.int .i64 a0_1) := (blk_cell BK253.out 1).trans rfl
        have hfz35_0 := blk_frozen BK253.out 0
        have hfz35_1 := blk_frozen BK253.out 1
        go_wp2_with (first | ((with_reducible refine gate_callee (f := 17) rfl ?_); refine goesL_ (some 19) rfl rfl Try.func17 (by kernel_rfl) rfl #[.agg #[.int .i64 a0_0, .int .i64 a0_1]] rfl (by (try simp only [List.map_toArray, List.map_cons, List.map_nil]); first | done | rfl | (simp only [List.length_drop, List.length_take]; rfl)) ?_; (with_reducible refine (plenumref35_Check.calls a0_0 a0_1 t254 _ A10.out).mono ?_); rintro e w36 ⟨rfl, hb⟩; refine ⟨_, rfl, ?_⟩; have n0_ := Aside0.mk (blk_below (g := gb253) (o := .cells #[.int .i64 a0_0, .int .i64 a0_1] 23 (0, 0)) (by (with_reducible repeat (first | refine blk_drewN ?_ _ | refine blk_drew ?_ | refine blk_alloc ?_ _)); exact BK253.out) hb); have n1_ := Aside0.mk (below_step (by repeat (first | (with_reducible first | exact HB.out | apply below_alloc | apply pw_below_drewN | apply below_drew1 | refine below_set ?_ GE253.out) | exact HB.out)) hb); clear BK253; clear HB; have BK253 := n0_; have HB := n1_; clear n0_ n1_; (try clear hb); (try clear hb2); (try clear hk); (try clear hi)) | (go_at_call 29; (with_reducible refine (plenumref35_Temp.calls a1 false _ A12.out).mono ?_); rintro e w' ⟨rfl, ⟨nd, rfl⟩⟩))
        go_meet
        case rel => exact ⟨_, (true), (by first | rfl | (simp; done) | (simp [*]; done)), H', ⟨by first | omega | exact Nat.le_refl _⟩, ⟨by (with_reducible repeat (first | refine blk_drewN ?_ _ | refine blk_drew ?_ | refine blk_alloc ?_ _)); exact BK253.out⟩, ⟨by repeat (first | (with_reducible first | exact HB.out | apply below_alloc | apply pw_below_drewN | apply below_drew1 | refine below_set ?_ GE253.out) | exact HB.out)⟩⟩
    · rw [if_neg c11] at H
      have c11b0 : (t254 == 0) = false := beq_eq_false_iff_ne.mpr c11
      have c11b1 : (t254 != 0) = true := bne_iff_ne.mpr c11
      (first | rw [c11b0] | (simp only [i64_w, i32_w]; rw [c11b0]) | skip)
      have H' := Aside0.mk H
      clear H
      have hcz37_0 : w9.cell? ⟨gb253, 0, none⟩ = some (.int .i64 a0_0) := (blk_cell BK253.out 0).trans rfl
      have hcz37_1 : w9.cell? ⟨gb253, 1, none⟩ = some (.int .i64 a0_1) := (blk_cell BK253.out 1).trans rfl
      have hfz37_0 := blk_frozen BK253.out 0
      have hfz37_1 := blk_frozen BK253.out 1
      go_wp2_with (first | ((with_reducible refine gate_callee (f := 17) rfl ?_); refine goesL_ (some 19) rfl rfl Try.func17 (by kernel_rfl) rfl #[.agg #[.int .i64 a0_0, .int .i64 a0_1]] rfl (by (try simp only [List.map_toArray, List.map_cons, List.map_nil]); first | done | rfl | (simp only [List.length_drop, List.length_take]; rfl)) ?_; (with_reducible refine (plenumref35_Check.calls a0_0 a0_1 t254 _ A10.out).mono ?_); rintro e w38 ⟨rfl, hb⟩; refine ⟨_, rfl, ?_⟩; have n0_ := Aside0.mk (blk_below (g := gb253) (o := .cells #[.int .i64 a0_0, .int .i64 a0_1] 23 (0, 0)) (by (with_reducible repeat (first | refine blk_drewN ?_ _ | refine blk_drew ?_ | refine blk_alloc ?_ _)); exact BK253.out) hb); have n1_ := Aside0.mk (below_step (by repeat (first | (with_reducible first | exact HB.out | apply below_alloc | apply pw_below_drewN | apply below_drew1 | refine below_set ?_ GE253.out) | exact HB.out)) hb); clear BK253; clear HB; have BK253 := n0_; have HB := n1_; clear n0_ n1_; (try clear hb); (try clear hb2); (try clear hk); (try clear hi)))
      go_meet
      case rel => exact ⟨_, (true), (by first | rfl | (simp; done) | (simp [*]; done)), H', ⟨by first | omega | exact Nat.le_refl _⟩, ⟨by (with_reducible repeat (first | refine blk_drewN ?_ _ | refine blk_drew ?_ | refine blk_alloc ?_ _)); exact BK253.out⟩, ⟨by repeat (first | (with_reducible first | exact HB.out | apply below_alloc | apply pw_below_drewN | apply below_drew1 | refine below_set ?_ GE253.out) | exact HB.out)⟩⟩
  case rest =>
    clear HC8
    try clear c1
    try clear c2
    try clear p2
    try clear c11
    try clear c11b0
    try clear c11b1
    try clear c13
    try clear c15
    try clear c17
    try clear c19
    try clear c21
    try clear c22
    try clear c22b0
    try clear hcz23_0
    try clear hcz23_1
    try clear hcz25_0
    try clear hcz25_1
    try clear hcz27_0
    try clear hcz27_1
    try clear hcz29_0
    try clear hcz29_1
    try clear hcz31_0
    try clear hcz31_1
    try clear hcz33_0
    try clear hcz33_1
    try clear hcz35_0
    try clear hcz35_1
    try clear hcz37_0
    try clear hcz37_1
    try clear hfz23_0
    try clear hfz23_1
    try clear hfz25_0
    try clear hfz25_1
    try clear hfz27_0
    try clear hfz27_1
    try clear hfz29_0
    try clear hfz29_1
    try clear hfz31_0
    try clear hfz31_1
    try clear hfz33_0
    try clear hfz33_1
    try clear hfz35_0
    try clear hfz35_1
    try clear hfz37_0
    try clear hfz37_1
    obtain ⟨kq, x53_7, rfl, HA, HJ7, BK253, HB⟩ := hcut
    cases kq with
    | zero => exact absurd HA.out (by simp [plenumref35_Reaches.j0])
    | succ kj7 =>
      have H := HA.out
      clear HA
      simp only [plenumref35_Reaches.j0] at H
      by_cases c39 : x53_7 = true
      · subst c39
        have H1 : (some (0, 6)) = some (r1, r2) := by rw [if_pos rfl] at H; exact H
        clear H
        have H := H1
        clear H1
        simp only [Option.some.injEq, Prod.mk.injEq] at H
        obtain ⟨rfl, rfl⟩ := H
        go_wp2
        go_ret2
        exact ⟨by first | rfl | (simp [errW_none, errW_some] <;> rfl) | (simp [*, errW_none, errW_some] <;> rfl), by repeat (first | (with_reducible first | exact HB.out | apply below_alloc | apply pw_below_drewN | apply below_drew1 | refine below_set ?_ GE253.out) | exact HB.out)⟩
      · replace c39 := Bool.eq_false_iff.mpr c39
        subst c39
        have H1 : (plenumref35_Reaches.j1 kj7 a1 a2 a3 a4 a5 a6 (decide (a1 < a4)) a0_0 a0_1) = some (r1, r2) := by rw [if_neg (show ¬ (false = true) by decide)] at H; exact H
        clear H
        have H := H1
        clear H1
        have HC40 := Aside0.mk H
        clear H
        go_upto_region 3 with (fail)
        go_cut [16] (fun v16 wc => ∃ (kq : Nat) (x16_39 : Bool), v16 = .bool x16_39 ∧ Aside0 (plenumref35_Reaches.j1 kq a1 a2 a3 a4 a5 a6 x16_39 a0_0 a0_1 = some (r1, r2)) ∧ Aside0 (kq ≤ kj7) ∧ Aside0 (wc.heap[gb253]? = some (.cells #[.int .i64 a0_0, .int .i64 a0_1] 23 (0, 0))) ∧ Aside0 (Below w.heap.size w wc))
        case first =>
          have H := HC40.out
          clear HC40
          have H' := Aside0.mk H
          clear H
          go_wp2
          go_meet
          case rel => exact ⟨_, (decide (a1 < a4)), (by first | rfl | (simp; done) | (simp [*]; done)), H', ⟨by have := HJ7.out; first | omega | exact Nat.le_refl _⟩, ⟨by (with_reducible repeat (first | refine blk_drewN ?_ _ | refine blk_drew ?_ | refine blk_alloc ?_ _)); exact BK253.out⟩, ⟨by repeat (first | (with_reducible first | exact HB.out | apply below_alloc | apply pw_below_drewN | apply below_drew1 | refine below_set ?_ GE253.out) | exact HB.out)⟩⟩
        case rest =>
          clear HC40
          try clear c1
          try clear c2
          try clear p2
          try clear c3
          try clear c11
          try clear c11b0
          try clear c11b1
          try clear c13
          try clear c15
          try clear c17
          try clear c19
          try clear c21
          try clear c22
          try clear c22b0
          try clear c39
          try clear hcz23_0
          try clear hcz23_1
          try clear hcz25_0
          try clear hcz25_1
          try clear hcz27_0
          try clear hcz27_1
          try clear hcz29_0
          try clear hcz29_1
          try clear hcz31_0
          try clear hcz31_1
          try clear hcz33_0
          try clear hcz33_1
          try clear hcz35_0
          try clear hcz35_1
          try clear hcz37_0
          try clear hcz37_1
          try clear hfz23_0
          try clear hfz23_1
          try clear hfz25_0
          try clear hfz25_1
          try clear hfz27_0
          try clear hfz27_1
          try clear hfz29_0
          try clear hfz29_1
          try clear hfz31_0
          try clear hfz31_1
          try clear hfz33_0
          try clear hfz33_1
          try clear hfz35_0
          try clear hfz35_1
          try clear hfz37_0
          try clear hfz37_1
          try clear p2
          obtain ⟨kq, x16_39, rfl, HA, HJ39, BK253, HB⟩ := hcut
          cases kq with
          | zero => exact absurd HA.out (by simp [plenumref35_Reaches.j1])
          | succ kj39 =>
            have H := HA.out
            clear HA
            simp only [plenumref35_Reaches.j1] at H
            have H' := Aside0.mk H
            clear H
            go_wp2
            go_loopg [1, 17] kj39 (fun kq v1 v17 w' => ∃ (x1_3 : Int) (x17_3 : Int), v1 = .int .i64 x1_3 ∧ v17 = .int .i64 x17_3 ∧ Aside0 (plenumref35_Reaches.l0 kq x1_3 a2 a3 a4 a5 a6 x16_39 x17_3 a0_0 a0_1 = some (r1, r2)) ∧ Aside0 (kq ≤ kj39) ∧ Aside0 (w'.heap[gb253]? = some (.cells #[.int .i64 a0_0, .int .i64 a0_1] 23 (0, 0))) ∧ Aside0 (Below w.heap.size w w'))
            case atStart => exact ⟨(a1), (0), (by first | rfl | (simp; done) | (simp [*]; done)), (by first | rfl | (simp; done) | (simp [*]; done)), H', ⟨Nat.le_refl _⟩, ⟨by (with_reducible repeat (first | refine blk_drewN ?_ _ | refine blk_drew ?_ | refine blk_alloc ?_ _)); exact BK253.out⟩, ⟨by repeat (first | (with_reducible first | exact HB.out | apply below_alloc | apply pw_below_drewN | apply below_drew1 | refine below_set ?_ GE253.out) | exact HB.out)⟩⟩
            case round =>
              clear H'
              try clear c1
              try clear c2
              try clear p2
              try clear c3
              try clear c11
              try clear c11b0
              try clear c11b1
              try clear c13
              try clear c15
              try clear c17
              try clear c19
              try clear c21
              try clear c22
              try clear c22b0
              try clear c39
              try clear hcz23_0
              try clear hcz23_1
              try clear hcz25_0
              try clear hcz25_1
              try clear hcz27_0
              try clear hcz27_1
              try clear hcz29_0
              try clear hcz29_1
              try clear hcz31_0
              try clear hcz31_1
              try clear hcz33_0
              try clear hcz33_1
              try clear hcz35_0
              try clear hcz35_1
              try clear hcz37_0
              try clear hcz37_1
              try clear hfz23_0
              try clear hfz23_1
              try clear hfz25_0
              try clear hfz25_1
              try clear hfz27_0
              try clear hfz27_1
              try clear hfz29_0
              try clear hfz29_1
              try clear hfz31_0
              try clear hfz31_1
              try clear hfz33_0
              try clear hfz33_1
              try clear hfz35_0
              try clear hfz35_1
              try clear hfz37_0
              try clear hfz37_1
              try clear p2
              obtain ⟨x1_3, x17_3, rfl, rfl, HA, HK3, BK253, HB⟩ := hrel
              cases gk with
              | zero => exact absurd HA.out (by simp [plenumref35_Reaches.l0])
              | succ k3 =>
                have H := HA.out
                clear HA
                simp only [plenumref35_Reaches.l0] at H
                by_cases c41 : x17_3 ≤ a6
                · rw [if_pos c41] at H
                  have c41b0 : decide (x17_3 ≤ a6) = true := decide_eq_true c41
                  clear c41
                  by_cases c42 : x1_3 = a4
                  · rw [if_pos c42] at H
                    have c42b0 : (x1_3 == a4) = true := beq_iff_eq.mpr c42
                    have c42b1 : (x1_3 != a4) = false := bne_eq_false_iff_eq.mpr c42
                    clear c42
                    simp only [Option.some.injEq, Prod.mk.injEq] at H
                    obtain ⟨rfl, rfl⟩ := H
                    go_wp2
                    go_ret2
                    exact ⟨by first | rfl | (simp [errW_none, errW_some] <;> rfl) | (simp [*, errW_none, errW_some] <;> rfl), by repeat (first | (with_reducible first | exact HB.out | apply below_alloc | apply pw_below_drewN | apply below_drew1 | refine below_set ?_ GE253.out) | exact HB.out)⟩
                  · rw [if_neg c42] at H
                    have c42b0 : (x1_3 == a4) = false := beq_eq_false_iff_ne.mpr c42
                    have c42b1 : (x1_3 != a4) = true := bne_iff_ne.mpr c42
                    by_cases c43 : x16_39 = true
                    · subst c43
                      have H1 : (if x1_3 > a4 then (some (x17_3, 0)) else ((plenumref35_Next.f a0_0 a0_1 x1_3 a2 a3 a5).bind fun t260 => (plenumref35_Reaches.l0 k3 t260 a2 a3 a4 a5 a6 true (wrap64 (x17_3 + 1)) a0_0 a0_1))) = some (r1, r2) := by rw [if_pos rfl] at H; exact H
                      clear H
                      have H := H1
                      clear H1
                      by_cases c44 : x1_3 > a4
                      · rw [if_pos c44] at H
                        have c44b0 : decide (a4 < x1_3) = true := decide_eq_true c44
                        clear c44
                        simp only [Option.some.injEq, Prod.mk.injEq] at H
                        obtain ⟨rfl, rfl⟩ := H
                        go_wp2
                        go_ret2
                        exact ⟨by first | rfl | (simp [errW_none, errW_some] <;> rfl) | (simp [*, errW_none, errW_some] <;> rfl), by repeat (first | (with_reducible first | exact HB.out | apply below_alloc | apply pw_below_drewN | apply below_drew1 | refine below_set ?_ GE253.out) | exact HB.out)⟩
                      · rw [if_neg c44] at H
                        have c44b0 : decide (a4 < x1_3) = false := decide_eq_false c44
                        clear c44
                        replace H := Option.bind_eq_some_iff.mp H
                        obtain ⟨t260, A450, H⟩ := H
                        replace H : (plenumref35_Reaches.l0 k3 t260 a2 a3 a4 a5 a6 true (wrap64 (x17_3 + 1)) a0_0 a0_1) = some (r1, r2) := H
                        have A45 := Aside0.mk A450
                        clear A450
                        have H' := Aside0.mk H
                        clear H
                        have hcz46_0 : wr.cell? ⟨gb253, 0, none⟩ = some (.int .i64 a0_0) := (blk_cell BK253.out 0).trans rfl
                        have hcz46_1 : wr.cell? ⟨gb253, 1, none⟩ = some (.int .i64 a0_1) := (blk_cell BK253.out 1).trans rfl
                        have hfz46_0 := blk_frozen BK253.out 0
                        have hfz46_1 := blk_frozen BK253.out 1
                        go_wp2_with (first | ((with_reducible refine gate_callee (f := 32) rfl ?_); refine goesL_ (some 88) rfl rfl Try.func32 (by kernel_rfl) rfl #[.agg #[.int .i64 a0_0, .int .i64 a0_1], .int .i64 x1_3, .int .i64 a2, .int .i64 a3, .int .i64 a5] rfl (by (try simp only [List.map_toArray, List.map_cons, List.map_nil]); first | done | rfl | (simp only [List.length_drop, List.length_take]; rfl)) ?_; (with_reducible refine (plenumref35_Next.calls a0_0 a0_1 x1_3 a2 a3 a5 t260 _ A45.out).mono ?_); rintro e w47 ⟨rfl, hb⟩; refine ⟨_, rfl, ?_⟩; have n0_ := Aside0.mk (blk_below (g := gb253) (o := .cells #[.int .i64 a0_0, .int .i64 a0_1] 23 (0, 0)) (by (with_reducible repeat (first | refine blk_drewN ?_ _ | refine blk_drew ?_ | refine blk_alloc ?_ _)); exact BK253.out) hb); have n1_ := Aside0.mk (below_step (by repeat (first | (with_reducible first | exact HB.out | apply below_alloc | apply pw_below_drewN | apply below_drew1 | refine below_set ?_ GE253.out) | exact HB.out)) hb); clear BK253; clear HB; have BK253 := n0_; have HB := n1_; clear n0_ n1_; (try clear hb); (try clear hb2); (try clear hk); (try clear hi)))
                        go_roundg k3
                        case measure => have := HJ7.out; have := HJ39.out; have := HK3.out; omega
                        case rel => exact ⟨(t260), (wrap64 (x17_3 + 1)), (by first | rfl | (simp; done) | (simp [*]; done)), (by first | rfl | (simp; done) | (simp [*]; done)), H', ⟨by have := HJ7.out; have := HJ39.out; have := HK3.out; omega⟩, ⟨by (with_reducible repeat (first | refine blk_drewN ?_ _ | refine blk_drew ?_ | refine blk_alloc ?_ _)); exact BK253.out⟩, ⟨by repeat (first | (with_reducible first | exact HB.out | apply below_alloc | apply pw_below_drewN | apply below_drew1 | refine below_set ?_ GE253.out) | exact HB.out)⟩⟩
                    · replace c43 := Bool.eq_false_iff.mpr c43
                      subst c43
                      have H1 : (if x1_3 < a4 then (some (x17_3, 0)) else ((plenumref35_Next.f a0_0 a0_1 x1_3 a2 a3 a5).bind fun t261 => (plenumref35_Reaches.l0 k3 t261 a2 a3 a4 a5 a6 false (wrap64 (x17_3 + 1)) a0_0 a0_1))) = some (r1, r2) := by rw [if_neg (show ¬ (false = true) by decide)] at H; exact H
                      clear H
                      have H := H1
                      clear H1
                      by_cases c48 : x1_3 < a4
                      · rw [if_pos c48] at H
                        have c48b0 : decide (x1_3 < a4) = true := decide_eq_true c48
                        clear c48
                        simp only [Option.some.injEq, Prod.mk.injEq] at H
                        obtain ⟨rfl, rfl⟩ := H
                        go_wp2
                        go_ret2
                        exact ⟨by first | rfl | (simp [errW_none, errW_some] <;> rfl) | (simp [*, errW_none, errW_some] <;> rfl), by repeat (first | (with_reducible first | exact HB.out | apply below_alloc | apply pw_below_drewN | apply below_drew1 | refine below_set ?_ GE253.out) | exact HB.out)⟩
                      · rw [if_neg c48] at H
                        have c48b0 : decide (x1_3 < a4) = false := decide_eq_false c48
                        clear c48
                        replace H := Option.bind_eq_some_iff.mp H
                        obtain ⟨t261, A490, H⟩ := H
                        replace H : (plenumref35_Reaches.l0 k3 t261 a2 a3 a4 a5 a6 false (wrap64 (x17_3 + 1)) a0_0 a0_1) = some (r1, r2) := H
                        have A49 := Aside0.mk A490
                        clear A490
                        have H' := Aside0.mk H
                        clear H
                        have hcz50_0 : wr.cell? ⟨gb253, 0, none⟩ = some (.int .i64 a0_0) := (blk_cell BK253.out 0).trans rfl
                        have hcz50_1 : wr.cell? ⟨gb253, 1, none⟩ = some (.int .i64 a0_1) := (blk_cell BK253.out 1).trans rfl
                        have hfz50_0 := blk_frozen BK253.out 0
                        have hfz50_1 := blk_frozen BK253.out 1
                        go_wp2_with (first | ((with_reducible refine gate_callee (f := 32) rfl ?_); refine goesL_ (some 88) rfl rfl Try.func32 (by kernel_rfl) rfl #[.agg #[.int .i64 a0_0, .int .i64 a0_1], .int .i64 x1_3, .int .i64 a2, .int .i64 a3, .int .i64 a5] rfl (by (try simp only [List.map_toArray, List.map_cons, List.map_nil]); first | done | rfl | (simp only [List.length_drop, List.length_take]; rfl)) ?_; (with_reducible refine (plenumref35_Next.calls a0_0 a0_1 x1_3 a2 a3 a5 t261 _ A49.out).mono ?_); rintro e w51 ⟨rfl, hb⟩; refine ⟨_, rfl, ?_⟩; have n0_ := Aside0.mk (blk_below (g := gb253) (o := .cells #[.int .i64 a0_0, .int .i64 a0_1] 23 (0, 0)) (by (with_reducible repeat (first | refine blk_drewN ?_ _ | refine blk_drew ?_ | refine blk_alloc ?_ _)); exact BK253.out) hb); have n1_ := Aside0.mk (below_step (by repeat (first | (with_reducible first | exact HB.out | apply below_alloc | apply pw_below_drewN | apply below_drew1 | refine below_set ?_ GE253.out) | exact HB.out)) hb); clear BK253; clear HB; have BK253 := n0_; have HB := n1_; clear n0_ n1_; (try clear hb); (try clear hb2); (try clear hk); (try clear hi)))
                        go_roundg k3
                        case measure => have := HJ7.out; have := HJ39.out; have := HK3.out; omega
                        case rel => exact ⟨(t261), (wrap64 (x17_3 + 1)), (by first | rfl | (simp; done) | (simp [*]; done)), (by first | rfl | (simp; done) | (simp [*]; done)), H', ⟨by have := HJ7.out; have := HJ39.out; have := HK3.out; omega⟩, ⟨by (with_reducible repeat (first | refine blk_drewN ?_ _ | refine blk_drew ?_ | refine blk_alloc ?_ _)); exact BK253.out⟩, ⟨by repeat (first | (with_reducible first | exact HB.out | apply below_alloc | apply pw_below_drewN | apply below_drew1 | refine below_set ?_ GE253.out) | exact HB.out)⟩⟩
                · rw [if_neg c41] at H
                  have c41b0 : decide (x17_3 ≤ a6) = false := decide_eq_false c41
                  clear c41
                  simp only [Option.some.injEq, Prod.mk.injEq] at H
                  obtain ⟨rfl, rfl⟩ := H
                  go_wp2
                  go_ret2
                  exact ⟨by first | rfl | (simp [errW_none, errW_some] <;> rfl) | (simp [*, errW_none, errW_some] <;> rfl), by repeat (first | (with_reducible first | exact HB.out | apply below_alloc | apply pw_below_drewN | apply below_drew1 | refine below_set ?_ GE253.out) | exact HB.out)⟩

/-! ### plenumref35_After: function 38 -/
def plenumref35_After.l0 : Nat → Int → Int → Int → Int → Int → Int → Int → Int → Option (Int)
  | 0, _, _, _, _, _, _, _, _ => none
  | k + 1, x1, x2, x3, x4, x5, x13, x263000, x263001 => if x13 < x5 then ((plenumref35_Next.f x263000 x263001 x1 x2 x3 x4).bind fun t263 => (plenumref35_After.l0 k t263 x2 x3 x4 x5 (wrap64 (x13 + 1)) x263000 x263001)) else (some x1)
def plenumref35_After.f (k : Nat) (a0_0 : Int) (a0_1 : Int) (a1 : Int) (a2 : Int) (a3 : Int) (a4 : Int) (a5 : Int) : Option (Int) := plenumref35_After.l0 k a1 a2 a3 a4 a5 0 a0_0 a0_1
theorem plenumref35_After.mono_l : ∀ k, (∀ y0 y1 y2 y3 y4 y5 y6 y7, LeO (plenumref35_After.l0 k y0 y1 y2 y3 y4 y5 y6 y7) (plenumref35_After.l0 (k + 1) y0 y1 y2 y3 y4 y5 y6 y7))
  | 0 => fun _ _ _ _ _ _ _ _ r h => by simp [plenumref35_After.l0] at h
  | k + 1 => by
    have ih0 := plenumref35_After.mono_l k
    · intro y0 y1 y2 y3 y4 y5 y6 y7
      unfold plenumref35_After.l0
      repeat' first
      | (with_reducible exact ih0 _ _ _ _ _ _ _ _)
      | (with_reducible exact LeO.refl _)
      | (with_reducible exact LeO.none _)
      | (with_reducible refine LeO.ite ?_ ?_)
      | (with_reducible refine LeO.bind ?_ (fun _ => ?_))
      | exact ih0 _ _ _ _ _ _ _ _
      | exact LeO.none _
      | refine LeO.ite ?_ ?_
      | refine LeO.bind ?_ (fun _ => ?_)
theorem plenumref35_After.mono : ∀ a0 a1 a2 a3 a4 a5 a6 k, LeO (plenumref35_After.f k a0 a1 a2 a3 a4 a5 a6) (plenumref35_After.f (k + 1) a0 a1 a2 a3 a4 a5 a6) := by
  intro a0 a1 a2 a3 a4 a5 a6 k
  have ih0 := plenumref35_After.mono_l k
  unfold plenumref35_After.f
  repeat' first
      | (with_reducible exact ih0 _ _ _ _ _ _ _ _)
      | (with_reducible exact LeO.refl _)
      | (with_reducible exact LeO.none _)
      | (with_reducible refine LeO.ite ?_ ?_)
      | (with_reducible refine LeO.bind ?_ (fun _ => ?_))
      | exact ih0 _ _ _ _ _ _ _ _
      | exact LeO.none _
      | refine LeO.ite ?_ ?_
      | refine LeO.bind ?_ (fun _ => ?_)
set_option maxHeartbeats 8000000 in
set_option maxRecDepth 100000 in
theorem plenumref35_After.calls (k : Nat) (a0_0 : Int) (a0_1 : Int) (a1 : Int) (a2 : Int) (a3 : Int) (a4 : Int) (a5 : Int) (r : Int) (w : World) (h : plenumref35_After.f k a0_0 a0_1 a1 a2 a3 a4 a5 = some r) :
    Calls Try.prog 38 #[.agg #[.int .i64 a0_0, .int .i64 a0_1], .int .i64 a1, .int .i64 a2, .int .i64 a3, .int .i64 a4, .int .i64 a5] w fun e w' => e = .returned (.int .i64 r) ∧ Below w.heap.size w w' := by
  have hu23 := Try.underlying23
  have HB := Aside0.mk (Below.refl w.heap.size w)
  have H : (plenumref35_After.l0 k a1 a2 a3 a4 a5 0 a0_0 a0_1) = some r := h
  clear h
  have H' := Aside0.mk H
  clear H
  go_enter Try.func38, Try.ntmps38
  go_wp2_with (first | ((with_reducible refine gate_dst (N := 6) rfl ?_); refine box_event ?hg (N := 6) ?hd (cs := #[.int .i64 a0_0, .int .i64 a0_1]) (t := 23) ?hr ?_; (case hd => rfl); (case hg => rfl); (case hr => first | (go_simp; done) | (go_simp; rfl)); intro gb262 hg w7 hbox hb; have n0_ := Aside0.mk (below_step (by repeat (first | (with_reducible first | exact HB.out | apply below_alloc | apply pw_below_drewN | apply below_drew1) | exact HB.out)) hb); have n1_ := Aside0.mk (hbox); have n2_ := Aside0.mk ((by rw [hg]; exact (below_size (by repeat (first | (with_reducible first | exact HB.out | apply below_alloc | apply pw_below_drewN | apply below_drew1) | exact HB.out))) : w.heap.size ≤ gb262)); have n3_ := Aside0.mk ((by rw [hg]; exact (below_size (by repeat (first | (with_reducible first | exact HB.out | apply below_alloc | apply pw_below_drewN | apply below_drew1) | exact HB.out))) : w.heap.size ≤ gb262)); clear HB; have HB := n0_; have BK262 := n1_; have GW262 := n2_; have GE262 := n3_; clear n0_ n1_ n2_ n3_; clear hb hbox hg))
  go_loopg [1, 13] k (fun kq v1 v13 w' => ∃ (x1_1 : Int) (x13_1 : Int), v1 = .int .i64 x1_1 ∧ v13 = .int .i64 x13_1 ∧ Aside0 (plenumref35_After.l0 kq x1_1 a2 a3 a4 a5 x13_1 a0_0 a0_1 = some r) ∧ Aside0 (kq ≤ k) ∧ Aside0 (w'.heap[gb262]? = some (.cells #[.int .i64 a0_0, .int .i64 a0_1] 23 (0, 0))) ∧ Aside0 (Below w.heap.size w w'))
  case atStart => exact ⟨(a1), (0), (by first | rfl | (simp; done) | (simp [*]; done)), (by first | rfl | (simp; done) | (simp [*]; done)), H', ⟨Nat.le_refl _⟩, ⟨by (with_reducible repeat (first | refine blk_drewN ?_ _ | refine blk_drew ?_ | refine blk_alloc ?_ _)); exact BK262.out⟩, ⟨by repeat (first | (with_reducible first | exact HB.out | apply below_alloc | apply pw_below_drewN | apply below_drew1 | refine below_set ?_ GE262.out) | exact HB.out)⟩⟩
  case round =>
    clear H'
    try clear p2
    try clear c3
    obtain ⟨x1_1, x13_1, rfl, rfl, HA, HK1, BK262, HB⟩ := hrel
    cases gk with
    | zero => exact absurd HA.out (by simp [plenumref35_After.l0])
    | succ k1 =>
      have H := HA.out
      clear HA
      simp only [plenumref35_After.l0] at H
      by_cases c8 : x13_1 < a5
      · rw [if_pos c8] at H
        have c8b0 : decide (x13_1 < a5) = true := decide_eq_true c8
        clear c8
        replace H := Option.bind_eq_some_iff.mp H
        obtain ⟨t263, A90, H⟩ := H
        replace H : (plenumref35_After.l0 k1 t263 a2 a3 a4 a5 (wrap64 (x13_1 + 1)) a0_0 a0_1) = some r := H
        have A9 := Aside0.mk A90
        clear A90
        have H' := Aside0.mk H
        clear H
        have hcz10_0 : wr.cell? ⟨gb262, 0, none⟩ = some (.int .i64 a0_0) := (blk_cell BK262.out 0).trans rfl
        have hcz10_1 : wr.cell? ⟨gb262, 1, none⟩ = some (.int .i64 a0_1) := (blk_cell BK262.out 1).trans rfl
        have hfz10_0 := blk_frozen BK262.out 0
        have hfz10_1 := blk_frozen BK262.out 1
        go_wp2_with (first | ((with_reducible refine gate_callee (f := 32) rfl ?_); refine goesL_ (some 24) rfl rfl Try.func32 (by kernel_rfl) rfl #[.agg #[.int .i64 a0_0, .int .i64 a0_1], .int .i64 x1_1, .int .i64 a2, .int .i64 a3, .int .i64 a4] rfl (by (try simp only [List.map_toArray, List.map_cons, List.map_nil]); first | done | rfl | (simp only [List.length_drop, List.length_take]; rfl)) ?_; (with_reducible refine (plenumref35_Next.calls a0_0 a0_1 x1_1 a2 a3 a4 t263 _ A9.out).mono ?_); rintro e w11 ⟨rfl, hb⟩; refine ⟨_, rfl, ?_⟩; have n0_ := Aside0.mk (blk_below (g := gb262) (o := .cells #[.int .i64 a0_0, .int .i64 a0_1] 23 (0, 0)) (by (with_reducible repeat (first | refine blk_drewN ?_ _ | refine blk_drew ?_ | refine blk_alloc ?_ _)); exact BK262.out) hb); have n1_ := Aside0.mk (below_step (by repeat (first | (with_reducible first | exact HB.out | apply below_alloc | apply pw_below_drewN | apply below_drew1 | refine below_set ?_ GE262.out) | exact HB.out)) hb); clear BK262; clear HB; have BK262 := n0_; have HB := n1_; clear n0_ n1_; (try clear hb); (try clear hb2); (try clear hk); (try clear hi)))
        go_roundg k1
        case measure => have := HK1.out; omega
        case rel => exact ⟨(t263), (wrap64 (x13_1 + 1)), (by first | rfl | (simp; done) | (simp [*]; done)), (by first | rfl | (simp; done) | (simp [*]; done)), H', ⟨by have := HK1.out; omega⟩, ⟨by (with_reducible repeat (first | refine blk_drewN ?_ _ | refine blk_drew ?_ | refine blk_alloc ?_ _)); exact BK262.out⟩, ⟨by repeat (first | (with_reducible first | exact HB.out | apply below_alloc | apply pw_below_drewN | apply below_drew1 | refine below_set ?_ GE262.out) | exact HB.out)⟩⟩
      · rw [if_neg c8] at H
        have c8b0 : decide (x13_1 < a5) = false := decide_eq_false c8
        clear c8
        obtain rfl := Option.some.inj H
        go_wp2
        go_ret
        exact ⟨by first | rfl | (simp [errW_none, errW_some] <;> rfl) | (simp [*, errW_none, errW_some] <;> rfl), by repeat (first | (with_reducible first | exact HB.out | apply below_alloc | apply pw_below_drewN | apply below_drew1 | refine below_set ?_ GE262.out) | exact HB.out)⟩

end Go.Proofs.Ythlokfpboinmpaa.PT
