-- Laid by hp.py (a program of this session's) through the kit's printer. (squeezed)
import Derived.Test.YtbfcplnaafnlhaaDoorPTx0
import Derived.Test.YtbfcplnaafnlhaaDoorPTx16
import Derived.Test.YtbfcplnaafnlhaaDoorPTx36
namespace Go.Proofs.YtbfcplnaafnlhaaDoor.PT
open Go.RowKit Go.Proofs.YtbfcplnaafnlhaaDoorW.PrintWords Go.Proofs.YtbfcplnaafnlhaaDoorW.PrintLast Go.Proofs.YtbfcplnaafnlhaaDoorW.PrintMore
attribute [local go_sem] max2_int min2_int max_two min_two max_three min_three max_four min_four   -- for this text's walks alone
set_option linter.unusedVariables false
set_option linter.unusedSimpArgs false
/-! ### plenumref22_Temperature: function 24 -/
def plenumref22_Temperature.l0 : Nat → Int → Int → Int → Int → Option (Int)
 | 0, _, _, _, _ => none
 | k + 1, x0, x1, x5, x6 => if x5 < x6 then ((plenumref22_Enthalpy.f k (wrap64 ((wrap64 (Int.tdiv (wrap64 ((wrap64 (x5 + x6)) + 400000)) 2)) - 200000)) x1).bind fun t293 => (if t293 ≥ x0 then (plenumref22_Temperature.l0 k x0 x1 x5 (wrap64 ((wrap64 (Int.tdiv (wrap64 ((wrap64 (x5 + x6)) + 400000)) 2)) - 200000))) else (plenumref22_Temperature.l0 k x0 x1 (wrap64 ((wrap64 ((wrap64 (Int.tdiv (wrap64 ((wrap64 (x5 + x6)) + 400000)) 2)) - 200000)) + 1)) x6))) else (some x5)
def plenumref22_Temperature.f (k : Nat) (a0 : Int) (a1 : Int) : Option (Int) := (plenumref01_Clamp.f a0).bind fun t292 => (plenumref22_Temperature.l0 k t292 a1 (-100000) 200000)
theorem plenumref22_Temperature.mono_l : ∀ k, (∀ y0 y1 y2 y3, LeO (plenumref22_Temperature.l0 k y0 y1 y2 y3) (plenumref22_Temperature.l0 (k + 1) y0 y1 y2 y3))
 | 0 => fun _ _ _ _ r h => by simp [plenumref22_Temperature.l0] at h
 | k + 1 => by
  have ih0 := plenumref22_Temperature.mono_l k
  ·
   intro y0 y1 y2 y3
   unfold plenumref22_Temperature.l0
   repeat' first
   | (with_reducible exact ih0 _ _ _ _)
   | (with_reducible exact plenumref22_Enthalpy.mono _ _ _)
   | (with_reducible exact LeO.refl _)
   | (with_reducible exact LeO.none _)
   | (with_reducible refine LeO.ite ?_ ?_)
   | (with_reducible refine LeO.bind ?_ (fun _ => ?_))
   | exact ih0 _ _ _ _
   | exact plenumref22_Enthalpy.mono _ _ _
   | exact LeO.none _
   | refine LeO.ite ?_ ?_
   | refine LeO.bind ?_ (fun _ => ?_)
theorem plenumref22_Temperature.mono : ∀ a0 a1 k, LeO (plenumref22_Temperature.f k a0 a1) (plenumref22_Temperature.f (k + 1) a0 a1) := by
 intro a0 a1 k
 have ih0 := plenumref22_Temperature.mono_l k
 unfold plenumref22_Temperature.f
 repeat' first
  | (with_reducible exact ih0 _ _ _ _)
  | (with_reducible exact plenumref22_Enthalpy.mono _ _ _)
  | (with_reducible exact LeO.refl _)
  | (with_reducible exact LeO.none _)
  | (with_reducible refine LeO.ite ?_ ?_)
  | (with_reducible refine LeO.bind ?_ (fun _ => ?_))
  | exact ih0 _ _ _ _
  | exact plenumref22_Enthalpy.mono _ _ _
  | exact LeO.none _
  | refine LeO.ite ?_ ?_
  | refine LeO.bind ?_ (fun _ => ?_)
set_option maxHeartbeats 8000000 in
set_option maxRecDepth 100000 in
theorem plenumref22_Temperature.calls (k : Nat) (a0 : Int) (a1 : Int) (r : Int) (w : World) (h : plenumref22_Temperature.f k a0 a1 = some r) :
 Calls Tryd.prog 24 #[.int .i64 a0, .int .i64 a1] w fun e w' => e = .returned (.int .i64 r) ∧ Below w.heap.size w w' := by
 have HB := Aside0.mk (Below.refl w.heap.size w)
 have H : ((plenumref01_Clamp.f a0).bind fun t292 => (plenumref22_Temperature.l0 k t292 a1 (-100000) 200000)) = some r := h
 clear h
 replace H := Option.bind_eq_some_iff.mp H
 obtain ⟨t292, A30, H⟩ := H
 replace H : (plenumref22_Temperature.l0 k t292 a1 (-100000) 200000) = some r := H
 have A3 := Aside0.mk A30
 clear A30
 have H' := Aside0.mk H
 clear H
 go_enter Tryd.func24, Tryd.ntmps24
 go_wp2_with (first | ((with_reducible refine gate_callee (f := 41) rfl ?_); refine goesL_ (some 9) rfl rfl Tryd.func41 (by kernel_rfl) rfl #[.int .i64 a0] rfl (by (try simp only [List.map_toArray, List.map_cons, List.map_nil]); first | done | rfl | (simp only [List.length_drop, List.length_take]; rfl)) ?_; (with_reducible refine (plenumref01_Clamp.calls a0 t292 _ A3.out).mono ?_); rintro e w4 ⟨rfl, hb⟩; refine ⟨_, rfl, ?_⟩; have n0_ := Aside0.mk (below_step (by repeat (first | (with_reducible first | exact HB.out | apply below_alloc | apply pw_below_drewN | apply below_drew1) | exact HB.out)) hb); clear HB; have HB := n0_; clear n0_; (try clear hb); (try clear hb2); (try clear hk); (try clear hi)))
 go_loopg [5, 6] k (fun kq v5 v6 w' => ∃ (x5_1 : Int) (x6_1 : Int), v5 = .int .i64 x5_1 ∧ v6 = .int .i64 x6_1 ∧ Aside0 (plenumref22_Temperature.l0 kq t292 a1 x5_1 x6_1 = some r) ∧ Aside0 (kq ≤ k) ∧ Aside0 (Below w.heap.size w w'))
 case atStart => exact ⟨((-100000)), (200000), (by first | rfl | (simp; done) | (simp [*]; done)), (by first | rfl | (simp; done) | (simp [*]; done)), H', ⟨Nat.le_refl _⟩, ⟨by repeat (first | (with_reducible first | exact HB.out | apply below_alloc | apply pw_below_drewN | apply below_drew1) | exact HB.out)⟩⟩
 case round =>
  clear H'
  try clear c2
  try clear p2
  try clear c4
  obtain ⟨x5_1, x6_1, rfl, rfl, HA, HK1, HB⟩ := hrel
  cases gk with
  | zero => exact absurd HA.out (by simp [plenumref22_Temperature.l0])
  | succ k1 =>
   have H := HA.out
   clear HA
   simp only [plenumref22_Temperature.l0] at H
   by_cases c5 : x5_1 < x6_1
   ·
    rw [if_pos c5] at H
    have c5b0 : decide (x5_1 < x6_1) = true := decide_eq_true c5
    clear c5
    replace H := Option.bind_eq_some_iff.mp H
    obtain ⟨t293, A60, H⟩ := H
    replace H : (if t293 ≥ t292 then (plenumref22_Temperature.l0 k1 t292 a1 x5_1 (wrap64 ((wrap64 (Int.tdiv (wrap64 ((wrap64 (x5_1 + x6_1)) + 400000)) 2)) - 200000))) else (plenumref22_Temperature.l0 k1 t292 a1 (wrap64 ((wrap64 ((wrap64 (Int.tdiv (wrap64 ((wrap64 (x5_1 + x6_1)) + 400000)) 2)) - 200000)) + 1)) x6_1)) = some r := H
    have A6 := Aside0.mk A60
    clear A60
    by_cases c7 : t293 ≥ t292
    ·
     rw [if_pos c7] at H
     have c7b0 : decide (t292 ≤ t293) = true := decide_eq_true c7
     clear c7
     have H' := Aside0.mk H
     clear H
     go_wp2_with (first | ((with_reducible refine gate_callee (f := 23) rfl ?_); refine goesL_ (some 21) rfl rfl Tryd.func23 (by kernel_rfl) rfl #[.int .i64 (wrap64 ((wrap64 (Int.tdiv (wrap64 ((wrap64 (x5_1 + x6_1)) + 400000)) 2)) - 200000)), .int .i64 a1] rfl (by (try simp only [List.map_toArray, List.map_cons, List.map_nil]); first | done | rfl | (simp only [List.length_drop, List.length_take]; rfl)) ?_; (with_reducible refine (plenumref22_Enthalpy.calls k1 (wrap64 ((wrap64 (Int.tdiv (wrap64 ((wrap64 (x5_1 + x6_1)) + 400000)) 2)) - 200000)) a1 t293 _ A6.out).mono ?_); rintro e w8 ⟨rfl, hb⟩; refine ⟨_, rfl, ?_⟩; have n0_ := Aside0.mk (below_step (by repeat (first | (with_reducible first | exact HB.out | apply below_alloc | apply pw_below_drewN | apply below_drew1) | exact HB.out)) hb); clear HB; have HB := n0_; clear n0_; (try clear hb); (try clear hb2); (try clear hk); (try clear hi)))
     go_roundg k1
     case measure => have := HK1.out; omega
     case rel => exact ⟨(x5_1), (wrap64 ((wrap64 (Int.tdiv (wrap64 ((wrap64 (x5_1 + x6_1)) + 400000)) 2)) - 200000)), (by first | rfl | (simp; done) | (simp [*]; done)), (by first | rfl | (simp; done) | (simp [*]; done)), H', ⟨by have := HK1.out; omega⟩, ⟨by repeat (first | (with_reducible first | exact HB.out | apply below_alloc | apply pw_below_drewN | apply below_drew1) | exact HB.out)⟩⟩
    ·
     rw [if_neg c7] at H
     have c7b0 : decide (t292 ≤ t293) = false := decide_eq_false c7
     clear c7
     have H' := Aside0.mk H
     clear H
     go_wp2_with (first | ((with_reducible refine gate_callee (f := 23) rfl ?_); refine goesL_ (some 21) rfl rfl Tryd.func23 (by kernel_rfl) rfl #[.int .i64 (wrap64 ((wrap64 (Int.tdiv (wrap64 ((wrap64 (x5_1 + x6_1)) + 400000)) 2)) - 200000)), .int .i64 a1] rfl (by (try simp only [List.map_toArray, List.map_cons, List.map_nil]); first | done | rfl | (simp only [List.length_drop, List.length_take]; rfl)) ?_; (with_reducible refine (plenumref22_Enthalpy.calls k1 (wrap64 ((wrap64 (Int.tdiv (wrap64 ((wrap64 (x5_1 + x6_1)) + 400000)) 2)) - 200000)) a1 t293 _ A6.out).mono ?_); rintro e w9 ⟨rfl, hb⟩; refine ⟨_, rfl, ?_⟩; have n0_ := Aside0.mk (below_step (by repeat (first | (with_reducible first | exact HB.out | apply below_alloc | apply pw_below_drewN | apply below_drew1) | exact HB.out)) hb); clear HB; have HB := n0_; clear n0_; (try clear hb); (try clear hb2); (try clear hk); (try clear hi)))
     go_roundg k1
     case measure => have := HK1.out; omega
     case rel => exact ⟨(wrap64 ((wrap64 ((wrap64 (Int.tdiv (wrap64 ((wrap64 (x5_1 + x6_1)) + 400000)) 2)) - 200000)) + 1)), (x6_1), (by first | rfl | (simp; done) | (simp [*]; done)), (by first | rfl | (simp; done) | (simp [*]; done)), H', ⟨by have := HK1.out; omega⟩, ⟨by repeat (first | (with_reducible first | exact HB.out | apply below_alloc | apply pw_below_drewN | apply below_drew1) | exact HB.out)⟩⟩
   ·
    rw [if_neg c5] at H
    have c5b0 : decide (x5_1 < x6_1) = false := decide_eq_false c5
    clear c5
    obtain rfl := Option.some.inj H
    go_wp2
    go_ret
    exact ⟨by first | rfl | (simp [errW_none, errW_some] <;> rfl) | (simp [*, errW_none, errW_some] <;> rfl), by repeat (first | (with_reducible first | exact HB.out | apply below_alloc | apply pw_below_drewN | apply below_drew1) | exact HB.out)⟩
end Go.Proofs.YtbfcplnaafnlhaaDoor.PT
