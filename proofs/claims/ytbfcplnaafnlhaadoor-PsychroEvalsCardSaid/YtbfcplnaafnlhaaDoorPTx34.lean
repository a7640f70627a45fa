-- Laid by hp.py (a program of this session's) through the kit's printer. (squeezed)
import Derived.Test.YtbfcplnaafnlhaaDoorPTx0
import Derived.Test.YtbfcplnaafnlhaaDoorPTx3
import Derived.Test.YtbfcplnaafnlhaaDoorPTx14
namespace Go.Proofs.YtbfcplnaafnlhaaDoor.PT
open Go.RowKit Go.Proofs.YtbfcplnaafnlhaaDoorW.PrintWords Go.Proofs.YtbfcplnaafnlhaaDoorW.PrintLast Go.Proofs.YtbfcplnaafnlhaaDoorW.PrintMore
attribute [local go_sem] max2_int min2_int max_two min_two max_three min_three max_four min_four   -- for this text's walks alone
set_option linter.unusedVariables false
set_option linter.unusedSimpArgs false
/-! ### psychro_Temperature: function 22 -/
def psychro_Temperature.l0 : Nat → Int → Int → Int → Int → Option (Int)
 | 0, _, _, _, _ => none
 | k + 1, x1, x5, x6, x7 => if x6 < x7 then ((psychro_Enthalpy.f k (wrap64 (x6 + (wrap64 (Int.tdiv (wrap64 (x7 - x6)) 2)))) x1).bind fun t281 => (if t281 ≥ x5 then (psychro_Temperature.l0 k x1 x5 x6 (wrap64 (x6 + (wrap64 (Int.tdiv (wrap64 (x7 - x6)) 2))))) else (psychro_Temperature.l0 k x1 x5 (wrap64 ((wrap64 (x6 + (wrap64 (Int.tdiv (wrap64 (x7 - x6)) 2)))) + 1)) x7))) else (some x6)
def psychro_Temperature.f (k : Nat) (a0 : Int) (a1 : Int) : Option (Int) := (psychro_limit.f a0 (-1000000000000) 1000000000000).bind fun t280 => (psychro_Temperature.l0 k a1 t280 (-100000) 200000)
theorem psychro_Temperature.mono_l : ∀ k, (∀ y0 y1 y2 y3, LeO (psychro_Temperature.l0 k y0 y1 y2 y3) (psychro_Temperature.l0 (k + 1) y0 y1 y2 y3))
 | 0 => fun _ _ _ _ r h => by simp [psychro_Temperature.l0] at h
 | k + 1 => by
  have ih0 := psychro_Temperature.mono_l k
  ·
   intro y0 y1 y2 y3
   unfold psychro_Temperature.l0
   repeat' first
   | (with_reducible exact ih0 _ _ _ _)
   | (with_reducible exact psychro_Enthalpy.mono _ _ _)
   | (with_reducible exact LeO.refl _)
   | (with_reducible exact LeO.none _)
   | (with_reducible refine LeO.ite ?_ ?_)
   | (with_reducible refine LeO.bind ?_ (fun _ => ?_))
   | exact ih0 _ _ _ _
   | exact psychro_Enthalpy.mono _ _ _
   | exact LeO.none _
   | refine LeO.ite ?_ ?_
   | refine LeO.bind ?_ (fun _ => ?_)
theorem psychro_Temperature.mono : ∀ a0 a1 k, LeO (psychro_Temperature.f k a0 a1) (psychro_Temperature.f (k + 1) a0 a1) := by
 intro a0 a1 k
 have ih0 := psychro_Temperature.mono_l k
 unfold psychro_Temperature.f
 repeat' first
  | (with_reducible exact ih0 _ _ _ _)
  | (with_reducible exact psychro_Enthalpy.mono _ _ _)
  | (with_reducible exact LeO.refl _)
  | (with_reducible exact LeO.none _)
  | (with_reducible refine LeO.ite ?_ ?_)
  | (with_reducible refine LeO.bind ?_ (fun _ => ?_))
  | exact ih0 _ _ _ _
  | exact psychro_Enthalpy.mono _ _ _
  | exact LeO.none _
  | refine LeO.ite ?_ ?_
  | refine LeO.bind ?_ (fun _ => ?_)
set_option maxHeartbeats 8000000 in
set_option maxRecDepth 100000 in
theorem psychro_Temperature.calls (k : Nat) (a0 : Int) (a1 : Int) (r : Int) (w : World) (h : psychro_Temperature.f k a0 a1 = some r) :
 Calls Tryd.prog 22 #[.int .i64 a0, .int .i64 a1] w fun e w' => e = .returned (.int .i64 r) ∧ Below w.heap.size w w' := by
 have HB := Aside0.mk (Below.refl w.heap.size w)
 have H : ((psychro_limit.f a0 (-1000000000000) 1000000000000).bind fun t280 => (psychro_Temperature.l0 k a1 t280 (-100000) 200000)) = some r := h
 clear h
 replace H := Option.bind_eq_some_iff.mp H
 obtain ⟨t280, A30, H⟩ := H
 replace H : (psychro_Temperature.l0 k a1 t280 (-100000) 200000) = some r := H
 have A3 := Aside0.mk A30
 clear A30
 have H' := Aside0.mk H
 clear H
 go_enter Tryd.func22, Tryd.ntmps22
 go_wp2_with (first | ((with_reducible refine gate_callee (f := 29) rfl ?_); refine goesL_ (some 10) rfl rfl Tryd.func29 (by kernel_rfl) rfl #[.int .i64 a0, .int .i64 (-1000000000000), .int .i64 1000000000000] rfl (by (try simp only [List.map_toArray, List.map_cons, List.map_nil]); first | done | rfl | (simp only [List.length_drop, List.length_take]; rfl)) ?_; (with_reducible refine (psychro_limit.calls a0 (-1000000000000) 1000000000000 t280 _ A3.out).mono ?_); rintro e w4 ⟨rfl, hb⟩; refine ⟨_, rfl, ?_⟩; have n0_ := Aside0.mk (below_step (by repeat (first | (with_reducible first | exact HB.out | apply below_alloc | apply pw_below_drewN | apply below_drew1) | exact HB.out)) hb); clear HB; have HB := n0_; clear n0_; (try clear hb); (try clear hb2); (try clear hk); (try clear hi)))
 go_loopg [6, 7] k (fun kq v6 v7 w' => ∃ (x6_1 : Int) (x7_1 : Int), v6 = .int .i64 x6_1 ∧ v7 = .int .i64 x7_1 ∧ Aside0 (psychro_Temperature.l0 kq a1 t280 x6_1 x7_1 = some r) ∧ Aside0 (kq ≤ k) ∧ Aside0 (Below w.heap.size w w'))
 case atStart => exact ⟨((-100000)), (200000), (by first | rfl | (simp; done) | (simp [*]; done)), (by first | rfl | (simp; done) | (simp [*]; done)), H', ⟨Nat.le_refl _⟩, ⟨by repeat (first | (with_reducible first | exact HB.out | apply below_alloc | apply pw_below_drewN | apply below_drew1) | exact HB.out)⟩⟩
 case round =>
  clear H'
  try clear c2
  try clear p2
  obtain ⟨x6_1, x7_1, rfl, rfl, HA, HK1, HB⟩ := hrel
  cases gk with
  | zero => exact absurd HA.out (by simp [psychro_Temperature.l0])
  | succ k1 =>
   have H := HA.out
   clear HA
   simp only [psychro_Temperature.l0] at H
   by_cases c5 : x6_1 < x7_1
   ·
    rw [if_pos c5] at H
    have c5b0 : decide (x6_1 < x7_1) = true := decide_eq_true c5
    clear c5
    replace H := Option.bind_eq_some_iff.mp H
    obtain ⟨t281, A60, H⟩ := H
    replace H : (if t281 ≥ t280 then (psychro_Temperature.l0 k1 a1 t280 x6_1 (wrap64 (x6_1 + (wrap64 (Int.tdiv (wrap64 (x7_1 - x6_1)) 2))))) else (psychro_Temperature.l0 k1 a1 t280 (wrap64 ((wrap64 (x6_1 + (wrap64 (Int.tdiv (wrap64 (x7_1 - x6_1)) 2)))) + 1)) x7_1)) = some r := H
    have A6 := Aside0.mk A60
    clear A60
    by_cases c7 : t281 ≥ t280
    ·
     rw [if_pos c7] at H
     have c7b0 : decide (t280 ≤ t281) = true := decide_eq_true c7
     clear c7
     have H' := Aside0.mk H
     clear H
     go_wp2_with (first | ((with_reducible refine gate_callee (f := 21) rfl ?_); refine goesL_ (some 22) rfl rfl Tryd.func21 (by kernel_rfl) rfl #[.int .i64 (wrap64 (x6_1 + (wrap64 (Int.tdiv (wrap64 (x7_1 - x6_1)) 2)))), .int .i64 a1] rfl (by (try simp only [List.map_toArray, List.map_cons, List.map_nil]); first | done | rfl | (simp only [List.length_drop, List.length_take]; rfl)) ?_; (with_reducible refine (psychro_Enthalpy.calls k1 (wrap64 (x6_1 + (wrap64 (Int.tdiv (wrap64 (x7_1 - x6_1)) 2)))) a1 t281 _ A6.out).mono ?_); rintro e w8 ⟨rfl, hb⟩; refine ⟨_, rfl, ?_⟩; have n0_ := Aside0.mk (below_step (by repeat (first | (with_reducible first | exact HB.out | apply below_alloc | apply pw_below_drewN | apply below_drew1) | exact HB.out)) hb); clear HB; have HB := n0_; clear n0_; (try clear hb); (try clear hb2); (try clear hk); (try clear hi)))
     go_roundg k1
     case measure => have := HK1.out; omega
     case rel => exact ⟨(x6_1), (wrap64 (x6_1 + (wrap64 (Int.tdiv (wrap64 (x7_1 - x6_1)) 2)))), (by first | rfl | (simp; done) | (simp [*]; done)), (by first | rfl | (simp; done) | (simp [*]; done)), H', ⟨by have := HK1.out; omega⟩, ⟨by repeat (first | (with_reducible first | exact HB.out | apply below_alloc | apply pw_below_drewN | apply below_drew1) | exact HB.out)⟩⟩
    ·
     rw [if_neg c7] at H
     have c7b0 : decide (t280 ≤ t281) = false := decide_eq_false c7
     clear c7
     have H' := Aside0.mk H
     clear H
     go_wp2_with (first | ((with_reducible refine gate_callee (f := 21) rfl ?_); refine goesL_ (some 22) rfl rfl Tryd.func21 (by kernel_rfl) rfl #[.int .i64 (wrap64 (x6_1 + (wrap64 (Int.tdiv (wrap64 (x7_1 - x6_1)) 2)))), .int .i64 a1] rfl (by (try simp only [List.map_toArray, List.map_cons, List.map_nil]); first | done | rfl | (simp only [List.length_drop, List.length_take]; rfl)) ?_; (with_reducible refine (psychro_Enthalpy.calls k1 (wrap64 (x6_1 + (wrap64 (Int.tdiv (wrap64 (x7_1 - x6_1)) 2)))) a1 t281 _ A6.out).mono ?_); rintro e w9 ⟨rfl, hb⟩; refine ⟨_, rfl, ?_⟩; have n0_ := Aside0.mk (below_step (by repeat (first | (with_reducible first | exact HB.out | apply below_alloc | apply pw_below_drewN | apply below_drew1) | exact HB.out)) hb); clear HB; have HB := n0_; clear n0_; (try clear hb); (try clear hb2); (try clear hk); (try clear hi)))
     go_roundg k1
     case measure => have := HK1.out; omega
     case rel => exact ⟨(wrap64 ((wrap64 (x6_1 + (wrap64 (Int.tdiv (wrap64 (x7_1 - x6_1)) 2)))) + 1)), (x7_1), (by first | rfl | (simp; done) | (simp [*]; done)), (by first | rfl | (simp; done) | (simp [*]; done)), H', ⟨by have := HK1.out; omega⟩, ⟨by repeat (first | (with_reducible first | exact HB.out | apply below_alloc | apply pw_below_drewN | apply below_drew1) | exact HB.out)⟩⟩
   ·
    rw [if_neg c5] at H
    have c5b0 : decide (x6_1 < x7_1) = false := decide_eq_false c5
    clear c5
    obtain rfl := Option.some.inj H
    go_wp2
    go_ret
    exact ⟨by first | rfl | (simp [errW_none, errW_some] <;> rfl) | (simp [*, errW_none, errW_some] <;> rfl), by repeat (first | (with_reducible first | exact HB.out | apply below_alloc | apply pw_below_drewN | apply below_drew1) | exact HB.out)⟩
end Go.Proofs.YtbfcplnaafnlhaaDoor.PT
