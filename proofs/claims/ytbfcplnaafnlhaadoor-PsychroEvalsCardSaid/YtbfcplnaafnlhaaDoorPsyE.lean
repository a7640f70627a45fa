-- The enthalpy by the reference; the temperature of an enthalpy, both.
import Derived.Test.YtbfcplnaafnlhaaDoorPsy
import Derived.Test.YtbfcplnaafnlhaaDoorPTx36
import Derived.Test.YtbfcplnaafnlhaaDoorPTx37
import Derived.Test.YtbfcplnaafnlhaaDoorPTx34
namespace Go.Proofs.YtbfcplnaafnlhaaDoor.Pure
open Go.RowKit Go.Proofs.YtbfcplnaafnlhaaDoor.PT Go.Proofs.YtbfcplnaafnlhaaDoorW.PrintWords Go.Proofs.YtbfcplnaafnlhaaDoorW.PrintLast Go.Proofs.YtbfcplnaafnlhaaDoorW.PrintMore
set_option linter.unusedVariables false
set_option linter.unusedSimpArgs false
theorem renth_ev (t w : Int) : Ev (fun k => plenumref22_Enthalpy.f k t w) (EV t w) := by
  have ht := lim_bd (lo := -100000) (hi := 200000) (a := t) (by omega)
  have hw := lim_bd (lo := 0) (hi := 1000000) (a := w) (by omega)
  have hx := XV_bd ht.1 ht.2
  have hm := mulb hw.1 hw.2 (show 0 ≤ XV (lim (-100000) 200000 t) by omega) hx.2
  have he := EV_bd t w
  unfold EV XV at he
  unfold XV at hx hm
  unfold plenumref22_Enthalpy.f
  simp only [show ∀ t, plenumref22_temperature.f t = some (lim (-100000) 200000 t) from fun _ => rfl, show ∀ t, plenumref22_ratio.f t = some (lim 0 1000000 t) from fun _ => rfl, Option.bind_some]
  refine Ev.bind (rmuldiv_ev (a := lim (-100000) 200000 t) (b := 1006) (c := 1000) (by unfold big; omega) (by omega) (by omega) (by omega) (by omega) (by omega) (by omega)) ?_
  refine Ev.bind (rmuldiv_ev (a := lim (-100000) 200000 t) (b := 1860) (c := 1000) (by unfold big; omega) (by omega) (by omega) (by omega) (by omega) (by omega) (by omega)) ?_
  rw [w64s (x := 2501000 + R (lim (-100000) 200000 t * 1860) 1000) (by omega) (by omega)]
  refine Ev.bind (rmuldiv_ev (a := lim 0 1000000 w) (b := 2501000 + R (lim (-100000) 200000 t * 1860) 1000) (c := 1000000) (by unfold big; omega) (by omega) (by omega) (by omega) (by omega) (by omega) (by omega)) ?_
  rw [w64s (by omega) (by omega)]
  exact Ev.now _
theorem temp_loop (w h : Int) : ∀ (n : Nat) (lo hi : Int), hi - lo ≤ n → -100000 ≤ lo → lo ≤ hi → hi ≤ 200000 →
    ∃ r, lo ≤ r ∧ r ≤ hi ∧ Ev (fun k => psychro_Temperature.l0 k w h lo hi) r ∧ Ev (fun k => plenumref22_Temperature.l0 k h w lo hi) r ∧ (r = lo ∨ EV (r - 1) w < h) ∧ (r = hi ∨ h ≤ EV r w) := by
  intro n
  induction n with
  | zero =>
    intro lo hi h0 h1 h2 h3
    obtain rfl : hi = lo := by omega
    refine ⟨hi, Int.le_refl _, Int.le_refl _, ?_, ?_, .inl rfl, .inl rfl⟩
    · refine evs (f := fun k => some _) (fun k => ?_) (Ev.now _)
      simp only [psychro_Temperature.l0]
      rw [if_neg (by omega)]
    · refine evs (f := fun k => some _) (fun k => ?_) (Ev.now _)
      simp only [plenumref22_Temperature.l0]
      rw [if_neg (by omega)]
  | succ n ih =>
    intro lo hi h0 h1 h2 h3
    by_cases c : lo < hi
    · obtain ⟨m, hm⟩ : ∃ m, m = lo + (hi - lo) / 2 := ⟨_, rfl⟩
      have em : wrap64 (lo + (wrap64 (Int.tdiv (wrap64 (hi - lo)) 2))) = m := by
        rw [w64s (x := hi - lo) (by omega) (by omega), Int.tdiv_eq_ediv_of_nonneg (by omega), w64s (x := (hi - lo) / 2) (by omega) (by omega), w64s (by omega) (by omega), hm]
      have em' : wrap64 ((wrap64 (Int.tdiv (wrap64 ((wrap64 (lo + hi)) + 400000)) 2)) - 200000) = m := by
        rw [w64s (x := lo + hi) (by omega) (by omega), w64s (x := lo + hi + 400000) (by omega) (by omega), Int.tdiv_eq_ediv_of_nonneg (by omega), w64s (x := (lo + hi + 400000) / 2) (by omega) (by omega), w64s (by omega) (by omega)]
        omega
      by_cases e : EV m w ≥ h
      · obtain ⟨r, r0, r1, g, g', p, q⟩ := ih lo m (by omega) h1 (by omega) (by omega)
        refine ⟨r, r0, by omega, ?_, ?_, p, ?_⟩
        · refine evs (f := fun k => (psychro_Enthalpy.f k m w).bind fun t281 => (if t281 ≥ h then psychro_Temperature.l0 k w h lo m else psychro_Temperature.l0 k w h (wrap64 (m + 1)) hi)) (fun k => ?_) ?_
          · simp only [psychro_Temperature.l0]
            rw [if_pos c, em]
          · refine Ev.bind (enth_ev m w) ?_
            simp only [if_pos e]
            exact g
        · refine evs (f := fun k => (plenumref22_Enthalpy.f k m w).bind fun t281 => (if t281 ≥ h then plenumref22_Temperature.l0 k h w lo m else plenumref22_Temperature.l0 k h w (wrap64 (m + 1)) hi)) (fun k => ?_) ?_
          · simp only [plenumref22_Temperature.l0]
            rw [if_pos c, em']
          · refine Ev.bind (renth_ev m w) ?_
            simp only [if_pos e]
            exact g'
        · rcases q with q | q
          · right
            rw [q]
            exact e
          · exact .inr q
      · obtain ⟨r, r0, r1, g, g', p, q⟩ := ih (m + 1) hi (by omega) (by omega) (by omega) h3
        refine ⟨r, by omega, r1, ?_, ?_, ?_, q⟩
        · refine evs (f := fun k => (psychro_Enthalpy.f k m w).bind fun t281 => (if t281 ≥ h then psychro_Temperature.l0 k w h lo m else psychro_Temperature.l0 k w h (wrap64 (m + 1)) hi)) (fun k => ?_) ?_
          · simp only [psychro_Temperature.l0]
            rw [if_pos c, em]
          · refine Ev.bind (enth_ev m w) ?_
            simp only [if_neg e]
            rw [w64s (by omega) (by omega)]
            exact g
        · refine evs (f := fun k => (plenumref22_Enthalpy.f k m w).bind fun t281 => (if t281 ≥ h then plenumref22_Temperature.l0 k h w lo m else plenumref22_Temperature.l0 k h w (wrap64 (m + 1)) hi)) (fun k => ?_) ?_
          · simp only [plenumref22_Temperature.l0]
            rw [if_pos c, em']
          · refine Ev.bind (renth_ev m w) ?_
            simp only [if_neg e]
            rw [w64s (by omega) (by omega)]
            exact g'
        · right
          rcases p with p | p
          · rw [p, show m + 1 - 1 = m by omega]
            omega
          · exact p
    · obtain rfl : hi = lo := by omega
      refine ⟨hi, Int.le_refl _, Int.le_refl _, ?_, ?_, .inl rfl, .inl rfl⟩
      · refine evs (f := fun k => some _) (fun k => ?_) (Ev.now _)
        simp only [psychro_Temperature.l0]
        rw [if_neg (by omega)]
      · refine evs (f := fun k => some _) (fun k => ?_) (Ev.now _)
        simp only [plenumref22_Temperature.l0]
        rw [if_neg (by omega)]
theorem temp_both (h w : Int) : ∃ r, -100000 ≤ r ∧ r ≤ 200000 ∧ Ev (fun k => psychro_Temperature.f k h w) r ∧ Ev (fun k => plenumref22_Temperature.f k h w) r ∧ (r = -100000 ∨ EV (r - 1) w < lim (-1000000000000) 1000000000000 h) ∧ (r = 200000 ∨ lim (-1000000000000) 1000000000000 h ≤ EV r w) := by
  obtain ⟨r, r0, r1, g, g', p, q⟩ := temp_loop w (lim (-1000000000000) 1000000000000 h) 300000 (-100000) 200000 (by omega) (by omega) (by omega) (by omega)
  refine ⟨r, r0, r1, ?_, ?_, p, q⟩
  · unfold psychro_Temperature.f
    simp only [limit_f, Option.bind_some]
    exact g
  · unfold plenumref22_Temperature.f
    simp only [show plenumref01_Clamp.f h = some (lim (-1000000000000) 1000000000000 h) from rfl, Option.bind_some]
    exact g'
end Go.Proofs.YtbfcplnaafnlhaaDoor.Pure
