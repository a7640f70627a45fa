import Derived.Test.YtbfcplnaafnlhaaDoorPTx22
import Derived.Test.YtbfcplnaafnlhaaDoorPTx10
import Derived.Test.YtbfcplnaafnlhaaDoorPTx9
import Derived.Test.YtbfcplnaafnlhaaDoorPTx21
import Derived.Test.YtbfcplnaafnlhaaDoorAr
import Derived.Test.YtbfcplnaafnlhaaDoorMix
namespace Go.Proofs.YtbfcplnaafnlhaaDoor.Pure
open Go.RowKit Go.Proofs.YtbfcplnaafnlhaaDoor.PT Go.Proofs.YtbfcplnaafnlhaaDoorW.PrintWords Go.Proofs.YtbfcplnaafnlhaaDoorW.PrintLast Go.Proofs.YtbfcplnaafnlhaaDoorW.PrintMore
set_option linter.unusedVariables false
set_option linter.unusedSimpArgs false
/-- Between two streams. -/
def MV (x y f g : Int) : Int := x + R ((y - x) * g) (f + g)
theorem mix_bd {x y f g M : Int} (f0 : 0 ≤ f) (f1 : f ≤ 1000000000) (g0 : 0 ≤ g) (g1 : g ≤ 1000000000) (h : f + g ≠ 0) (hd : -1000000 ≤ y - x ∧ y - x ≤ 1000000) :
    (x ≤ y → x ≤ MV x y f g ∧ MV x y f g ≤ y) ∧ (y ≤ x → y ≤ MV x y f g ∧ MV x y f g ≤ x) ∧ -(1000000000000 * (f + g)) ≤ (y - x) * g ∧ (y - x) * g ≤ 1000000000000 * (f + g) := by
  have e0 : R 0 (f + g) = 0 := R_zero _ (by omega)
  have e1 : R ((y - x) * (f + g)) (f + g) = y - x := R_mul (by omega)
  rcases Int.le_total x y with c | c
  · have m0 : 0 ≤ (y - x) * g := Int.mul_nonneg (by omega) g0
    have m1 : (y - x) * g ≤ (y - x) * (f + g) := Int.mul_le_mul_of_nonneg_left (by omega) (by omega)
    have m2 : (y - x) * (f + g) ≤ 1000000 * (f + g) := Int.mul_le_mul_of_nonneg_right (by omega) (by omega)
    have r0 := R_mono (w := f + g) (by omega) m0
    have r1 := R_mono (w := f + g) (by omega) m1
    rw [e0] at r0
    rw [e1] at r1
    refine ⟨fun _ => ?_, fun c' => ?_, by omega, by omega⟩ <;> unfold MV <;> omega
  · have m0 : 0 ≤ (x - y) * g := Int.mul_nonneg (by omega) g0
    have m1 : (x - y) * g ≤ (x - y) * (f + g) := Int.mul_le_mul_of_nonneg_left (by omega) (by omega)
    have m2 : (x - y) * (f + g) ≤ 1000000 * (f + g) := Int.mul_le_mul_of_nonneg_right (by omega) (by omega)
    have n1 : (y - x) * g = -((x - y) * g) := by rw [← Int.neg_mul, show -(x - y) = y - x by omega]
    have n2 : (y - x) * (f + g) = -((x - y) * (f + g)) := by rw [← Int.neg_mul, show -(x - y) = y - x by omega]
    have r0 := R_mono (w := f + g) (N := (y - x) * g) (N' := 0) (by omega) (by omega)
    have r1 := R_mono (w := f + g) (N := (y - x) * (f + g)) (N' := (y - x) * g) (by omega) (by omega)
    rw [e0] at r0
    rw [e1] at r1
    refine ⟨fun c' => ?_, fun _ => ?_, by omega, by omega⟩ <;> unfold MV <;> omega
theorem mix1_ev {x y f g : Int} (f0 : 0 ≤ f) (f1 : f ≤ 1000000000) (g0 : 0 ≤ g) (g1 : g ≤ 1000000000) (h : f + g ≠ 0) (hx : -1000000 ≤ x ∧ x ≤ 1000000) (hd : -1000000 ≤ y - x ∧ y - x ≤ 1000000) :
    Ev (fun k => psychro_Mix_1.f k x y f g) (MV x y f g) := by
  obtain ⟨p, q, m0, m1⟩ := mix_bd (M := 0) f0 f1 g0 g1 h hd
  unfold psychro_Mix_1.f
  rw [w64s (x := y - x) (by omega) (by omega), w64s (x := f + g) (by omega) (by omega)]
  refine Ev.bind (muldiv_ev (a := y - x) (b := g) (c := f + g) (by unfold big; omega) g0 (by omega) (by omega) (by omega) m0 m1) ?_
  have : wrap64 (x + R ((y - x) * g) (f + g)) = MV x y f g := by
    refine w64s ?_ ?_
    · show _ ≤ MV x y f g
      rcases Int.le_total x y with c | c
      · have := p c; omega
      · have := q c; omega
    · show MV x y f g < _
      rcases Int.le_total x y with c | c
      · have := p c; omega
      · have := q c; omega
  rw [this]
  exact Ev.now _
/-- The mixture is the reference's and lies between its streams. -/
theorem PsychroMixes : plenumlaw22_PsychroMixes.Pure := by
  intro a0 a1 a2 b0 b1 b2 _ _ _ _ _ _
  refine Ev.rounds (g := fun k => plenumlaw22_PsychroMixes.f k a0 a1 a2 b0 b1 b2) ?_
  unfold plenumlaw22_PsychroMixes.f plenumlaw22_awake.f
  simp only [Option.bind_some, if_true]
  have ht := lim_bd (lo := -100000) (hi := 200000) (a := a0) (by omega)
  have hw := lim_bd (lo := 0) (hi := 1000000) (a := a1) (by omega)
  have hf := lim_bd (lo := 0) (hi := 1000000000) (a := a2) (by omega)
  have ht' := lim_bd (lo := -100000) (hi := 200000) (a := b0) (by omega)
  have hw' := lim_bd (lo := 0) (hi := 1000000) (a := b1) (by omega)
  have hf' := lim_bd (lo := 0) (hi := 1000000000) (a := b2) (by omega)
  show Ev (fun k => (psychro_Mix.f k a0 a1 a2 b0 b1 b2).bind fun bt177 => ((plenumref22_Mix.f k a0 a1 a2 b0 b1 b2).bind fun bt179 => (if bt177.1 = bt179.1 then (if bt177.2 = bt179.2 then (if bt177.1 ≥ (mn (lim (-100000) 200000 a0) (lim (-100000) 200000 b0)) then (if bt177.1 ≤ (mx (lim (-100000) 200000 a0) (lim (-100000) 200000 b0)) then (if bt177.2 ≥ 0 then (some (decide (bt177.2 ≤ 1000000))) else (some false)) else (some false)) else (some false)) else (some false)) else (some false)))) true
  have hM : Ev (fun k => psychro_Mix.f k a0 a1 a2 b0 b1 b2) (if lim 0 1000000000 a2 + lim 0 1000000000 b2 = 0 then (lim (-100000) 200000 a0, lim 0 1000000 a1) else (MV (lim (-100000) 200000 a0) (lim (-100000) 200000 b0) (lim 0 1000000000 a2) (lim 0 1000000000 b2), MV (lim 0 1000000 a1) (lim 0 1000000 b1) (lim 0 1000000000 a2) (lim 0 1000000000 b2))) := by
    unfold psychro_Mix.f
    by_cases c : lim 0 1000000000 a2 + lim 0 1000000000 b2 = 0
    · simp only [if_pos c]
      exact Ev.now _
    · simp only [if_neg c]
      exact Ev.bind (mix1_ev hf.1 hf.2 hf'.1 hf'.2 c (by omega) (by omega)) (Ev.bind (mix1_ev hf.1 hf.2 hf'.1 hf'.2 c (by omega) (by omega)) (Ev.now _))
  have hR : Ev (fun k => plenumref22_Mix.f k a0 a1 a2 b0 b1 b2) (if lim 0 1000000000 a2 + lim 0 1000000000 b2 = 0 then (lim (-100000) 200000 a0, lim 0 1000000 a1) else (MV (lim (-100000) 200000 a0) (lim (-100000) 200000 b0) (lim 0 1000000000 a2) (lim 0 1000000000 b2), MV (lim 0 1000000 a1) (lim 0 1000000 b1) (lim 0 1000000000 a2) (lim 0 1000000000 b2))) := by
    unfold plenumref22_Mix.f
    simp only [show ∀ t, plenumref22_temperature.f t = some (lim (-100000) 200000 t) from fun _ => rfl, show ∀ t, plenumref22_ratio.f t = some (lim 0 1000000 t) from fun _ => rfl, show ∀ t, plenumref22_flow.f t = some (lim 0 1000000000 t) from fun _ => rfl, Option.bind_some]
    generalize lim (-100000) 200000 a0 = t at *
    generalize lim (-100000) 200000 b0 = t' at *
    generalize lim 0 1000000 a1 = w at *
    generalize lim 0 1000000 b1 = w' at *
    generalize lim 0 1000000000 a2 = f at *
    generalize lim 0 1000000000 b2 = f' at *
    rw [w64s (x := f + f') (by omega) (by omega), w64s (x := t' - t) (by omega) (by omega), w64s (x := w' - w) (by omega) (by omega)]
    by_cases c : f + f' = 0
    · simp only [if_pos c]
      exact Ev.now _
    · simp only [if_neg c]
      obtain ⟨p, q, m0, m1⟩ := mix_bd (x := t) (y := t') (M := 0) hf.1 hf.2 hf'.1 hf'.2 c (by omega)
      obtain ⟨p', q', m0', m1'⟩ := mix_bd (x := w) (y := w') (M := 0) hf.1 hf.2 hf'.1 hf'.2 c (by omega)
      refine Ev.bind (rmuldiv_ev (a := t' - t) (b := f') (c := f + f') (by unfold big; omega) hf'.1 (by omega) (by omega) (by omega) m0 m1) ?_
      refine Ev.bind (rmuldiv_ev (a := w' - w) (b := f') (c := f + f') (by unfold big; omega) hf'.1 (by omega) (by omega) (by omega) m0' m1') ?_
      have e : wrap64 (t + R ((t' - t) * f') (f + f')) = MV t t' f f' := by
        have : -100000 ≤ MV t t' f f' ∧ MV t t' f f' ≤ 200000 := by
          rcases Int.le_total t t' with c | c
          · have := p c; omega
          · have := q c; omega
        exact w64s (show _ ≤ MV t t' f f' by omega) (show MV t t' f f' < _ by omega)
      have e' : wrap64 (w + R ((w' - w) * f') (f + f')) = MV w w' f f' := by
        have : 0 ≤ MV w w' f f' ∧ MV w w' f f' ≤ 1000000 := by
          rcases Int.le_total w w' with c | c
          · have := p' c; omega
          · have := q' c; omega
        exact w64s (show _ ≤ MV w w' f f' by omega) (show MV w w' f f' < _ by omega)
      rw [e, e']
      exact Ev.now _
  refine Ev.bind hM (Ev.bind hR ?_)
  simp only [if_true]
  generalize lim (-100000) 200000 a0 = t at *
  generalize lim (-100000) 200000 b0 = t' at *
  generalize lim 0 1000000 a1 = w at *
  generalize lim 0 1000000 b1 = w' at *
  generalize lim 0 1000000000 a2 = f at *
  generalize lim 0 1000000000 b2 = f' at *
  have hmn : mn t t' = min t t' := by unfold mn; split <;> omega
  have hmx : mx t t' = max t t' := by unfold mx; split <;> omega
  rw [hmn, hmx]
  obtain ⟨r1, r2, hr, z0, z1, z2, z3⟩ : ∃ r1 r2, (if f + f' = 0 then (t, w) else (MV t t' f f', MV w w' f f')) = (r1, r2) ∧ min t t' ≤ r1 ∧ r1 ≤ max t t' ∧ 0 ≤ r2 ∧ r2 ≤ 1000000 := by
    by_cases c : f + f' = 0
    · exact ⟨t, w, if_pos c, by omega, by omega, by omega, by omega⟩
    · obtain ⟨p, q, _⟩ := mix_bd (x := t) (y := t') (M := 0) hf.1 hf.2 hf'.1 hf'.2 c (by omega)
      obtain ⟨p', q', _⟩ := mix_bd (x := w) (y := w') (M := 0) hf.1 hf.2 hf'.1 hf'.2 c (by omega)
      refine ⟨_, _, if_neg c, ?_⟩
      rcases Int.le_total t t' with d | d <;> rcases Int.le_total w w' with d' | d'
      · have := p d; have := p' d'; omega
      · have := p d; have := q' d'; omega
      · have := q d; have := p' d'; omega
      · have := q d; have := q' d'; omega
  rw [hr]
  simp only [show r1 ≥ min t t' from z0, z1, show r2 ≥ 0 from z2, if_true, decide_eq_true z3]
  exact Ev.now _
end Go.Proofs.YtbfcplnaafnlhaaDoor.Pure
