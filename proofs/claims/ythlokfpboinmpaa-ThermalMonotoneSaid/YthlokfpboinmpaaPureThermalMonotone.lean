/- ThermalMonotone: the temperature behind a step never falls if the temperature, the outside or the heat rises; no condition. -/
import Derived.Test.YthlokfpboinmpaaF
import Derived.Test.YthlokfpboinmpaaPTx12
namespace Go.Proofs.Ythlokfpboinmpaa.Pure
open Go.RowKit Go.Proofs.Ythlokfpboinmpaa.PT Go.Proofs.YthlokfpboinmpaaW.PrintWords Go.Proofs.YthlokfpboinmpaaW.PrintLast Go.Proofs.YthlokfpboinmpaaW.PrintMore Go.Proofs.Ythlokfpboinmpaa.M
theorem mono_j (z0 z1 t o h d u v w : Int) (hu : 0 ≤ u ∧ u ≤ 2000000) (hv : 0 ≤ v ∧ v ≤ 2000000) (hw : 0 ≤ w ∧ w ≤ 2000) : plenumlaw35_ThermalMonotone.j0 5 t o h d u v w false z0 z1 = some true := by
  simp only [plenumlaw35_ThermalMonotone.j0, Bool.false_eq_true, if_false]
  by_cases s : Sok z0 z1 t o h d
  · rw [Step_ok s 4 (by omega)]
    simp only [Option.bind_some, if_true]
    obtain ⟨hz, ht, ho, hh, hd⟩ := s
    rw [w64 (x := t + u) (by have := ht.1; omega) (by have := ht.2; omega), w64 (x := o + v) (by have := ho.1; omega) (by have := ho.2; omega), w64 (x := h + w) (by have := hh.1; omega) (by have := hh.2; omega)]
    by_cases s' : Sok z0 z1 (t + u) (o + v) (h + w) d
    · rw [Step_ok s' 4 (by omega)]
      simp only [Option.bind_some, if_true]
      rw [decide_eq_true (nx_mono hz hd (by omega) (by omega) (by omega))]
    · rw [Step_no s' 4 (by omega)]
      simp
  · rw [Step_no s 4 (by omega)]
    simp
theorem ThermalMonotone : plenumlaw35_ThermalMonotone.Pure := by
  intro z0 z1 t o h d u v w _ _ _ _ _ _ _ _ _
  refine ⟨5, ?_⟩
  have yes : plenumlaw35_ThermalMonotone.j0 5 t o h d u v w true z0 z1 = some true := by simp [plenumlaw35_ThermalMonotone.j0]
  unfold plenumlaw35_ThermalMonotone.f plenumlaw35_awake.f
  simp only [Option.bind_some, if_true]
  by_cases c1 : u < 0
  · rw [if_pos c1, yes]
  rw [if_neg c1]
  by_cases c2 : u > 2000000
  · rw [if_pos c2, yes]
  rw [if_neg c2]
  by_cases c3 : v < 0
  · rw [if_pos c3, yes]
  rw [if_neg c3]
  by_cases c4 : v > 2000000
  · rw [if_pos c4, yes]
  rw [if_neg c4]
  by_cases c5 : w < 0
  · rw [if_pos c5, yes]
  rw [if_neg c5]
  by_cases c6 : w > 2000
  · rw [decide_eq_true c6, yes]
  · rw [decide_eq_false c6]
    exact mono_j z0 z1 t o h d u v w ⟨by omega, by omega⟩ ⟨by omega, by omega⟩ ⟨by omega, by omega⟩
end Go.Proofs.Ythlokfpboinmpaa.Pure
