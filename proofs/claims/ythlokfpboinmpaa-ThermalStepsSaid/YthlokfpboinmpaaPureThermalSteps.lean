/- ThermalSteps: Step, Steady and Check answer what the reference answers, for all zones, numbers and times; no condition. -/
import Derived.Test.YthlokfpboinmpaaG
import Derived.Test.YthlokfpboinmpaaPTx8
namespace Go.Proofs.Ythlokfpboinmpaa.Pure
open Go.RowKit Go.Proofs.Ythlokfpboinmpaa.PT Go.Proofs.YthlokfpboinmpaaW.PrintWords Go.Proofs.YthlokfpboinmpaaW.PrintLast Go.Proofs.YthlokfpboinmpaaW.PrintMore Go.Proofs.Ythlokfpboinmpaa.M
theorem ThermalSteps : plenumlaw35_ThermalSteps.Pure := by
  intro z0 z1 t o h d _ _ _ _ _ _
  have e1 : ∃ a b, ∀ k, 4 ≤ k → thermal_Step.f k z0 z1 t o h d = some (a, b) ∧ plenumref35_Step.f z0 z1 t o h d = some (a, b) := by
    by_cases s : Sok z0 z1 t o h d
    · exact ⟨_, _, fun k hk => ⟨Step_ok s k hk, rStep_ok s⟩⟩
    · exact ⟨_, _, fun k hk => ⟨Step_no s k hk, rStep_no s⟩⟩
  have e2 : ∃ a b c K, ∀ k, K ≤ k → thermal_Steady.f k z0 z1 o h d = some (a, b, c) ∧ plenumref35_Steady.f k z0 z1 o h d = some (a, b, c) := by
    by_cases s : Zok z0 z1 ∧ Tok o ∧ Hok h ∧ Dok d
    · obtain ⟨lo, hi, K, i1, i2⟩ := Steady_ok s.1 s.2.1 s.2.2.1 s.2.2.2
      obtain ⟨lo', hi', K', j1, j2⟩ := rSteady_ok s.1 s.2.1 s.2.2.1 s.2.2.2
      obtain ⟨rfl, rfl⟩ := i1.uniq j1
      exact ⟨lo, hi, 0, K + K', fun k hk => ⟨i2 k (by omega), j2 k (by omega)⟩⟩
    · exact ⟨0, 0, 6, 6, fun k hk => ⟨Steady_no s k hk, rSteady_no s k hk⟩⟩
  have e3 : ∃ c, thermal_Check.f z0 z1 = some c := by
    by_cases s : Zok z0 z1
    · exact ⟨_, chk_ok s⟩
    · exact ⟨_, chk_no s⟩
  obtain ⟨a, b, e1⟩ := e1
  obtain ⟨a', b', c', K, e2⟩ := e2
  obtain ⟨c, e3⟩ := e3
  refine ⟨K + 4, ?_⟩
  have e1 := e1 (K + 4) (by omega)
  have e2 := e2 (K + 4) (by omega)
  simp [plenumlaw35_ThermalSteps.f, plenumlaw35_awake.f, e1.1, e1.2, e2.1, e2.2, e3, rchk]
end Go.Proofs.Ythlokfpboinmpaa.Pure
