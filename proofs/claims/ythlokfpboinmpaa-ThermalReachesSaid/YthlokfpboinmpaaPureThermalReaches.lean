/- ThermalReaches: Reaches and Needed answer what the reference answers, for all numbers; no condition. -/
import Derived.Test.YthlokfpboinmpaaHQ
import Derived.Test.YthlokfpboinmpaaHM
import Derived.Test.YthlokfpboinmpaaPTx12
namespace Go.Proofs.Ythlokfpboinmpaa.Pure
open Go.RowKit Go.Proofs.Ythlokfpboinmpaa.PT Go.Proofs.YthlokfpboinmpaaW.PrintWords Go.Proofs.YthlokfpboinmpaaW.PrintLast Go.Proofs.YthlokfpboinmpaaW.PrintMore Go.Proofs.Ythlokfpboinmpaa.M
theorem ThermalReaches : plenumlaw35_ThermalReaches.Pure := by
  intro z0 z1 t o h tg d most _ _ _ _ _ _ _ _
  have e1 : ∃ a b, ∀ k, 10010 ≤ k → thermal_Reaches.f k z0 z1 t o h tg d most = some (a, b) ∧ plenumref35_Reaches.f k z0 z1 t o h tg d most = some (a, b) := by
    by_cases s : Rok z0 z1 t o h tg d most
    · exact ⟨_, _, fun k hk => ⟨Reaches_ok s k hk, rReaches_ok s k hk⟩⟩
    · exact ⟨_, _, fun k hk => ⟨Reaches_no s k hk, rReaches_no s k hk⟩⟩
  have e2 : ∃ a b K, ∀ k, K ≤ k → thermal_Needed.f k z0 z1 t o tg d most = some (a, b) ∧ plenumref35_Needed.f k z0 z1 t o tg d most = some (a, b) := by
    by_cases s : Nok z0 z1 t o tg d most
    · obtain ⟨r, K, i1, i2⟩ := Needed_ok s
      obtain ⟨r', j1, j2⟩ := rNeeded_ok s
      obtain rfl := i1.uniq j1
      exact ⟨_, _, K + 20000, fun k hk => ⟨i2 k (by omega), j2 k (by omega)⟩⟩
    · exact ⟨_, _, 6, fun k hk => ⟨Needed_no s k hk, rNeeded_no s k hk⟩⟩
  obtain ⟨a, b, e1⟩ := e1
  obtain ⟨a', b', K, e2⟩ := e2
  refine ⟨K + 10010, ?_⟩
  have e1 := e1 (K + 10010) (by omega)
  have e2 := e2 (K + 10010) (by omega)
  simp [plenumlaw35_ThermalReaches.f, plenumlaw35_awake.f, e1.1, e1.2, e2.1, e2.2]
end Go.Proofs.Ythlokfpboinmpaa.Pure
