/- ThermalNeeded: with the heat that Needed returns the target is met after the steps, with less it is not; no condition. -/
import Derived.Test.YthlokfpboinmpaaHN
import Derived.Test.YthlokfpboinmpaaPTx15
namespace Go.Proofs.Ythlokfpboinmpaa.Pure
open Go.RowKit Go.Proofs.Ythlokfpboinmpaa.PT Go.Proofs.YthlokfpboinmpaaW.PrintWords Go.Proofs.YthlokfpboinmpaaW.PrintLast Go.Proofs.YthlokfpboinmpaaW.PrintMore Go.Proofs.Ythlokfpboinmpaa.M
theorem after_f {z0 z1 o h d st : Int} (hz : Zok z0 z1) (ho : Tok o) (hh : Hok h) (hd : Dok d) (hN : st ≤ 10000) : ∀ (m k : Nat) (t i : Int), 0 ≤ i → (st - i).toNat = m → Tok t → m + 4 < k → plenumlaw35_after.l0 k t o h d st i z0 z1 = some (it (nx z0 z1 o h d) m t, true) := by
  intro m
  induction m with
  | zero =>
    intro k t i hi hm ht hk
    obtain ⟨k, rfl⟩ : ∃ m, k = m + 1 := ⟨k - 1, by omega⟩
    simp only [plenumlaw35_after.l0]
    rw [if_neg (by omega)]
    rfl
  | succ m ih =>
    intro k t i hi hm ht hk
    obtain ⟨k, rfl⟩ : ∃ m, k = m + 1 := ⟨k - 1, by omega⟩
    simp only [plenumlaw35_after.l0]
    rw [if_pos (by omega), Step_ok ⟨hz, ht, ho, hh, hd⟩ k (by omega), w64 (x := i + 1) (by omega) (by omega)]
    simp only [Option.bind_some, if_true]
    exact ih k _ (i + 1) (by omega) (by omega) (nx_Tok _ _ _ _ _ _) (by omega)
theorem ThermalNeeded : plenumlaw35_ThermalNeeded.Pure := by
  intro z0 z1 t o tg d st less _ _ _ _ _ _ _ wl
  have wl := wfb wl
  by_cases c : st > 200 ∧ st ≤ 10000
  · refine ⟨1, ?_⟩
    simp [plenumlaw35_ThermalNeeded.f, plenumlaw35_awake.f, c.1, c.2, plenumlaw35_ThermalNeeded.j0]
  · have key : ∃ k, plenumlaw35_ThermalNeeded.j0 k t o tg d st less false z0 z1 = some true := by
      by_cases s : Nok z0 z1 t o tg d st
      · obtain ⟨r, K, i1, i2⟩ := Needed_ok s
        obtain ⟨hz, ht, ho, htg, hd, s0, s1⟩ := s
        obtain ⟨r0, r1, r2, r3⟩ := i1
        have af : ∀ h, Hok h → ∀ k, 10010 ≤ k → plenumlaw35_after.f k z0 z1 t o h d st = some (it (nx z0 z1 o h d) st.toNat t, true) := fun h hh k hk => after_f hz ho hh hd s1 st.toNat k t 0 (by omega) (by omega) ht (by omega)
        refine ⟨K + 10012, ?_⟩
        simp only [plenumlaw35_ThermalNeeded.j0, Bool.false_eq_true, if_false]
        rw [i2 (K + 10011) (by omega)]
        simp only [Option.bind_some]
        unfold toldN
        by_cases q : r > 1000
        · rw [if_pos q]
          simp only [if_true]
          rw [af 1000 ⟨by omega, by omega⟩ _ (by omega)]
          simp only [Option.bind_some, if_true]
          rw [decide_eq_true (r2 1000 (by omega) (by omega))]
        · rw [if_neg q]
          simp only []
          rw [if_neg (by decide)]
          simp only [if_true]
          rw [af r ⟨r0, by omega⟩ _ (by omega)]
          simp only [Option.bind_some, if_true]
          have h1 := r3 r (Int.le_refl _) (by omega)
          rw [decide_eq_false (by omega)]
          simp only [plenumlaw35_ThermalNeeded.j1, Bool.false_eq_true, if_false]
          by_cases q1 : r = -1000
          · rw [if_pos q1]
          rw [if_neg q1]
          by_cases q2 : less < 1
          · rw [if_pos q2]
          rw [if_neg q2]
          by_cases q3 : less > 2000
          · rw [if_pos q3]
          rw [if_neg q3, w64 (x := r - less) (by omega) (by omega)]
          have hm : Hok (mx (-1000) (r - less)) ∧ mx (-1000) (r - less) < r := by unfold mx Hok; split <;> omega
          rw [af _ hm.1 _ (by omega)]
          simp only [Option.bind_some, if_true]
          rw [decide_eq_true (r2 _ hm.1.1 hm.2)]
      · refine ⟨8, ?_⟩
        simp [plenumlaw35_ThermalNeeded.j0, Needed_no s 7 (by omega)]
    obtain ⟨k, hk⟩ := key
    refine ⟨k, ?_⟩
    unfold plenumlaw35_ThermalNeeded.f plenumlaw35_awake.f
    simp only [Option.bind_some, if_true]
    by_cases c1 : st > 200
    · rw [if_pos c1, decide_eq_false (fun h => c ⟨c1, h⟩), hk]
    · rw [if_neg c1, hk]
end Go.Proofs.Ythlokfpboinmpaa.Pure
