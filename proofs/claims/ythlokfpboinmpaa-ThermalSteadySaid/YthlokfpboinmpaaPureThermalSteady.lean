/- ThermalSteady: a step leaves exactly the steady temperatures as they are; every other one comes nearer and passes none; no condition. -/
import Derived.Test.YthlokfpboinmpaaG
import Derived.Test.YthlokfpboinmpaaPTx13
namespace Go.Proofs.Ythlokfpboinmpaa.Pure
open Go.RowKit Go.Proofs.Ythlokfpboinmpaa.PT Go.Proofs.YthlokfpboinmpaaW.PrintWords Go.Proofs.YthlokfpboinmpaaW.PrintLast Go.Proofs.YthlokfpboinmpaaW.PrintMore Go.Proofs.Ythlokfpboinmpaa.M
theorem steady_law {z0 z1 o h d t lo hi : Int} (hz : Zok z0 z1) (hd : Dok d) (ht : Tok t) (s : IsSteady (nx z0 z1 o h d) lo hi) :
    lo ≤ hi ∧ (t < lo → t < nx z0 z1 o h d t ∧ nx z0 z1 o h d t ≤ lo) ∧ (hi < t → nx z0 z1 o h d t < t ∧ hi ≤ nx z0 z1 o h d t) ∧ (lo ≤ t → t ≤ hi → nx z0 z1 o h d t = t) := by
  obtain ⟨lt, htt, l0, l1, h0, h1⟩ := s
  have m : ∀ u v : Int, u ≤ v → nx z0 z1 o h d u ≤ nx z0 z1 o h d v := fun u v huv => nx_mono hz hd huv (Int.le_refl _) (Int.le_refl _)
  have c : ∀ u v : Int, u ≤ v → chg z0 z1 o h d v ≤ chg z0 z1 o h d u := fun u v huv => (chg_t hz hd huv).1
  refine ⟨?_, fun hl => ?_, fun hl => ?_, fun ha hb => ?_⟩
  · by_cases q : lo ≤ hi
    · exact q
    · have a1 := h1 lo lt (by omega)
      have a2 := l1 hi htt (by omega)
      have a3 := m hi lo (by omega)
      by_cases e : lo = hi + 1
      · omega
      · have b1 := h1 (lo - 1) ⟨by have := htt.1; omega, by have := lt.2; omega⟩ (by omega)
        have b2 := l1 (lo - 1) ⟨by have := htt.1; omega, by have := lt.2; omega⟩ (by omega)
        omega
  · have a1 := l1 t ht hl
    have a2 := m t lo (by omega)
    omega
  · have a1 := h1 t ht hl
    have a2 := m hi t (by omega)
    omega
  · have a1 : nx z0 z1 o h d t ≤ t := by
      rw [nx_le_iff ht]
      rcases (nx_le_iff lt).1 l0 with q | q
      · exact .inl (by have := c lo t ha; omega)
      · exact .inr (by have := ht.2; omega)
    have a2 : t ≤ nx z0 z1 o h d t := by
      rw [nx_ge_iff ht]
      rcases (nx_ge_iff htt).1 h0 with q | q
      · exact .inl (by have := c t hi hb; omega)
      · exact .inr (by have := ht.1; omega)
    omega
theorem ThermalSteady : plenumlaw35_ThermalSteady.Pure := by
  intro z0 z1 t o h d _ _ _ _ _ _
  by_cases s : Zok z0 z1 ∧ Tok o ∧ Hok h ∧ Dok d
  · obtain ⟨lo, hi, K, i1, i2⟩ := Steady_ok s.1 s.2.1 s.2.2.1 s.2.2.2
    refine ⟨K + 5, ?_⟩
    have e2 := i2 (K + 5) (by omega)
    by_cases ht : Tok t
    · have e1 := Step_ok (t := t) ⟨s.1, ht, s.2.1, s.2.2.1, s.2.2.2⟩ (K + 5) (by omega)
      obtain ⟨q1, q2, q3, q4⟩ := steady_law s.1 s.2.2.2 ht i1
      simp only [plenumlaw35_ThermalSteady.f, plenumlaw35_awake.f, e1, e2, Option.bind_some, plenumlaw35_ThermalSteady.j0]
      simp only [if_true, bne_self_eq_false, Bool.false_eq_true, if_false]
      rw [if_neg (by omega)]
      by_cases c1 : t < lo
      · have := q2 c1
        rw [if_pos c1, if_pos (by omega), decide_eq_true (by omega)]
      · rw [if_neg c1]
        by_cases c2 : t > hi
        · have := q3 c2
          rw [if_pos c2, if_pos (by omega), decide_eq_true (by omega)]
        · rw [if_neg c2, q4 (by omega) (by omega)]
          simp
    · have e1 := Step_no (t := t) (fun q => ht q.2.1 : ¬ Sok z0 z1 t o h d) (K + 5) (by omega)
      simp [plenumlaw35_ThermalSteady.f, plenumlaw35_awake.f, e1, e2, plenumlaw35_ThermalSteady.j0]
  · refine ⟨7, ?_⟩
    have e2 := Steady_no s 7 (by omega)
    have e1 := Step_no (t := t) (fun q => s ⟨q.1, q.2.2⟩ : ¬ Sok z0 z1 t o h d) 7 (by omega)
    simp [plenumlaw35_ThermalSteady.f, plenumlaw35_awake.f, e1, e2, plenumlaw35_ThermalSteady.j0]
end Go.Proofs.Ythlokfpboinmpaa.Pure
