/- ThermalArrives: after the steps that Reaches returns the target is reached, and not before; no condition. -/
import Derived.Test.YthlokfpboinmpaaHR
import Derived.Test.YthlokfpboinmpaaPTx16
namespace Go.Proofs.Ythlokfpboinmpaa.Pure
open Go.RowKit Go.Proofs.Ythlokfpboinmpaa.PT Go.Proofs.YthlokfpboinmpaaW.PrintWords Go.Proofs.YthlokfpboinmpaaW.PrintLast Go.Proofs.YthlokfpboinmpaaW.PrintMore Go.Proofs.Ythlokfpboinmpaa.M
def hitA (t0 tg t : Int) : Bool := decide (t = tg) || (decide (t > tg) != decide (t0 > tg))
theorem arr_loop {z0 z1 t0 o h tg d most n last : Int} (hz : Zok z0 z1) (ho : Tok o) (hh : Hok h) (hd : Dok d) (ht0 : Tok t0) (hm : most ≤ 200)
    (H : ∀ j : Nat, (j : Int) ≤ most → (j : Int) ≤ last → hitA t0 tg (it (nx z0 z1 o h d) j t0) = decide ((j : Int) = last)) :
    ∀ (r i k : Nat), (mn most last + 1 - i).toNat = r → 3 * r + 8 < k → plenumlaw35_ThermalArrives.l0 k t0 o h tg d most n last (it (nx z0 z1 o h d) i t0) i z0 z1 = some (decide (n ≤ most)) := by
  intro r
  induction r with
  | zero =>
    intro i k hr hk
    obtain ⟨k, rfl⟩ : ∃ m, k = m + 2 := ⟨k - 2, by omega⟩
    simp only [plenumlaw35_ThermalArrives.l0]
    by_cases c : (i : Int) ≤ most
    · have c2 : ¬ (i : Int) ≤ last := by unfold mn at hr; split at hr <;> omega
      rw [if_pos c, decide_eq_false c2]
      simp [plenumlaw35_ThermalArrives.j3]
    · rw [if_neg c]
      simp [plenumlaw35_ThermalArrives.j3]
  | succ r ih =>
    intro i k hr hk
    obtain ⟨k, rfl⟩ : ∃ m, k = m + 3 := ⟨k - 3, by omega⟩
    have c : (i : Int) ≤ most ∧ (i : Int) ≤ last := by unfold mn at hr; split at hr <;> omega
    have e := H i c.1 c.2
    have ht : Tok (it (nx z0 z1 o h d) i t0) := it_Tok i ht0
    have hn := ih (i + 1) k (by unfold mn at *; split at * <;> omega) (by omega)
    rw [it_succ] at hn
    generalize it (nx z0 z1 o h d) i t0 = t at *
    have go : ∀ b : Bool, b = hitA t0 tg t → plenumlaw35_ThermalArrives.j4 (k + 1) t0 o h tg d most n last t i b z0 z1 = some (decide (n ≤ most)) := by
      rintro b rfl
      simp only [plenumlaw35_ThermalArrives.j4]
      rw [if_neg (by rw [e, show ((i : Int) == last) = decide ((i : Int) = last) from rfl]; simp), Step_ok ⟨hz, ht, ho, hh, hd⟩ k (by omega)]
      simp only [Option.bind_some, if_true]
      rw [w64 (x := (i : Int) + 1) (by omega) (by omega)]
      exact hn
    simp only [plenumlaw35_ThermalArrives.l0]
    rw [if_pos c.1, decide_eq_true c.2]
    simp only [plenumlaw35_ThermalArrives.j3, if_true]
    by_cases q : t = tg
    · rw [if_pos q]
      exact go true (by simp [hitA, q])
    · rw [if_neg q]
      exact go _ (by simp [hitA, q])
theorem hit_IA {t0 tg t : Int} (h : t0 ≠ tg) : hitA t0 tg t = hitI t0 tg t := by
  unfold hitA hitI
  rw [Bool.eq_iff_iff]
  by_cases a : t > tg
  · by_cases b : t0 > tg
    · simp [a, b]; omega
    · simp [a, b]; omega
  · by_cases b : t0 > tg
    · simp [a, b]; omega
    · simp [a, b]; omega
theorem ThermalArrives : plenumlaw35_ThermalArrives.Pure := by
  intro z0 z1 t o h tg d most _ _ _ _ _ _ _ wm
  have wm := wfb wm
  by_cases c : most > 200
  · exact ⟨1, by simp [plenumlaw35_ThermalArrives.f, plenumlaw35_awake.f, c]⟩
  · refine ⟨20000, ?_⟩
    unfold plenumlaw35_ThermalArrives.f plenumlaw35_awake.f
    simp only [Option.bind_some, if_true]
    rw [if_neg c]
    by_cases s : Rok z0 z1 t o h tg d most
    · rw [Reaches_ok s 20000 (by omega)]
      obtain ⟨hz, ht, ho, htg, hh, hd, m0, m1⟩ := s
      obtain ⟨q, hq⟩ : ∃ q, (most + 1).toNat = q + 1 := ⟨most.toNat, by omega⟩
      cases e : rf (hitI t tg) (nx z0 z1 o h d) (most + 1).toNat t 0 with
      | none =>
        have hne : t ≠ tg := by
          rintro rfl
          rw [hq, rf_step, if_pos (show hitI t t t = true from decide_eq_true (.inl ⟨Int.le_refl _, Int.le_refl _⟩))] at e
          cases e
        have e2 := rf_none e
        have go := arr_loop (z0 := z0) (z1 := z1) (t0 := t) (o := o) (h := h) (tg := tg) (d := d) (most := most) (n := 0) (last := most + 1) hz ho hh hd ht (by omega)
          (fun j j1 j2 => by rw [hit_IA hne, e2 j (by omega), decide_eq_false (by omega)]) (mn most (most + 1) + 1 - 0).toNat 0 19998 (by omega) (by unfold mn; split <;> omega)
        simp [told, plenumlaw35_ThermalArrives.j0, plenumlaw35_ThermalArrives.j1]
        rw [w64 (x := most + 1) (by omega) (by omega)]
        refine go.trans ?_
        rw [decide_eq_true m0]
      | some n =>
        obtain ⟨j, rfl, j1, j2, j3⟩ := rf_some e
        rw [Int.zero_add] at *
        have go := arr_loop (z0 := z0) (z1 := z1) (t0 := t) (o := o) (h := h) (tg := tg) (d := d) (most := most) (n := (j : Int)) (last := (j : Int)) hz ho hh hd ht (by omega)
          (fun j' j1' j2' => by
            by_cases hne : t = tg
            · subst hne
              have hj : j = 0 := by
                cases j with
                | zero => rfl
                | succ j =>
                  have := j3 0 (by omega)
                  rw [show hitI t t (it (nx z0 z1 o h d) 0 t) = true from decide_eq_true (.inl ⟨Int.le_refl _, Int.le_refl _⟩)] at this
                  cases this
              subst hj
              obtain rfl : j' = 0 := by omega
              simp [hitA, it]
            · rw [hit_IA hne]
              by_cases hj : j' = j
              · subst hj
                rw [j2, decide_eq_true rfl]
              · rw [j3 j' (by omega), decide_eq_false (by omega)]) (mn most (j : Int) + 1 - 0).toNat 0 19998 (by omega) (by unfold mn; split <;> omega)
        simp [told, plenumlaw35_ThermalArrives.j0, plenumlaw35_ThermalArrives.j1]
        refine go.trans ?_
        rw [decide_eq_true (by omega)]
    · rw [Reaches_no s 20000 (by omega)]
      simp [plenumlaw35_ThermalArrives.j0]
end Go.Proofs.Ythlokfpboinmpaa.Pure
