/- Reaches: what thermal and the reference answer. -/
import Derived.Test.YthlokfpboinmpaaF
import Derived.Test.YthlokfpboinmpaaPTx4
namespace Go.Proofs.Ythlokfpboinmpaa.M
open Go.RowKit Go.Proofs.Ythlokfpboinmpaa.PT Go.Proofs.YthlokfpboinmpaaW.PrintWords Go.Proofs.YthlokfpboinmpaaW.PrintLast Go.Proofs.YthlokfpboinmpaaW.PrintMore
def hitI (t0 tg t : Int) : Bool := decide ((t0 ≤ tg ∧ tg ≤ t) ∨ (tg ≤ t0 ∧ t ≤ tg))
theorem rf_step (hit : Int → Bool) (f : Int → Int) (m : Nat) (t i : Int) : rf hit f (m + 1) t i = if hit t = true then some i else rf hit f m (f t) (i + 1) := rfl
def told : Option Int → Int × Int
  | some n => (n, 0)
  | none => (0, 9)
theorem Reaches_loop {z0 z1 o h d t0 tg N : Int} (hz : Zok z0 z1) (ho : Tok o) (hh : Hok h) (hd : Dok d) (hN : N ≤ 10001) : ∀ (m k : Nat) (t i : Int), 0 ≤ i → (N - i).toNat = m → Tok t → m < k →
    thermal_Reaches.l0 k t0 o h tg d t N i z0 z1 = some (told (rf (hitI t0 tg) (nx z0 z1 o h d) m t i)) := by
  intro m
  induction m with
  | zero =>
    intro k t i hi hm ht hk
    obtain ⟨k, rfl⟩ : ∃ m, k = m + 1 := ⟨k - 1, by omega⟩
    simp only [thermal_Reaches.l0]
    rw [if_neg (by omega)]
    rfl
  | succ m ih =>
    intro k t i hi hm ht hk
    obtain ⟨k, rfl⟩ : ∃ m, k = m + 1 := ⟨k - 1, by omega⟩
    have hn := ih k (nx z0 z1 o h d t) (i + 1) (by omega) (by omega) (nx_Tok _ _ _ _ _ _) (by omega)
    have go : (thermal_step.f z0 z1 t o h d).bind (fun t' => thermal_Reaches.l0 k t0 o h tg d t' N (wrap64 (i + 1)) z0 z1) = some (told (rf (hitI t0 tg) (nx z0 z1 o h d) m (nx z0 z1 o h d t) (i + 1))) := by
      rw [step_f hz ho hh hd ht, w64 (x := i + 1) (by omega) (by omega)]
      exact hn
    simp only [thermal_Reaches.l0]
    rw [if_pos (by omega), go]
    rw [rf_step]
    by_cases c1 : t0 ≤ tg
    · rw [if_pos c1]
      by_cases c2 : t ≥ tg
      · rw [if_pos c2, if_pos (show hitI t0 tg t = true from decide_eq_true (.inl ⟨c1, c2⟩))]
        rfl
      · rw [if_neg c2]
        by_cases c3 : t0 ≥ tg
        · rw [if_pos c3]
          rw [if_pos (by omega), if_pos (show hitI t0 tg t = true from decide_eq_true (.inr ⟨c3, by omega⟩))]
          rfl
        · rw [if_neg c3, if_neg (by simp only [hitI, decide_eq_true_eq]; omega)]
    · rw [if_neg c1, if_pos (by omega)]
      by_cases c2 : t ≤ tg
      · rw [if_pos c2, if_pos (show hitI t0 tg t = true from decide_eq_true (.inr ⟨by omega, c2⟩))]
        rfl
      · rw [if_neg c2, if_neg (by simp only [hitI, decide_eq_true_eq]; omega)]
def Rok (z0 z1 t o h tg d most : Int) : Prop := Zok z0 z1 ∧ Tok t ∧ Tok o ∧ Tok tg ∧ Hok h ∧ Dok d ∧ 0 ≤ most ∧ most ≤ 10000
theorem Reaches_ok {z0 z1 t o h tg d most : Int} (s : Rok z0 z1 t o h tg d most) (k : Nat) (hk : 10010 ≤ k) : thermal_Reaches.f k z0 z1 t o h tg d most = some (told (rf (hitI t tg) (nx z0 z1 o h d) (most + 1).toNat t 0)) := by
  obtain ⟨hz, ht, ho, htg, hh, hd, m0, m1⟩ := s
  obtain ⟨k, rfl⟩ : ∃ m, k = m + 1 := ⟨k - 1, by omega⟩
  have e := Reaches_loop (t0 := t) (tg := tg) (N := most + 1) hz ho hh hd (by omega) (most + 1).toNat k t 0 (by omega) (by omega) ht (by omega)
  have e1 : ¬ most < 0 := by omega
  have e2 : ¬ most > 10000 := by omega
  simp only [thermal_Reaches.f, chk_ok hz, temps3 (k + 1) (by omega), heats_ok hh, lasts_ok hd, Option.bind_some, thermal_Reaches.j0]
  rw [decide_eq_true (p := Tok t ∧ Tok o ∧ Tok tg) ⟨ht, ho, htg⟩, decide_eq_false e2, w64 (x := most + 1) (by omega) (by omega), e]
  simp [e1]
theorem Reaches_no {z0 z1 t o h tg d most : Int} (s : ¬ Rok z0 z1 t o h tg d most) (k : Nat) (hk : 10010 ≤ k) : thermal_Reaches.f k z0 z1 t o h tg d most = some (0, 6) := by
  obtain ⟨k, rfl⟩ : ∃ m, k = m + 1 := ⟨k - 1, by omega⟩
  by_cases hz : Zok z0 z1
  · by_cases ht : Tok t ∧ Tok o ∧ Tok tg
    · by_cases hh : Hok h
      · by_cases hd : Dok d
        · by_cases m0 : most < 0
          · simp [thermal_Reaches.f, chk_ok hz, temps3 (k + 1) (by omega), ht, heats_ok hh, lasts_ok hd, thermal_Reaches.j0, m0]
          · have m1 : 10000 < most := by
              by_cases q : 10000 < most
              · exact q
              · exact absurd ⟨hz, ht.1, ht.2.1, ht.2.2, hh, hd, by omega, by omega⟩ s
            simp [thermal_Reaches.f, chk_ok hz, temps3 (k + 1) (by omega), ht, heats_ok hh, lasts_ok hd, thermal_Reaches.j0, m0, m1]
        · simp [thermal_Reaches.f, chk_ok hz, temps3 (k + 1) (by omega), ht, heats_ok hh, lasts_no hd, thermal_Reaches.j0]
      · simp [thermal_Reaches.f, chk_ok hz, temps3 (k + 1) (by omega), ht, heats_no hh, thermal_Reaches.j0]
    · simp only [thermal_Reaches.f, chk_ok hz, temps3 (k + 1) (by omega), Option.bind_some, thermal_Reaches.j0]
      rw [decide_eq_false ht]
      simp
  · simp [thermal_Reaches.f, chk_no hz]
end Go.Proofs.Ythlokfpboinmpaa.M
