/- Reaches: what the reference answers. -/
import Derived.Test.YthlokfpboinmpaaHR
import Derived.Test.YthlokfpboinmpaaPTx11
namespace Go.Proofs.Ythlokfpboinmpaa.M
open Go.RowKit Go.Proofs.Ythlokfpboinmpaa.PT Go.Proofs.YthlokfpboinmpaaW.PrintWords Go.Proofs.YthlokfpboinmpaaW.PrintLast Go.Proofs.YthlokfpboinmpaaW.PrintMore
def hitR (up : Bool) (tg t : Int) : Bool := decide (t = tg ∨ (up = true ∧ tg < t) ∨ (up = false ∧ t < tg))
theorem rReaches_loop {z0 z1 o h d tg most : Int} (up : Bool) (hz : Zok z0 z1) (ho : Tok o) (hh : Hok h) (hd : Dok d) (hN : most ≤ 10000) : ∀ (m k : Nat) (t i : Int), 0 ≤ i → (most + 1 - i).toNat = m → Tok t → m < k →
    plenumref35_Reaches.l0 k t o h tg d most up i z0 z1 = some (told (rf (hitR up tg) (nx z0 z1 o h d) m t i)) := by
  intro m
  induction m with
  | zero =>
    intro k t i hi hm ht hk
    obtain ⟨k, rfl⟩ : ∃ m, k = m + 1 := ⟨k - 1, by omega⟩
    simp only [plenumref35_Reaches.l0]
    rw [if_neg (by omega)]
    rfl
  | succ m ih =>
    intro k t i hi hm ht hk
    obtain ⟨k, rfl⟩ : ∃ m, k = m + 1 := ⟨k - 1, by omega⟩
    have hn := ih k (nx z0 z1 o h d t) (i + 1) (by omega) (by omega) (nx_Tok _ _ _ _ _ _) (by omega)
    have go : (plenumref35_Next.f z0 z1 t o h d).bind (fun t' => plenumref35_Reaches.l0 k t' o h tg d most up (wrap64 (i + 1)) z0 z1) = some (told (rf (hitR up tg) (nx z0 z1 o h d) m (nx z0 z1 o h d t) (i + 1))) := by
      rw [next_f hz ho hh hd ht, w64 (x := i + 1) (by omega) (by omega)]
      exact hn
    simp only [plenumref35_Reaches.l0]
    rw [if_pos (by omega), go]
    rw [rf_step]
    by_cases c1 : t = tg
    · rw [if_pos c1, if_pos (show hitR up tg t = true from decide_eq_true (.inl c1))]
      rfl
    · rw [if_neg c1]
      cases up with
      | true =>
        rw [if_pos rfl]
        by_cases c2 : t > tg
        · rw [if_pos c2, if_pos (show hitR true tg t = true from decide_eq_true (.inr (.inl ⟨rfl, c2⟩)))]
          rfl
        · rw [if_neg c2, if_neg (by simp only [hitR, decide_eq_true_eq]; simp; omega)]
      | false =>
        rw [if_neg (by decide)]
        by_cases c2 : t < tg
        · rw [if_pos c2, if_pos (show hitR false tg t = true from decide_eq_true (.inr (.inr ⟨rfl, c2⟩)))]
          rfl
        · rw [if_neg c2, if_neg (by simp only [hitR, decide_eq_true_eq]; simp; omega)]
theorem hit_same {t0 tg : Int} (f : Int → Int) (m : Nat) : rf (hitR (decide (t0 < tg)) tg) f (m + 1) t0 0 = rf (hitI t0 tg) f (m + 1) t0 0 := by
  by_cases e : t0 = tg
  · subst e
    rw [rf_step, rf_step]
    rw [if_pos (show hitR _ t0 t0 = true from decide_eq_true (.inl rfl)), if_pos (show hitI t0 t0 t0 = true from decide_eq_true (.inl ⟨Int.le_refl _, Int.le_refl _⟩))]
  · have : hitR (decide (t0 < tg)) tg = hitI t0 tg := by
      funext t
      unfold hitR hitI
      rw [decide_eq_decide]
      simp only [decide_eq_true_eq, decide_eq_false_iff_not]
      omega
    rw [this]
theorem rReaches_ok {z0 z1 t o h tg d most : Int} (s : Rok z0 z1 t o h tg d most) (k : Nat) (hk : 10010 ≤ k) : plenumref35_Reaches.f k z0 z1 t o h tg d most = some (told (rf (hitI t tg) (nx z0 z1 o h d) (most + 1).toNat t 0)) := by
  obtain ⟨hz, ht, ho, htg, hh, hd, m0, m1⟩ := s
  obtain ⟨k, rfl⟩ : ∃ m, k = m + 2 := ⟨k - 2, by omega⟩
  have e := rReaches_loop (tg := tg) (most := most) (decide (t < tg)) hz ho hh hd (by omega) (most + 1).toNat k t 0 (by omega) (by omega) ht (by omega)
  obtain ⟨q, hq⟩ : ∃ q, (most + 1).toNat = q + 1 := ⟨most.toNat, by omega⟩
  rw [hq, hit_same] at e
  rw [hq]
  have e1 : ¬ most < 0 := by omega
  have e2 : ¬ most > 10000 := by omega
  simp only [plenumref35_Reaches.f, rchk, chk_ok hz, rtemp_ok ht, rtemp_ok ho, rtemp_ok htg, rheat, heats_ok hh, rtime, lasts_ok hd, Option.bind_some, plenumref35_Reaches.j0, plenumref35_Reaches.j1, e]
  rw [decide_eq_false e2]
  simp [e1]
theorem rReaches_no {z0 z1 t o h tg d most : Int} (s : ¬ Rok z0 z1 t o h tg d most) (k : Nat) (hk : 10010 ≤ k) : plenumref35_Reaches.f k z0 z1 t o h tg d most = some (0, 6) := by
  obtain ⟨k, rfl⟩ : ∃ m, k = m + 1 := ⟨k - 1, by omega⟩
  by_cases hz : Zok z0 z1
  · by_cases ht : Tok t
    · by_cases ho : Tok o
      · by_cases hh : Hok h
        · by_cases htg : Tok tg
          · by_cases hd : Dok d
            · by_cases m0 : most < 0
              · simp [plenumref35_Reaches.f, rchk, rheat, rtime, chk_ok hz, rtemp_ok ht, rtemp_ok ho, rtemp_ok htg, heats_ok hh, lasts_ok hd, plenumref35_Reaches.j0, m0]
              · have m1 : 10000 < most := by
                  by_cases q : 10000 < most
                  · exact q
                  · exact absurd ⟨hz, ht, ho, htg, hh, hd, by omega, by omega⟩ s
                simp [plenumref35_Reaches.f, rchk, rheat, rtime, chk_ok hz, rtemp_ok ht, rtemp_ok ho, rtemp_ok htg, heats_ok hh, lasts_ok hd, plenumref35_Reaches.j0, m0, m1]
            · simp [plenumref35_Reaches.f, rchk, rheat, rtime, chk_ok hz, rtemp_ok ht, rtemp_ok ho, rtemp_ok htg, heats_ok hh, lasts_no hd, plenumref35_Reaches.j0]
          · simp [plenumref35_Reaches.f, rchk, rheat, chk_ok hz, rtemp_ok ht, rtemp_ok ho, rtemp_no htg, heats_ok hh, plenumref35_Reaches.j0]
        · simp [plenumref35_Reaches.f, rchk, rheat, chk_ok hz, rtemp_ok ht, rtemp_ok ho, heats_no hh, plenumref35_Reaches.j0]
      · simp [plenumref35_Reaches.f, rchk, chk_ok hz, rtemp_ok ht, rtemp_no ho, plenumref35_Reaches.j0]
    · simp [plenumref35_Reaches.f, rchk, chk_ok hz, rtemp_no ht, plenumref35_Reaches.j0]
  · simp [plenumref35_Reaches.f, rchk, chk_no hz, plenumref35_Reaches.j0]
end Go.Proofs.Ythlokfpboinmpaa.M
