/- Needed: what the reference answers. -/
import Derived.Test.YthlokfpboinmpaaHN
import Derived.Test.YthlokfpboinmpaaPTx12
namespace Go.Proofs.Ythlokfpboinmpaa.M
open Go.RowKit Go.Proofs.Ythlokfpboinmpaa.PT Go.Proofs.YthlokfpboinmpaaW.PrintWords Go.Proofs.YthlokfpboinmpaaW.PrintLast Go.Proofs.YthlokfpboinmpaaW.PrintMore
theorem After_f {z0 z1 o h d st : Int} (hz : Zok z0 z1) (ho : Tok o) (hh : Hok h) (hd : Dok d) (hN : st ≤ 10000) : ∀ (m k : Nat) (t i : Int), 0 ≤ i → (st - i).toNat = m → Tok t → m < k → plenumref35_After.l0 k t o h d st i z0 z1 = some (it (nx z0 z1 o h d) m t) := by
  intro m
  induction m with
  | zero =>
    intro k t i hi hm ht hk
    obtain ⟨k, rfl⟩ : ∃ m, k = m + 1 := ⟨k - 1, by omega⟩
    simp only [plenumref35_After.l0]
    rw [if_neg (by omega)]
    rfl
  | succ m ih =>
    intro k t i hi hm ht hk
    obtain ⟨k, rfl⟩ : ∃ m, k = m + 1 := ⟨k - 1, by omega⟩
    simp only [plenumref35_After.l0]
    rw [if_pos (by omega), next_f hz ho hh hd ht, w64 (x := i + 1) (by omega) (by omega)]
    exact ih k _ (i + 1) (by omega) (by omega) (nx_Tok _ _ _ _ _ _) (by omega)
theorem rNeeded_loop {z0 z1 t o tg d st : Int} (hz : Zok z0 z1) (ht : Tok t) (ho : Tok o) (hd : Dok d) (s0 : 1 ≤ st) (s1 : st ≤ 10000) : ∀ (n : Nat) (a b : Int), (b - a).toNat ≤ n → -1000 ≤ a → b ≤ 1001 → a ≤ b →
    (∀ h, -1000 ≤ h → h < a → it (nx z0 z1 o h d) st.toNat t < tg) → (∀ h, b ≤ h → h ≤ 1000 → tg ≤ it (nx z0 z1 o h d) st.toNat t) →
    ∃ r, IsNeeded z0 z1 t o tg d st r ∧ ∀ k, 10010 + n < k → plenumref35_Needed.l0 k t o tg d st a b z0 z1 = some (toldN r)
  | n, a, b, hn, ha, hb, hab, h0, h1 => by
    by_cases c : a < b
    · have hm : a ≤ a + (b - a) / 2 ∧ a + (b - a) / 2 < b := by omega
      obtain ⟨n, rfl⟩ : ∃ m, n = m + 1 := ⟨n - 1, by omega⟩
      have hstep : ∀ k, 10010 ≤ k → plenumref35_Needed.l0 (k + 1) t o tg d st a b z0 z1 = (if it (nx z0 z1 o (a + (b - a) / 2) d) st.toNat t < tg then plenumref35_Needed.l0 k t o tg d st (a + (b - a) / 2 + 1) b z0 z1 else plenumref35_Needed.l0 k t o tg d st a (a + (b - a) / 2) z0 z1) := by
        intro k hk
        conv => lhs; unfold plenumref35_Needed.l0
        rw [if_pos c, mid_w (by omega) (by omega) (by omega), if_pos (by omega)]
        unfold plenumref35_After.f
        rw [After_f hz ho ⟨by omega, by omega⟩ hd s1 st.toNat k t 0 (by omega) (by omega) ht (by omega)]
        simp only [Option.bind_some]
        rw [w64 (x := a + (b - a) / 2 + 1) (by omega) (by omega)]
      by_cases hq : it (nx z0 z1 o (a + (b - a) / 2) d) st.toNat t < tg
      · obtain ⟨r, r0, r1⟩ := rNeeded_loop hz ht ho hd s0 s1 n (a + (b - a) / 2 + 1) b (by omega) (by omega) hb (by omega) (fun h h2 h3 => by
          have := it_mono (o := o) hz hd (show h ≤ a + (b - a) / 2 by omega) st.toNat t
          omega) h1
        refine ⟨r, r0, fun k hk => ?_⟩
        obtain ⟨k, rfl⟩ : ∃ m, k = m + 1 := ⟨k - 1, by omega⟩
        rw [hstep k (by omega), if_pos hq, r1 k (by omega)]
      · obtain ⟨r, r0, r1⟩ := rNeeded_loop hz ht ho hd s0 s1 n a (a + (b - a) / 2) (by omega) ha (by omega) (by omega) h0 (fun h h2 h3 => by
          have := it_mono (o := o) hz hd (show a + (b - a) / 2 ≤ h by omega) st.toNat t
          omega)
        refine ⟨r, r0, fun k hk => ?_⟩
        obtain ⟨k, rfl⟩ : ∃ m, k = m + 1 := ⟨k - 1, by omega⟩
        rw [hstep k (by omega), if_neg hq, r1 k (by omega)]
    · obtain rfl : a = b := by omega
      refine ⟨a, ⟨ha, hb, h0, h1⟩, fun k hk => ?_⟩
      obtain ⟨k, rfl⟩ : ∃ m, k = m + 1 := ⟨k - 1, by omega⟩
      unfold plenumref35_Needed.l0 toldN
      rw [if_neg c]
      split <;> rfl
theorem rNeeded_ok {z0 z1 t o tg d st : Int} (s : Nok z0 z1 t o tg d st) : ∃ r, IsNeeded z0 z1 t o tg d st r ∧ ∀ k, 20000 ≤ k → plenumref35_Needed.f k z0 z1 t o tg d st = some (toldN r) := by
  obtain ⟨hz, ht, ho, htg, hd, s0, s1⟩ := s
  obtain ⟨r, r0, r1⟩ := rNeeded_loop (tg := tg) hz ht ho hd s0 s1 2001 (-1000) 1001 (by omega) (by omega) (by omega) (by omega) (fun h h1 h2 => absurd h2 (by omega)) (fun h h1 h2 => absurd h2 (by omega))
  refine ⟨r, r0, fun k hk => ?_⟩
  obtain ⟨k, rfl⟩ : ∃ m, k = m + 1 := ⟨k - 1, by omega⟩
  have e1 : ¬ st < 1 := by omega
  have e2 : ¬ st > 10000 := by omega
  simp only [plenumref35_Needed.f, rchk, chk_ok hz, rtemp_ok ht, rtemp_ok ho, rtemp_ok htg, rtime, lasts_ok hd, Option.bind_some, plenumref35_Needed.j0, r1 k (by omega)]
  rw [decide_eq_false e2]
  simp [e1]
theorem rNeeded_no {z0 z1 t o tg d st : Int} (s : ¬ Nok z0 z1 t o tg d st) (k : Nat) (hk : 6 ≤ k) : plenumref35_Needed.f k z0 z1 t o tg d st = some (0, 6) := by
  obtain ⟨k, rfl⟩ : ∃ m, k = m + 1 := ⟨k - 1, by omega⟩
  by_cases hz : Zok z0 z1
  · by_cases ht : Tok t
    · by_cases ho : Tok o
      · by_cases htg : Tok tg
        · by_cases hd : Dok d
          · by_cases m0 : st < 1
            · simp [plenumref35_Needed.f, rchk, rtime, chk_ok hz, rtemp_ok ht, rtemp_ok ho, rtemp_ok htg, lasts_ok hd, plenumref35_Needed.j0, m0]
            · have m1 : 10000 < st := by
                by_cases q : 10000 < st
                · exact q
                · exact absurd ⟨hz, ht, ho, htg, hd, by omega, by omega⟩ s
              simp [plenumref35_Needed.f, rchk, rtime, chk_ok hz, rtemp_ok ht, rtemp_ok ho, rtemp_ok htg, lasts_ok hd, plenumref35_Needed.j0, m0, m1]
          · simp [plenumref35_Needed.f, rchk, rtime, chk_ok hz, rtemp_ok ht, rtemp_ok ho, rtemp_ok htg, lasts_no hd, plenumref35_Needed.j0]
        · simp [plenumref35_Needed.f, rchk, chk_ok hz, rtemp_ok ht, rtemp_ok ho, rtemp_no htg, plenumref35_Needed.j0]
      · simp [plenumref35_Needed.f, rchk, chk_ok hz, rtemp_ok ht, rtemp_no ho, plenumref35_Needed.j0]
    · simp [plenumref35_Needed.f, rchk, chk_ok hz, rtemp_no ht, plenumref35_Needed.j0]
  · simp [plenumref35_Needed.f, rchk, chk_no hz, plenumref35_Needed.j0]
end Go.Proofs.Ythlokfpboinmpaa.M
