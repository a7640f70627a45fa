/- Needed: what thermal answers. -/
import Derived.Test.YthlokfpboinmpaaG
import Derived.Test.YthlokfpboinmpaaPTx5
namespace Go.Proofs.Ythlokfpboinmpaa.M
open Go.RowKit Go.Proofs.Ythlokfpboinmpaa.PT Go.Proofs.YthlokfpboinmpaaW.PrintWords Go.Proofs.YthlokfpboinmpaaW.PrintLast Go.Proofs.YthlokfpboinmpaaW.PrintMore
theorem needN_f {z0 z1 o h d st : Int} (hz : Zok z0 z1) (ho : Tok o) (hh : Hok h) (hd : Dok d) (hN : st ≤ 10000) : ∀ (m k : Nat) (t i : Int), 0 ≤ i → (st - i).toNat = m → Tok t → m < k → needN z0 z1 o h d st k t i = some (it (nx z0 z1 o h d) m t) := by
  intro m
  induction m with
  | zero =>
    intro k t i hi hm ht hk
    obtain ⟨k, rfl⟩ : ∃ m, k = m + 1 := ⟨k - 1, by omega⟩
    simp only [needN]
    rw [if_neg (by omega)]
    rfl
  | succ m ih =>
    intro k t i hi hm ht hk
    obtain ⟨k, rfl⟩ : ∃ m, k = m + 1 := ⟨k - 1, by omega⟩
    simp only [needN]
    rw [if_pos (by omega), step_f hz ho hh hd ht, w64 (x := i + 1) (by omega) (by omega)]
    exact ih k _ (i + 1) (by omega) (by omega) (nx_Tok _ _ _ _ _ _) (by omega)
def Nok (z0 z1 t o tg d st : Int) : Prop := Zok z0 z1 ∧ Tok t ∧ Tok o ∧ Tok tg ∧ Dok d ∧ 1 ≤ st ∧ st ≤ 10000
/-- r is the least heat that suffices, or 1001. -/
structure IsNeeded (z0 z1 t o tg d st r : Int) : Prop where
  a : -1000 ≤ r
  b : r ≤ 1001
  c : ∀ h, -1000 ≤ h → h < r → it (nx z0 z1 o h d) st.toNat t < tg
  e : ∀ h, r ≤ h → h ≤ 1000 → tg ≤ it (nx z0 z1 o h d) st.toNat t
theorem IsNeeded.uniq {z0 z1 t o tg d st r r' : Int} (x : IsNeeded z0 z1 t o tg d st r) (y : IsNeeded z0 z1 t o tg d st r') : r = r' := by
  have e1 : ¬ r < r' := fun h => by have := x.e r (Int.le_refl _) (by have := y.b; omega); have := y.c r x.a h; omega
  have e2 : ¬ r' < r := fun h => by have := y.e r' (Int.le_refl _) (by have := x.b; omega); have := x.c r' y.a h; omega
  omega
def toldN (r : Int) : Int × Int := if r > 1000 then (0, 9) else (r, 0)
theorem Needed_ok {z0 z1 t o tg d st : Int} (s : Nok z0 z1 t o tg d st) : ∃ r K, IsNeeded z0 z1 t o tg d st r ∧ ∀ k, K ≤ k → thermal_Needed.f k z0 z1 t o tg d st = some (toldN r) := by
  obtain ⟨hz, ht, ho, htg, hd, s0, s1⟩ := s
  obtain ⟨r, K, r0, r1, r2, r3, r4⟩ := leastN_at (p := fun k h => (needN z0 z1 o h d st k t 0).bind (fun u => some (decide (tg ≤ u)))) (q := fun h => decide (tg ≤ it (nx z0 z1 o h d) st.toNat t)) (lo := -1000) (hi := 1000) (K := 10001) (by omega) (by omega) (by omega)
    (fun k hk h h1 h2 => by rw [needN_f hz ho ⟨h1, h2⟩ hd s1 st.toNat k t 0 (by omega) (by omega) ht (by omega)]; rfl)
    (fun u v _ h1 _ h2 => decide_eq_true (by have := of_decide_eq_true h2; have := it_mono (o := o) hz hd h1 st.toNat t; omega))
  refine ⟨r, K + 6, ⟨r0, r1, fun h h1 h2 => by have := of_decide_eq_false (r2 h h1 h2); omega, fun h h1 h2 => of_decide_eq_true (r3 h h1 h2)⟩, fun k hk => ?_⟩
  obtain ⟨k, rfl⟩ : ∃ m, k = m + 1 := ⟨k - 1, by omega⟩
  have e : thermal_least37.f k (-1000) 1000 t st z0 z1 o d tg = some r := r4 k (by omega)
  have e1 : ¬ st < 1 := by omega
  have e2 : ¬ st > 10000 := by omega
  simp only [thermal_Needed.f, chk_ok hz, temps3 (k + 1) (by omega), lasts_ok hd, Option.bind_some, thermal_Needed.j0, e]
  rw [decide_eq_true (p := Tok t ∧ Tok o ∧ Tok tg) ⟨ht, ho, htg⟩, decide_eq_false e2]
  simp only [if_true, Bool.false_eq_true, if_false, e1]
  unfold toldN
  split <;> rfl
theorem Needed_no {z0 z1 t o tg d st : Int} (s : ¬ Nok z0 z1 t o tg d st) (k : Nat) (hk : 6 ≤ k) : thermal_Needed.f k z0 z1 t o tg d st = some (0, 6) := by
  obtain ⟨k, rfl⟩ : ∃ m, k = m + 1 := ⟨k - 1, by omega⟩
  by_cases hz : Zok z0 z1
  · by_cases ht : Tok t ∧ Tok o ∧ Tok tg
    · by_cases hd : Dok d
      · by_cases m0 : st < 1
        · simp [thermal_Needed.f, chk_ok hz, temps3 (k + 1) (by omega), ht, lasts_ok hd, thermal_Needed.j0, m0]
        · have m1 : 10000 < st := by
            by_cases q : 10000 < st
            · exact q
            · exact absurd ⟨hz, ht.1, ht.2.1, ht.2.2, hd, by omega, by omega⟩ s
          simp [thermal_Needed.f, chk_ok hz, temps3 (k + 1) (by omega), ht, lasts_ok hd, thermal_Needed.j0, m0, m1]
      · simp [thermal_Needed.f, chk_ok hz, temps3 (k + 1) (by omega), ht, lasts_no hd, thermal_Needed.j0]
    · simp only [thermal_Needed.f, chk_ok hz, temps3 (k + 1) (by omega), Option.bind_some, thermal_Needed.j0]
      rw [decide_eq_false ht]
      simp
  · simp [thermal_Needed.f, chk_no hz]
end Go.Proofs.Ythlokfpboinmpaa.M
