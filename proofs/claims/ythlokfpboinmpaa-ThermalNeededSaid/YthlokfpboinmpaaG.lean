/- The binary searches of the thermal model find what they look for. -/
import Derived.Test.YthlokfpboinmpaaF
import Derived.Test.YthlokfpboinmpaaPTx3
import Derived.Test.YthlokfpboinmpaaPTx7
namespace Go.Proofs.Ythlokfpboinmpaa.M
open Go.RowKit Go.Proofs.Ythlokfpboinmpaa.PT Go.Proofs.YthlokfpboinmpaaW.PrintWords Go.Proofs.YthlokfpboinmpaaW.PrintLast Go.Proofs.YthlokfpboinmpaaW.PrintMore

theorem mid_w {a b : Int} (h : a ≤ b) (ha : -1000000000000 ≤ a) (hb : b ≤ 1000000000000) : wrap64 (a + (wrap64 (Int.tdiv (wrap64 (b - a)) 2))) = a + (b - a) / 2 := by
  rw [w64 (x := b - a) (by omega) (by omega), td2 (by omega), w64 (x := (b - a) / 2) (by omega) (by omega), w64 (by omega) (by omega)]
theorem mid_u {a b : Int} (h : a ≤ b) (ha : -1000000000000 ≤ a) (hb : b ≤ 1000000000000) : wrap64 (b - (wrap64 (Int.tdiv (wrap64 (b - a)) 2))) = b - (b - a) / 2 := by
  rw [w64 (x := b - a) (by omega) (by omega), td2 (by omega), w64 (x := (b - a) / 2) (by omega) (by omega), w64 (by omega) (by omega)]
theorem leastN_spec {p : Nat → Int → Option Bool} {q : Int → Bool} {lo hi : Int} {K : Nat} (b0 : -1000000000 ≤ lo) (b1 : hi ≤ 1000000000)
    (hp : ∀ k, K ≤ k → ∀ t, lo ≤ t → t ≤ hi → p k t = some (q t)) (mono : ∀ t u, lo ≤ t → t ≤ u → u ≤ hi → q t = true → q u = true) :
    ∀ (n : Nat) (a b : Int), (b + 1 - a).toNat ≤ n → lo ≤ a → b ≤ hi → a ≤ b + 1 → (∀ t, lo ≤ t → t < a → q t = false) → (∀ t, b < t → t ≤ hi → q t = true) →
      ∃ r, lo ≤ r ∧ r ≤ hi + 1 ∧ (∀ t, lo ≤ t → t < r → q t = false) ∧ (∀ t, r ≤ t → t ≤ hi → q t = true) ∧ ∀ k, K + n < k → leastN p k a b = some r
  | n, a, b, hn, ha, hb, hab, h0, h1 => by
    by_cases c : a ≤ b
    · have hm : lo ≤ a + (b - a) / 2 ∧ a + (b - a) / 2 ≤ hi := by omega
      have hstep : ∀ k, K ≤ k → ∀ r, leastN p (k + 1) a b = some r ↔ (if q (a + (b - a) / 2) = true then leastN p k a (a + (b - a) / 2 - 1) else leastN p k (a + (b - a) / 2 + 1) b) = some r := by
        intro k hk r
        conv => lhs; unfold leastN
        rw [if_pos c, mid_w c (by omega) (by omega), hp k hk _ hm.1 hm.2]
        simp only [Option.bind_some]
        rw [w64 (x := a + (b - a) / 2 - 1) (by omega) (by omega), w64 (x := a + (b - a) / 2 + 1) (by omega) (by omega)]
      obtain ⟨n, rfl⟩ : ∃ m, n = m + 1 := ⟨n - 1, by omega⟩
      by_cases hq : q (a + (b - a) / 2) = true
      · obtain ⟨r, r0, r1, r2, r3, r4⟩ := leastN_spec b0 b1 hp mono n a (a + (b - a) / 2 - 1) (by omega) ha (by omega) (by omega) h0 (fun t ht ht' => mono _ _ hm.1 (by omega) ht' hq)
        refine ⟨r, r0, r1, r2, r3, fun k hk => ?_⟩
        obtain ⟨k, rfl⟩ : ∃ m, k = m + 1 := ⟨k - 1, by omega⟩
        rw [hstep k (by omega), if_pos hq]
        exact r4 k (by omega)
      · obtain ⟨r, r0, r1, r2, r3, r4⟩ := leastN_spec b0 b1 hp mono n (a + (b - a) / 2 + 1) b (by omega) (by omega) hb (by omega) (fun t ht ht' => by
          cases e : q t with
          | false => rfl
          | true => exact absurd (mono _ _ ht (by omega) hm.2 e) hq) h1
        refine ⟨r, r0, r1, r2, r3, fun k hk => ?_⟩
        obtain ⟨k, rfl⟩ : ∃ m, k = m + 1 := ⟨k - 1, by omega⟩
        rw [hstep k (by omega), if_neg hq]
        exact r4 k (by omega)
    · refine ⟨a, ha, by omega, h0, fun t ht ht' => h1 t (by omega) ht', fun k hk => ?_⟩
      obtain ⟨k, rfl⟩ : ∃ m, k = m + 1 := ⟨k - 1, by omega⟩
      unfold leastN
      rw [if_neg c]
theorem leastN_at {p : Nat → Int → Option Bool} {q : Int → Bool} {lo hi : Int} {K : Nat} (b0 : -1000000000 ≤ lo) (b1 : hi ≤ 1000000000) (b2 : lo ≤ hi)
    (hp : ∀ k, K ≤ k → ∀ t, lo ≤ t → t ≤ hi → p k t = some (q t)) (mono : ∀ t u, lo ≤ t → t ≤ u → u ≤ hi → q t = true → q u = true) :
    ∃ r K', lo ≤ r ∧ r ≤ hi + 1 ∧ (∀ t, lo ≤ t → t < r → q t = false) ∧ (∀ t, r ≤ t → t ≤ hi → q t = true) ∧ ∀ k, K' ≤ k → leastN p k lo hi = some r := by
  obtain ⟨r, r0, r1, r2, r3, r4⟩ := leastN_spec b0 b1 hp mono _ lo hi (Nat.le_refl _) (Int.le_refl _) (Int.le_refl _) (by omega) (fun t h h' => absurd h' (by omega)) (fun t h h' => absurd h' (by omega))
  exact ⟨r, _, r0, r1, r2, r3, fun k hk => r4 k hk⟩

theorem Steady_ok {z0 z1 o h d : Int} (hz : Zok z0 z1) (ho : Tok o) (hh : Hok h) (hd : Dok d) :
    ∃ lo hi K, IsSteady (nx z0 z1 o h d) lo hi ∧ ∀ k, K ≤ k → thermal_Steady.f k z0 z1 o h d = some (lo, hi, 0) := by
  obtain ⟨r, K1, r0, r1, r2, r3, r4⟩ := leastN_at (p := fun _ t => (thermal_change.f z0 z1 t o h d).bind (fun c => some (decide (c ≤ 0)))) (q := fun t => decide (chg z0 z1 o h d t ≤ 0)) (lo := -1000000) (hi := 1000000) (K := 0) (by omega) (by omega) (by omega)
    (fun k _ t h1 h2 => by rw [change_f hz ho hh hd ⟨h1, h2⟩]; rfl)
    (fun t u _ h1 _ h2 => decide_eq_true (by have := of_decide_eq_true h2; have := (chg_t (o := o) (h := h) (z1 := z1) hz hd h1).1; omega))
  obtain ⟨s, K2, s0, s1, s2, s3, s4⟩ := leastN_at (p := fun _ t => (thermal_change.f z0 z1 t o h d).bind (fun c => some (decide (c < 0)))) (q := fun t => decide (chg z0 z1 o h d t < 0)) (lo := -1000000) (hi := 1000000) (K := 0) (by omega) (by omega) (by omega)
    (fun k _ t h1 h2 => by rw [change_f hz ho hh hd ⟨h1, h2⟩]; rfl)
    (fun t u _ h1 _ h2 => decide_eq_true (by have := of_decide_eq_true h2; have := (chg_t (o := o) (h := h) (z1 := z1) hz hd h1).1; omega))
  refine ⟨mn r 1000000, mx (s - 1) (-1000000), K1 + K2 + 6, ?_, fun k hk => ?_⟩
  · have ht : Tok (mn r 1000000) := by unfold mn Tok; split <;> omega
    have hs : Tok (mx (s - 1) (-1000000)) := by unfold mx Tok; split <;> omega
    refine ⟨ht, hs, ?_, fun t ht' hlt => ?_, ?_, fun t ht' hlt => ?_⟩
    · rw [nx_le_iff ht]
      unfold mn
      split
      · exact .inr rfl
      · by_cases c : r ≤ 1000000
        · exact .inl (of_decide_eq_true (r3 r (Int.le_refl _) c))
        · exact .inr (by omega)
    · have hr : t < r := by unfold mn at hlt; split at hlt <;> omega
      have := of_decide_eq_false (r2 t ht'.1 hr)
      have ne : t ≠ 1000000 := by unfold mn at hlt; split at hlt <;> omega
      have e := (nx_le_iff (z0 := z0) (z1 := z1) (o := o) (h := h) (d := d) ht').1
      by_cases c : nx z0 z1 o h d t ≤ t
      · rcases e c with y | y <;> omega
      · omega
    · have e := (nx_ge_iff (z0 := z0) (z1 := z1) (o := o) (h := h) (d := d) hs).2
      apply e
      unfold mx
      split
      · exact .inr rfl
      · by_cases c : -1000000 ≤ s - 1
        · have := of_decide_eq_false (s2 (s - 1) c (by omega))
          exact .inl (by omega)
        · exact .inr (by omega)
    · have hr : s ≤ t := by unfold mx at hlt; split at hlt <;> omega
      have := of_decide_eq_true (s3 t hr ht'.2)
      have ne : t ≠ -1000000 := by unfold mx at hlt; split at hlt <;> omega
      have e := (nx_ge_iff (z0 := z0) (z1 := z1) (o := o) (h := h) (d := d) ht').1
      by_cases c : t ≤ nx z0 z1 o h d t
      · rcases e c with y | y <;> omega
      · omega
  · obtain ⟨k, rfl⟩ : ∃ m, k = m + 1 := ⟨k - 1, by omega⟩
    have e1 : thermal_least34.f k (-1000000) 1000000 z0 z1 o h d = some r := r4 k (by omega)
    have e2 : thermal_least36.f k (-1000000) 1000000 z0 z1 o h d = some s := s4 k (by omega)
    have e3 : wrap64 (s - 1) = s - 1 := w64 (by omega) (by omega)
    simp [thermal_Steady.f, chk_ok hz, temps1 (k + 1) (by omega), ho, heats_ok hh, lasts_ok hd, thermal_Steady.j0, e1, e2, e3]
theorem Steady_no {z0 z1 o h d : Int} (hn : ¬ (Zok z0 z1 ∧ Tok o ∧ Hok h ∧ Dok d)) : ∀ k, 6 ≤ k → thermal_Steady.f k z0 z1 o h d = some (0, 0, 6) := by
  intro k hk
  obtain ⟨k, rfl⟩ : ∃ m, k = m + 1 := ⟨k - 1, by omega⟩
  by_cases hz : Zok z0 z1
  · by_cases ho : Tok o
    · by_cases hh : Hok h
      · simp [thermal_Steady.f, chk_ok hz, temps1 (k + 1) (by omega), ho, heats_ok hh, lasts_no (fun hd => hn ⟨hz, ho, hh, hd⟩), thermal_Steady.j0]
      · simp [thermal_Steady.f, chk_ok hz, temps1 (k + 1) (by omega), ho, heats_no hh, thermal_Steady.j0]
    · simp [thermal_Steady.f, chk_ok hz, temps1 (k + 1) (by omega), ho, thermal_Steady.j0]
  · simp [thermal_Steady.f, chk_no hz]

/-! ### The reference's -/
theorem rSteady0 {z0 z1 o h d : Int} (hz : Zok z0 z1) (ho : Tok o) (hh : Hok h) (hd : Dok d) : ∀ (n : Nat) (a b : Int), (b - a).toNat ≤ n → -1000000 ≤ a → b ≤ 1000000 → a ≤ b →
    (∀ t, -1000000 ≤ t → t < a → t < nx z0 z1 o h d t) → nx z0 z1 o h d b ≤ b →
    ∃ r, a ≤ r ∧ r ≤ b ∧ (∀ t, -1000000 ≤ t → t < r → t < nx z0 z1 o h d t) ∧ nx z0 z1 o h d r ≤ r ∧ ∀ k, n < k → ∃ k', k ≤ k' + n + 1 ∧ plenumref35_Steady.l0 k o h d a b z0 z1 = plenumref35_Steady.l1 k' o h d r (-1000000) 1000000 z0 z1
  | n, a, b, hn, ha, hb, hab, h0, h1 => by
    by_cases c : a < b
    · have hm : a ≤ a + (b - a) / 2 ∧ a + (b - a) / 2 < b := by omega
      obtain ⟨n, rfl⟩ : ∃ m, n = m + 1 := ⟨n - 1, by omega⟩
      have hstep : ∀ k, plenumref35_Steady.l0 (k + 1) o h d a b z0 z1 = (if nx z0 z1 o h d (a + (b - a) / 2) ≤ a + (b - a) / 2 then plenumref35_Steady.l0 k o h d a (a + (b - a) / 2) z0 z1 else plenumref35_Steady.l0 k o h d (a + (b - a) / 2 + 1) b z0 z1) := by
        intro k
        conv => lhs; unfold plenumref35_Steady.l0
        rw [if_pos c, mid_w (by omega) (by omega) (by omega), next_f hz ho hh hd ⟨by omega, by omega⟩]
        simp only [Option.bind_some]
        rw [w64 (x := a + (b - a) / 2 + 1) (by omega) (by omega)]
      by_cases hq : nx z0 z1 o h d (a + (b - a) / 2) ≤ a + (b - a) / 2
      · obtain ⟨r, r0, r1, r2, r3, r4⟩ := rSteady0 hz ho hh hd n a (a + (b - a) / 2) (by omega) ha (by omega) (by omega) h0 hq
        refine ⟨r, r0, by omega, r2, r3, fun k hk => ?_⟩
        obtain ⟨k, rfl⟩ : ∃ m, k = m + 1 := ⟨k - 1, by omega⟩
        obtain ⟨k', e1, e2⟩ := r4 k (by omega)
        exact ⟨k', by omega, by rw [hstep, if_pos hq, e2]⟩
      · obtain ⟨r, r0, r1, r2, r3, r4⟩ := rSteady0 hz ho hh hd n (a + (b - a) / 2 + 1) b (by omega) (by omega) hb (by omega) (fun t ht ht' => by
          have e := nx_le_iff (z0 := z0) (z1 := z1) (o := o) (h := h) (d := d) (t := a + (b - a) / 2) ⟨by omega, by omega⟩
          have e' := nx_le_iff (z0 := z0) (z1 := z1) (o := o) (h := h) (d := d) (t := t) ⟨by omega, by omega⟩
          have e2 := (chg_t (o := o) (h := h) (z1 := z1) hz hd (show t ≤ a + (b - a) / 2 by omega)).1
          have e3 : ¬ nx z0 z1 o h d t ≤ t := fun x => hq (e.2 (by rcases e'.1 x with y | y <;> omega))
          omega) h1
        refine ⟨r, by omega, by omega, r2, r3, fun k hk => ?_⟩
        obtain ⟨k, rfl⟩ : ∃ m, k = m + 1 := ⟨k - 1, by omega⟩
        obtain ⟨k', e1, e2⟩ := r4 k (by omega)
        exact ⟨k', by omega, by rw [hstep, if_neg hq, e2]⟩
    · obtain rfl : a = b := by omega
      refine ⟨a, Int.le_refl _, Int.le_refl _, h0, h1, fun k hk => ?_⟩
      obtain ⟨k, rfl⟩ : ∃ m, k = m + 1 := ⟨k - 1, by omega⟩
      refine ⟨k, by omega, ?_⟩
      conv => lhs; unfold plenumref35_Steady.l0
      rw [if_neg c]
theorem rSteady1 {z0 z1 o h d : Int} (hz : Zok z0 z1) (ho : Tok o) (hh : Hok h) (hd : Dok d) (lo : Int) : ∀ (n : Nat) (a b : Int), (b - a).toNat ≤ n → -1000000 ≤ a → b ≤ 1000000 → a ≤ b →
    (∀ t, b < t → t ≤ 1000000 → nx z0 z1 o h d t < t) → a ≤ nx z0 z1 o h d a →
    ∃ r, a ≤ r ∧ r ≤ b ∧ (∀ t, r < t → t ≤ 1000000 → nx z0 z1 o h d t < t) ∧ r ≤ nx z0 z1 o h d r ∧ ∀ k, n < k → plenumref35_Steady.l1 k o h d lo a b z0 z1 = some (lo, r, 0)
  | n, a, b, hn, ha, hb, hab, h0, h1 => by
    by_cases c : a < b
    · have hm : a < b - (b - a) / 2 ∧ b - (b - a) / 2 ≤ b := by omega
      obtain ⟨n, rfl⟩ : ∃ m, n = m + 1 := ⟨n - 1, by omega⟩
      have hstep : ∀ k, plenumref35_Steady.l1 (k + 1) o h d lo a b z0 z1 = (if nx z0 z1 o h d (b - (b - a) / 2) ≥ b - (b - a) / 2 then plenumref35_Steady.l1 k o h d lo (b - (b - a) / 2) b z0 z1 else plenumref35_Steady.l1 k o h d lo a (b - (b - a) / 2 - 1) z0 z1) := by
        intro k
        conv => lhs; unfold plenumref35_Steady.l1
        rw [if_pos c, mid_u (by omega) (by omega) (by omega), next_f hz ho hh hd ⟨by omega, by omega⟩]
        simp only [Option.bind_some]
        rw [w64 (x := b - (b - a) / 2 - 1) (by omega) (by omega)]
      by_cases hq : nx z0 z1 o h d (b - (b - a) / 2) ≥ b - (b - a) / 2
      · obtain ⟨r, r0, r1, r2, r3, r4⟩ := rSteady1 hz ho hh hd lo n (b - (b - a) / 2) b (by omega) (by omega) (by omega) (by omega) h0 hq
        refine ⟨r, by omega, by omega, r2, r3, fun k hk => ?_⟩
        obtain ⟨k, rfl⟩ : ∃ m, k = m + 1 := ⟨k - 1, by omega⟩
        rw [hstep, if_pos hq, r4 k (by omega)]
      · obtain ⟨r, r0, r1, r2, r3, r4⟩ := rSteady1 hz ho hh hd lo n a (b - (b - a) / 2 - 1) (by omega) (by omega) (by omega) (by omega) (fun t ht ht' => by
          have e := nx_ge_iff (z0 := z0) (z1 := z1) (o := o) (h := h) (d := d) (t := b - (b - a) / 2) ⟨by omega, by omega⟩
          have e' := nx_ge_iff (z0 := z0) (z1 := z1) (o := o) (h := h) (d := d) (t := t) ⟨by omega, by omega⟩
          have e2 := (chg_t (o := o) (h := h) (z1 := z1) hz hd (show b - (b - a) / 2 ≤ t by omega)).1
          have e3 : ¬ t ≤ nx z0 z1 o h d t := fun x => hq (e.2 (by rcases e'.1 x with y | y <;> omega))
          omega) h1
        refine ⟨r, by omega, by omega, r2, r3, fun k hk => ?_⟩
        obtain ⟨k, rfl⟩ : ∃ m, k = m + 1 := ⟨k - 1, by omega⟩
        rw [hstep, if_neg hq, r4 k (by omega)]
    · obtain rfl : a = b := by omega
      refine ⟨a, Int.le_refl _, Int.le_refl _, h0, h1, fun k hk => ?_⟩
      obtain ⟨k, rfl⟩ : ∃ m, k = m + 1 := ⟨k - 1, by omega⟩
      unfold plenumref35_Steady.l1
      rw [if_neg c]
theorem rSteady_ok {z0 z1 o h d : Int} (hz : Zok z0 z1) (ho : Tok o) (hh : Hok h) (hd : Dok d) :
    ∃ lo hi K, IsSteady (nx z0 z1 o h d) lo hi ∧ ∀ k, K ≤ k → plenumref35_Steady.f k z0 z1 o h d = some (lo, hi, 0) := by
  obtain ⟨r, r0, r1, r2, r3, r4⟩ := rSteady0 hz ho hh hd 2000000 (-1000000) 1000000 (by omega) (by omega) (by omega) (by omega) (fun t h1 h2 => absurd h2 (by omega)) (nx_Tok _ _ _ _ _ _).2
  obtain ⟨s, s0, s1, s2, s3, s4⟩ := rSteady1 hz ho hh hd r 2000000 (-1000000) 1000000 (by omega) (by omega) (by omega) (by omega) (fun t h1 h2 => absurd h2 (by omega)) (nx_Tok _ _ _ _ _ _).1
  refine ⟨r, s, 4000010, ⟨⟨r0, r1⟩, ⟨s0, s1⟩, r3, fun t ht hl => r2 t ht.1 hl, s3, fun t ht hl => s2 t hl ht.2⟩, fun k hk => ?_⟩
  obtain ⟨k, rfl⟩ : ∃ m, k = m + 1 := ⟨k - 1, by omega⟩
  obtain ⟨k', e1, e2⟩ := r4 k (by omega)
  simp [plenumref35_Steady.f, rchk, chk_ok hz, rtemp_ok ho, rheat, heats_ok hh, rtime, lasts_ok hd, plenumref35_Steady.j0, e2, s4 k' (by omega)]
theorem rSteady_no {z0 z1 o h d : Int} (hn : ¬ (Zok z0 z1 ∧ Tok o ∧ Hok h ∧ Dok d)) : ∀ k, 6 ≤ k → plenumref35_Steady.f k z0 z1 o h d = some (0, 0, 6) := by
  intro k hk
  obtain ⟨k, rfl⟩ : ∃ m, k = m + 1 := ⟨k - 1, by omega⟩
  by_cases hz : Zok z0 z1
  · by_cases ho : Tok o
    · by_cases hh : Hok h
      · simp [plenumref35_Steady.f, rchk, rheat, rtime, chk_ok hz, rtemp_ok ho, heats_ok hh, lasts_no (fun hd => hn ⟨hz, ho, hh, hd⟩), plenumref35_Steady.j0]
      · simp [plenumref35_Steady.f, rchk, rheat, rtime, chk_ok hz, rtemp_ok ho, heats_no hh, plenumref35_Steady.j0]
    · simp [plenumref35_Steady.f, rchk, chk_ok hz, rtemp_no ho, plenumref35_Steady.j0]
  · simp [plenumref35_Steady.f, rchk, chk_no hz, plenumref35_Steady.j0]
end Go.Proofs.Ythlokfpboinmpaa.M
