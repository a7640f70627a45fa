import Derived.Test.YteigdhpchkkloaaDoorPTx29
import Derived.Test.YteigdhpchkkloaaDoorCtl
namespace Go.Proofs.YteigdhpchkkloaaDoor.Pure
open Go.RowKit Go.Proofs.YteigdhpchkkloaaDoor.PT Go.Proofs.YteigdhpchkkloaaDoorW.PrintWords Go.Proofs.YteigdhpchkkloaaDoorW.PrintLast Go.Proofs.YteigdhpchkkloaaDoorW.PrintMore
set_option linter.unusedVariables false
set_option linter.unusedSimpArgs false
theorem nsum_bd {ti low high p s r dt : Int} (h : low ≤ high) : low - p ≤ nsum ti low high p s r dt ∧ nsum ti low high p s r dt ≤ high - p := by
  unfold nsum
  generalize s + Int.tdiv (p * dt + r) ti = z
  unfold mx mn
  repeat (first | omega | split)
theorem nrest_bd {ti low high p s r dt : Int} (h : 0 < ti) : -ti < nrest ti low high p s r dt ∧ nrest ti low high p s r dt < ti := by
  have := tmod_lt (n := p * dt + r) h
  unfold nrest
  split <;> omega
theorem nsum_out {ti low high p s r dt : Int} (h : low ≤ high) : p + nsum ti low high p s r dt = mx low (mn high (s + p + Int.tdiv (p * dt + r) ti)) := by
  unfold nsum
  generalize Int.tdiv (p * dt + r) ti = z
  unfold mx mn
  repeat (first | omega | split)
/-- From the i-th scan on. -/
theorem vel_loop {l1 l2 : List Int} {dt k0 k1 k2 k3 : Int} (k4 : Bool) (hl : l1.length ≤ 40) (hll : l2.length = l1.length) (hti : k1 ≠ 0) : ∀ (m : Nat) (i last before x1 x2 : Int) (x0 : Bool), 0 ≤ i → i + m = l1.length →
    (i = 0 → x0 = false ∧ x1 = 0 ∧ x2 = 0) → (i ≠ 0 → x0 = true ∧ Vs k0 k1 k2 k3 ∧ (1 ≤ dt ∧ dt ≤ 86400) ∧ last - before = x1 ∧ inR last ∧ inR before ∧ (-2000000000000 ≤ x1 ∧ x1 ≤ 2000000000000) ∧ -86400 ≤ x2 ∧ x2 ≤ 86400) →
    Ev (fun k => plenumlaw20_PidVelocity.l0 k l1 l2 dt last before i k0 k1 k2 k3 k4 k0 k1 k2 k3 k4 x0 x1 x2) true
  | 0, i, last, before, x1, x2, x0, hi, him, _, _ => by
    refine evs (f := fun k => some true) (fun k => ?_) (Ev.now _)
    simp only [plenumlaw20_PidVelocity.l0]
    rw [if_neg (by omega)]
    rfl
  | m + 1, i, last, before, x1, x2, x0, hi, him, hz, hnz => by
    obtain ⟨p, hp, hpR, _⟩ := prop_in k0 k1 k2 k3 k4 (rd l1 i) (rd l2 i)
    have hx1 : -2000000000000 ≤ x1 ∧ x1 ≤ 2000000000000 := by
      by_cases c : i = 0
      · obtain ⟨_, h1, _⟩ := hz c; omega
      · exact (hnz c).2.2.2.2.2.2.1
    have hx2 : -86400 ≤ x2 ∧ x2 ≤ 86400 := by
      by_cases c : i = 0
      · obtain ⟨_, _, h1⟩ := hz c; omega
      · exact (hnz c).2.2.2.2.2.2.2
    refine evu ?_
    simp only [plenumlaw20_PidVelocity.l0, if_pos (show i < (l1.length : Int) by omega), if_pos hi, if_pos (show i < (l2.length : Int) by omega)]
    refine Ev.bind hp ?_
    by_cases hok : Vs k0 k1 k2 k3 ∧ 1 ≤ dt ∧ dt ≤ 86400
    · obtain ⟨hV, hd⟩ := hok
      have hVV := hV
      simp only [Vs, inR] at hVV hpR
      have hc := control_ev (x0 := x0) (x1 := x1) (x2 := x2) k4 hV hti hx1 hx2 hd hp (by unfold inR; omega)
      refine Ev.bind hc ?_
      simp only [if_true]
      have hpd : -86400000000000000 ≤ p * dt ∧ p * dt ≤ 86400000000000000 := by
        have e1 : (-1000000000000) * dt ≤ p * dt := Int.mul_le_mul_of_nonneg_right (by omega) (by omega)
        have e2 : p * dt ≤ 1000000000000 * dt := Int.mul_le_mul_of_nonneg_right (by omega) (by omega)
        omega
      obtain ⟨s, hs⟩ : ∃ s, sm x0 x1 k2 p = s := ⟨_, rfl⟩
      obtain ⟨r, hr⟩ : ∃ r, rs x0 x2 = r := ⟨_, rfl⟩
      rw [hs, hr]
      have hS := nsum_bd (ti := k1) (p := p) (s := s) (r := r) (dt := dt) (show k2 ≤ k3 by omega)
      have hR := nrest_bd (ti := k1) (low := k2) (high := k3) (p := p) (s := s) (r := r) (dt := dt) (by omega)
      have hO := nsum_out (ti := k1) (p := p) (s := s) (r := r) (dt := dt) (show k2 ≤ k3 by omega)
      obtain ⟨S, hSe⟩ : ∃ S, nsum k1 k2 k3 p s r dt = S := ⟨_, rfl⟩
      obtain ⟨T, hTe⟩ : ∃ T, nrest k1 k2 k3 p s r dt = T := ⟨_, rfl⟩
      rw [hSe] at hS hO
      rw [hTe] at hR
      rw [hSe, hTe]
      have hrb : -86400 ≤ r ∧ r ≤ 86400 := by rw [← hr]; unfold rs; split <;> omega
      have hsb : -2000000000000 ≤ s ∧ s ≤ 2000000000000 := by rw [← hs]; unfold sm; split <;> omega
      have hq := tdiv_le (n := p * dt + r) (c := k1) (by omega)
      have hO2 : k2 ≤ p + S ∧ p + S ≤ k3 := by omega
      have ih := vel_loop (l1 := l1) (l2 := l2) (dt := dt) (k0 := k0) (k1 := k1) (k2 := k2) (k3 := k3) k4 hl hll hti m (i + 1) (p + S) p S T true (by omega) (by omega) (fun h => by omega) (fun _ => ⟨rfl, hV, hd, by omega, ⟨by omega, by omega⟩, ⟨by omega, by omega⟩, by omega, by omega, by omega⟩)
      have j4 : ∀ y0 y1 y2 : Int, Ev (fun k => plenumlaw20_PidVelocity.j4 k l1 l2 dt i p (p + S) ((p + S) != (wrap64 (p + S))) k0 k1 k2 k3 k4 k0 k1 k2 k3 k4 true S T) true := fun _ _ _ => by
        rw [w64s (x := p + S) (by omega) (by omega), show ((p + S) != (p + S)) = false by simp]
        refine evs (f := fun k => plenumlaw20_PidVelocity.l0 k l1 l2 dt (p + S) p (wrap64 (i + 1)) k0 k1 k2 k3 k4 k0 k1 k2 k3 k4 true S T) (fun k => rfl) ?_
        rw [w64s (x := i + 1) (by omega) (by omega)]
        exact ih
      have j3 : ∀ (la be : Int) (z0 : Bool) (z1 : Int), la - be = s → inR la → inR be → Ev (fun k => plenumlaw20_PidVelocity.j3 k l1 l2 dt la be i p (p + S) k0 k1 k2 k3 k4 k0 k1 k2 k3 k4 z0 z1 r true S T) true := fun la be z0 z1 hlb hla hbe => by
        simp only [inR] at hla hbe
        refine evu ?_
        simp only [plenumlaw20_PidVelocity.j3, if_neg hti]
        rw [w64s (x := la + p) (by omega) (by omega), w64s (x := la + p - be) (by omega) (by omega), w64s (x := p * dt) (by omega) (by omega), w64s (x := p * dt + r) (by omega) (by omega), w64s (x := Int.tdiv (p * dt + r) k1) (by omega) (by omega), w64s (x := la + p - be + Int.tdiv (p * dt + r) k1) (by omega) (by omega)]
        have e : p + S = mx k2 (mn k3 (la + p - be + Int.tdiv (p * dt + r) k1)) := by
          rw [hO, show la + p - be + Int.tdiv (p * dt + r) k1 = s + p + Int.tdiv (p * dt + r) k1 by omega]
        simp only [if_pos e, if_true]
        exact j4 0 0 0
      by_cases c : i = 0
      · simp only [if_pos c]
        obtain ⟨h0, h1, h2⟩ := hz c
        subst h0 h1 h2
        have e1 : r = 0 := hr.symm
        have e2 : s = k2 - p := hs.symm
        have := j3 k2 p false 0 (by omega) ⟨by omega, by omega⟩ ⟨by omega, by omega⟩
        rw [e1] at this
        exact this
      · simp only [if_neg c]
        obtain ⟨h0, _, _, h3, h4, h5, _⟩ := hnz c
        subst h0
        have e1 : r = x2 := hr.symm
        have e2 : s = x1 := hs.symm
        have := j3 last before true x1 (by omega) h4 h5
        rw [e1] at this
        exact this
    · have hc := control_no (k0 := k0) (k1 := k1) (k2 := k2) (k3 := k3) (x0 := x0) (x1 := x1) (x2 := x2) (set := rd l1 i) (now := rd l2 i) (dt := dt) k4 (fun h => hok ⟨h.1, h.2.2⟩)
      refine Ev.bind hc ?_
      have hi0 : i = 0 := by
        by_cases c : i = 0
        · exact c
        · exact absurd ⟨(hnz c).2.1, (hnz c).2.2.1⟩ hok
      simp only [show ¬ ((1 : Int) = 0) by omega, if_false, plenumlaw20_awake.f, Option.bind_some, if_true]
      rw [hi0]
      exact evs (f := fun k => some _) (fun k => rfl) (Ev.now _)
/-- No windup: the output is the one before it plus the changes, limited. -/
theorem PidVelocity : plenumlaw20_PidVelocity.Pure := by
  intro k0 k1 k2 k3 k4 l1 l2 dt
  intros
  refine Ev.rounds (g := fun k => plenumlaw20_PidVelocity.f k k0 k1 k2 k3 k4 l1 l2 dt) ?_
  have ht : Ev (fun k => plenumlaw20_PidVelocity.j0 k l1 l2 dt true k0 k1 k2 k3 k4) true := evs (f := fun k => some true) (fun k => rfl) (Ev.now _)
  unfold plenumlaw20_PidVelocity.f
  by_cases c1 : (l1.length : Int) > 40
  · simp only [if_pos c1]; exact ht
  simp only [if_neg c1]
  by_cases c2 : (l2.length : Int) = (l1.length : Int)
  · simp only [if_pos c2]
    by_cases c3 : k1 = 0
    · rw [show (k1 == 0) = true by simpa using c3]
      exact ht
    · rw [show (k1 == 0) = false by simpa using c3]
      exact evs (f := fun k => plenumlaw20_PidVelocity.l0 k l1 l2 dt 0 0 0 k0 k1 k2 k3 k4 k0 k1 k2 k3 k4 false 0 0) (fun k => rfl) (vel_loop k4 (by omega) (by omega) c3 l1.length 0 0 0 0 0 false (by omega) (by omega) (fun _ => ⟨rfl, rfl, rfl⟩) (fun h => absurd rfl h))
  · simp only [if_neg c2]; exact ht
end Go.Proofs.YteigdhpchkkloaaDoor.Pure
