import Derived.Test.YteigdhpchkkloaaDoorPTx35
import Derived.Test.YteigdhpchkkloaaDoorLim
namespace Go.Proofs.YteigdhpchkkloaaDoor.Pure
open Go.RowKit Go.Proofs.YteigdhpchkkloaaDoor.PT Go.Proofs.YteigdhpchkkloaaDoorW.PrintWords Go.Proofs.YteigdhpchkkloaaDoorW.PrintLast Go.Proofs.YteigdhpchkkloaaDoorW.PrintMore
set_option linter.unusedVariables false
set_option linter.unusedSimpArgs false
theorem evu {α : Type} {g : Nat → Option α} {r : α} (h : Ev (fun k => g (k + 1)) r) : Ev g r := Ev.step (fun _ => rfl) h
theorem end_loop {a0 a1 a2 a3 a4 n : Int} : Ev (fun k => plenumlaw20_PidSettles.l0 k a0 a1 a2 a3 a4 n a1 n) true := by
  refine evs (f := fun k => some true) (fun k => ?_) (Ev.now _)
  simp only [plenumlaw20_PidSettles.l0]
  rw [if_neg (by omega)]
  simp [plenumlaw20_awake.f]
/-- Up: from the i-th scan on. -/
theorem up_loop {a0 a1 a2 a3 a4 n : Int} (h : Pc a0 a1 a2 a3 a4) (hlt : a0 < a1) (hn : n ≤ 60) (hS : 0 < a2 * a4) (hiff : ∀ i : Int, i < n ↔ i * (a2 * a4) < a1 - a0) : ∀ (m : Nat) (i x : Int), 0 ≤ i → i + m = n → (0 < m → x = a0 + i * (a2 * a4) ∧ x < a1) → (m = 0 → x = a1) →
    Ev (fun k => plenumlaw20_PidSettles.l0 k a0 a1 a2 a3 a4 n x i) true
  | 0, i, x, hi, him, _, hx => by
    have hx := hx rfl
    obtain rfl : i = n := by omega
    rw [hx]
    exact end_loop
  | m + 1, i, x, hi, him, hx, _ => by
    obtain ⟨hx, hx1⟩ := hx (by omega)
    have hU := paceb (a := a2) (b := a4) h.2.2.1 h.2.2.2.1 h.2.2.2.2.2.2.1 h.2.2.2.2.2.2.2
    have hD := paceb (a := a3) (b := a4) h.2.2.2.2.1 h.2.2.2.2.2.1 h.2.2.2.2.2.2.1 h.2.2.2.2.2.2.2
    have hi0 : 0 ≤ i * (a2 * a4) := Int.mul_nonneg hi (by omega)
    have hi1 : (i + 1) * (a2 * a4) = i * (a2 * a4) + a2 * a4 := by rw [Int.add_mul, Int.one_mul]
    have hnx := hiff (i + 1)
    rw [hi1] at hnx
    have hb : -1000000000000 ≤ a0 ∧ a0 ≤ 1000000000000 ∧ -1000000000000 ≤ a1 ∧ a1 ≤ 1000000000000 := by simp only [Pc, inR] at h; omega
    have hP : Pc x a1 a2 a3 a4 := ⟨⟨by omega, by omega⟩, h.2⟩
    have hlim := limit_ev hP
    obtain ⟨y, hy⟩ : ∃ y, y = mx (x - a3 * a4) (mn (x + a2 * a4) a1) := ⟨_, rfl⟩
    have hy1 : y = min (x + a2 * a4) a1 := by rw [hy]; unfold mx mn; repeat (first | omega | split)
    rw [← hy] at hlim
    clear hy
    have ih := up_loop h hlt hn hS hiff m (i + 1) y (by omega) (by omega) (fun hm => by rw [hi1]; omega) (fun hm => by omega)
    refine evu ?_
    simp only [plenumlaw20_PidSettles.l0, if_pos (show i < n by omega), if_neg (show ¬ x = a1 by omega)]
    refine Ev.bind hlim ?_
    rw [w64s (x := y - x) (by omega) (by omega), w64s (x := x - y) (by omega) (by omega), w64s (x := i + 1) (by omega) (by omega), w64s (x := a2 * a4) (by omega) (by omega), w64s (x := a3 * a4) (by omega) (by omega)]
    simp only [show ¬ y - x > a2 * a4 by omega, show ¬ x - y > a3 * a4 by omega, show a1 ≥ a0 by omega, show ¬ y < x by omega, show ¬ y > a1 by omega, show ¬ a1 ≤ a0 by omega, if_true, if_false]
    exact ih
/-- Down: from the i-th scan on. -/
theorem down_loop {a0 a1 a2 a3 a4 n : Int} (h : Pc a0 a1 a2 a3 a4) (hlt : a1 < a0) (hn : n ≤ 60) (hS : 0 < a3 * a4) (hiff : ∀ i : Int, i < n ↔ i * (a3 * a4) < a0 - a1) : ∀ (m : Nat) (i x : Int), 0 ≤ i → i + m = n → (0 < m → x = a0 - i * (a3 * a4) ∧ a1 < x) → (m = 0 → x = a1) →
    Ev (fun k => plenumlaw20_PidSettles.l0 k a0 a1 a2 a3 a4 n x i) true
  | 0, i, x, hi, him, _, hx => by
    have hx := hx rfl
    obtain rfl : i = n := by omega
    rw [hx]
    exact end_loop
  | m + 1, i, x, hi, him, hx, _ => by
    obtain ⟨hx, hx1⟩ := hx (by omega)
    have hU := paceb (a := a2) (b := a4) h.2.2.1 h.2.2.2.1 h.2.2.2.2.2.2.1 h.2.2.2.2.2.2.2
    have hD := paceb (a := a3) (b := a4) h.2.2.2.2.1 h.2.2.2.2.2.1 h.2.2.2.2.2.2.1 h.2.2.2.2.2.2.2
    have hi0 : 0 ≤ i * (a3 * a4) := Int.mul_nonneg hi (by omega)
    have hi1 : (i + 1) * (a3 * a4) = i * (a3 * a4) + a3 * a4 := by rw [Int.add_mul, Int.one_mul]
    have hnx := hiff (i + 1)
    rw [hi1] at hnx
    have hb : -1000000000000 ≤ a0 ∧ a0 ≤ 1000000000000 ∧ -1000000000000 ≤ a1 ∧ a1 ≤ 1000000000000 := by simp only [Pc, inR] at h; omega
    have hP : Pc x a1 a2 a3 a4 := ⟨⟨by omega, by omega⟩, h.2⟩
    have hlim := limit_ev hP
    obtain ⟨y, hy⟩ : ∃ y, y = mx (x - a3 * a4) (mn (x + a2 * a4) a1) := ⟨_, rfl⟩
    have hy1 : y = max (x - a3 * a4) a1 := by rw [hy]; unfold mx mn; repeat (first | omega | split)
    rw [← hy] at hlim
    clear hy
    have ih := down_loop h hlt hn hS hiff m (i + 1) y (by omega) (by omega) (fun hm => by rw [hi1]; omega) (fun hm => by omega)
    refine evu ?_
    simp only [plenumlaw20_PidSettles.l0, if_pos (show i < n by omega), if_neg (show ¬ x = a1 by omega)]
    refine Ev.bind hlim ?_
    rw [w64s (x := y - x) (by omega) (by omega), w64s (x := x - y) (by omega) (by omega), w64s (x := i + 1) (by omega) (by omega), w64s (x := a2 * a4) (by omega) (by omega), w64s (x := a3 * a4) (by omega) (by omega)]
    simp only [show ¬ y - x > a2 * a4 by omega, show ¬ x - y > a3 * a4 by omega, show ¬ a1 ≥ a0 by omega, show a1 ≤ a0 by omega, show ¬ y > x by omega, show ¬ y < a1 by omega, if_true, if_false]
    exact ih
/-- A quotient that is rounded up. -/
theorem up_iff {way S : Int} (hS : 0 < S) (i : Int) : i < (way + S - 1) / S ↔ i * S < way := by
  have h := Int.le_ediv_iff_mul_le (a := i + 1) (b := way + S - 1) hS
  have e : (i + 1) * S = i * S + S := by rw [Int.add_mul, Int.one_mul]
  rw [e] at h
  omega
/-- What follows a target never passes it, and reaches it when Settle says. -/
theorem PidSettles : plenumlaw20_PidSettles.Pure := by
  intro a0 a1 a2 a3 a4 _ _ _ _ _
  refine Ev.rounds (g := fun k => plenumlaw20_PidSettles.f k a0 a1 a2 a3 a4) ?_
  unfold plenumlaw20_PidSettles.f
  have ht : ∀ n, Ev (fun k => plenumlaw20_PidSettles.j0 k a0 a1 a2 a3 a4 n true) true := fun n => evs (f := fun k => some true) (fun k => rfl) (Ev.now _)
  by_cases h : Pc a0 a1 a2 a3 a4
  · have hb : -1000000000000 ≤ a0 ∧ a0 ≤ 1000000000000 ∧ -1000000000000 ≤ a1 ∧ a1 ≤ 1000000000000 := by simp only [Pc, inR] at h; omega
    have hU := paceb (a := a2) (b := a4) h.2.2.1 h.2.2.2.1 h.2.2.2.2.2.2.1 h.2.2.2.2.2.2.2
    have hD := paceb (a := a3) (b := a4) h.2.2.2.2.1 h.2.2.2.2.2.1 h.2.2.2.2.2.2.1 h.2.2.2.2.2.2.2
    refine Ev.bind (settle_ev h) ?_
    have go : ∀ n, (n ≤ 60 → Ev (fun k => plenumlaw20_PidSettles.l0 k a0 a1 a2 a3 a4 n a0 0) true) → Ev (fun k => plenumlaw20_PidSettles.j0 k a0 a1 a2 a3 a4 n (decide (n > 60))) true := fun n hl => by
      by_cases c : n > 60
      · rw [decide_eq_true c]; exact ht n
      · rw [decide_eq_false c]
        exact evs (f := fun k => plenumlaw20_PidSettles.l0 k a0 a1 a2 a3 a4 n a0 0) (fun k => rfl) (hl (by omega))
    by_cases c : a1 - a0 < 0
    · simp only [if_pos c]
      unfold stl
      by_cases z : a3 = 0
      · simp only [if_neg (show ¬ -(a1 - a0) = 0 by omega), if_pos z, show ¬ ((9 : Int) = 0) by omega, if_false]
        exact ht _
      · simp only [if_neg (show ¬ -(a1 - a0) = 0 by omega), if_neg z, if_true]
        have hS : 0 < a3 * a4 := by
          have : a3 * a4 ≠ 0 := fun e => z (hD.2.2.1 e)
          omega
        have hiff : ∀ i : Int, i < (-(a1 - a0) + a3 * a4 - 1) / (a3 * a4) ↔ i * (a3 * a4) < a0 - a1 := fun i => by
          rw [up_iff hS i]
          omega
        have h0 := hiff 0
        rw [Int.zero_mul] at h0
        generalize (-(a1 - a0) + a3 * a4 - 1) / (a3 * a4) = n at *
        refine go n (fun hn => down_loop h (by omega) hn hS hiff n.toNat 0 a0 (by omega) (by omega) (fun _ => by rw [Int.zero_mul]; omega) (fun hm => by omega))
    · simp only [if_neg c]
      unfold stl
      by_cases z0 : a1 - a0 = 0
      · simp only [if_pos z0, if_true]
        refine go 0 (fun _ => ?_)
        have : a0 = a1 := by omega
        rw [this]
        exact end_loop
      by_cases z : a2 = 0
      · simp only [if_neg z0, if_pos z, show ¬ ((9 : Int) = 0) by omega, if_false]
        exact ht _
      · simp only [if_neg z0, if_neg z, if_true]
        have hS : 0 < a2 * a4 := by
          have : a2 * a4 ≠ 0 := fun e => z (hU.2.2.1 e)
          omega
        have hiff : ∀ i : Int, i < (a1 - a0 + a2 * a4 - 1) / (a2 * a4) ↔ i * (a2 * a4) < a1 - a0 := fun i => up_iff hS i
        have h0 := hiff 0
        rw [Int.zero_mul] at h0
        generalize (a1 - a0 + a2 * a4 - 1) / (a2 * a4) = n at *
        refine go n (fun hn => up_loop h (by omega) hn hS hiff n.toNat 0 a0 (by omega) (by omega) (fun _ => by rw [Int.zero_mul]; omega) (fun hm => by omega))
  · refine Ev.bind (settle_no h) ?_
    simp only [show ¬ ((1 : Int) = 0) by omega, if_false]
    exact ht _
end Go.Proofs.YteigdhpchkkloaaDoor.Pure
