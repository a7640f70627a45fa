-- Inverse: the least number at which the value is at least y.
import Derived.Test.YtacheoimnckghaaVal
import Derived.Test.YtacheoimnckghaaPTx24
namespace Go.Proofs.Ytacheoimnckghaa.Pure
open Go.RowKit Go.Proofs.Ytacheoimnckghaa.PT Go.Proofs.YtacheoimnckghaaW.PrintWords Go.Proofs.YtacheoimnckghaaW.PrintLast Go.Proofs.YtacheoimnckghaaW.PrintMore
theorem mid_of {lo hi : Int} (h0 : -1000000000000 ≤ lo) (h1 : hi ≤ 1000000000000) (h : lo < hi) : ∃ m, wrap64 (lo + (wrap64 (Int.tdiv (wrap64 (hi - lo)) 2))) = m ∧ m = lo + (hi - lo) / 2 ∧ lo ≤ m ∧ m < hi := by
  refine ⟨lo + (hi - lo) / 2, ?_, rfl, by omega, by omega⟩
  rw [w64s (x := hi - lo) (by omega) (by omega), Int.tdiv_eq_ediv_of_nonneg (by omega), w64s (x := (hi - lo) / 2) (by omega) (by omega), w64s (by omega) (by omega)]
/-- What the search finds. -/
structure Least (c : List S50) (y r : Int) : Prop where
  lo : (kn c 0).f0 ≤ r
  hi : r ≤ (kn c (c.length - 1)).f0
  ge : y ≤ V c r
  lt : r = (kn c 0).f0 ∨ V c (r - 1) < y
theorem inv_loop {c : List S50} (g : Good c) (y : Int) : ∀ (n : Nat) (lo hi : Int), hi - lo ≤ n → (kn c 0).f0 ≤ lo → lo ≤ hi → hi ≤ (kn c (c.length - 1)).f0 → y ≤ V c hi → (lo = (kn c 0).f0 ∨ V c (lo - 1) < y) →
    ∃ r, Ev (fun k => curve_Inverse.l0 k c y lo hi) (r, 0) ∧ Least c y r := by
  have hpos := g.pos
  obtain ⟨a0, a1, _, _⟩ := g.ok 0 hpos
  obtain ⟨b0, b1, _, _⟩ := g.ok (c.length - 1) (by omega)
  intro n
  induction n with
  | zero =>
    intro lo hi hn h1 h2 h3 h4 h5
    have e : lo = hi := by omega
    subst e
    refine ⟨lo, evs (f := fun k => some (lo, 0)) (fun k => ?_) (Ev.now _), ⟨h1, h3, h4, h5⟩⟩
    simp only [curve_Inverse.l0]
    rw [if_neg (by omega)]
  | succ n ih =>
    intro lo hi hn h1 h2 h3 h4 h5
    by_cases hlt : lo < hi
    · obtain ⟨m, hm, hme, hm0, hm1⟩ := mid_of (by omega) (by omega) hlt
      by_cases hv : V c m ≥ y
      · obtain ⟨r, hr, hl⟩ := ih lo m (by omega) h1 hm0 (by omega) hv h5
        refine ⟨r, evs (f := fun k => (curve_value.f k c m).bind fun t => if t ≥ y then curve_Inverse.l0 k c y lo m else curve_Inverse.l0 k c y (wrap64 (m + 1)) hi) (fun k => ?_) (Ev.bind (value_ev c g m) ?_), hl⟩
        · simp only [curve_Inverse.l0]
          rw [if_pos hlt, hm]
        · simp only [hv, if_true]
          exact hr
      · obtain ⟨r, hr, hl⟩ := ih (m + 1) hi (by omega) (by omega) (by omega) h3 h4 (.inr (by rw [Int.add_sub_cancel]; omega))
        refine ⟨r, evs (f := fun k => (curve_value.f k c m).bind fun t => if t ≥ y then curve_Inverse.l0 k c y lo m else curve_Inverse.l0 k c y (wrap64 (m + 1)) hi) (fun k => ?_) (Ev.bind (value_ev c g m) ?_), hl⟩
        · simp only [curve_Inverse.l0]
          rw [if_pos hlt, hm]
        · simp only [hv, if_false]
          rw [w64s (by omega) (by omega)]
          exact hr
    · have e : lo = hi := by omega
      subst e
      refine ⟨lo, evs (f := fun k => some (lo, 0)) (fun k => ?_) (Ev.now _), ⟨h1, h3, h4, h5⟩⟩
      simp only [curve_Inverse.l0]
      rw [if_neg (by omega)]
theorem V_lastG {c : List S50} (g : Good c) : V c (kn c (c.length - 1)).f0 = (kn c (c.length - 1)).f1 := by
  obtain ⟨a, l, rfl, hi⟩ := g.chain
  simp only [List.length_cons, Nat.add_sub_cancel]
  rw [V_cons]
  split
  · rename_i h
    have := inc_le l a hi 0 l.length (by omega)
    rw [Nat.zero_add, kn_zero] at this
    have hl : l = [] := List.eq_nil_of_length_eq_zero (by omega)
    subst hl
    rfl
  · exact Vr_last l a _ hi (Int.le_refl _)
theorem inverse_bad {c : List S50} (g : ¬ Good c) (y : Int) : Ev (fun k => curve_Inverse.f k c y) (0, chk c) := by
  unfold curve_Inverse.f
  refine Ev.bind (check_ev c) ?_
  simp only [chk_ne g, if_false]
  exact Ev.now _
theorem inverse_good {c : List S50} (g : Good c) (y : Int) : ∃ x e, Ev (fun k => curve_Inverse.f k c y) (x, e) ∧
    ((e ≠ 0 ∧ x = 0 ∧ ((e = 8 ∧ dir c ≠ 0 ∧ dir c ≠ 1) ∨ (e = 9 ∧ (dir c = 0 ∨ dir c = 1) ∧ y > (kn c (c.length - 1)).f1))) ∨ (e = 0 ∧ (dir c = 0 ∨ dir c = 1) ∧ y ≤ (kn c (c.length - 1)).f1 ∧ Least c y x)) := by
  have hpos := g.pos
  have hle := g.le
  have hc := check_ev c
  rw [(chk_good c).2 g] at hc
  have hf : ∀ x e, Ev (fun k => curve_Inverse.j0 k c y (decide (dir c ≠ 0 ∧ dir c ≠ 1))) (x, e) → Ev (fun k => curve_Inverse.f k c y) (x, e) := fun x e h => by
    unfold curve_Inverse.f
    refine Ev.bind hc ?_
    simp only [if_true]
    refine Ev.bind (direction_ev c g) ?_
    by_cases h0 : dir c = 0
    · simp only [h0, if_true]
      simpa [h0] using h
    · simp only [h0, if_false]
      have e : (dir c != 1) = decide (dir c ≠ 0 ∧ dir c ≠ 1) := by
        by_cases h1 : dir c = 1 <;> simp [h0, h1]
      rw [e]
      exact h
  have hw1 : wrap64 ((c.length : Int) - 1) = ((c.length - 1 : Nat) : Int) := by rw [w64s (by omega) (by omega)]; omega
  have h00 : rd_T50 c 0 = kn c 0 := rd_kn c 0
  by_cases hd : dir c ≠ 0 ∧ dir c ≠ 1
  · refine ⟨0, 8, hf 0 8 ?_, .inl ⟨by decide, rfl, .inl ⟨rfl, hd.1, hd.2⟩⟩⟩
    rw [decide_eq_true hd]
    exact evs (f := fun k => some (0, 8)) (fun k => by simp [curve_Inverse.j0]) (Ev.now _)
  · have hd' : dir c = 0 ∨ dir c = 1 := by omega
    by_cases hy : y > (kn c (c.length - 1)).f1
    · refine ⟨0, 9, hf 0 9 ?_, .inl ⟨by decide, rfl, .inr ⟨rfl, hd', hy⟩⟩⟩
      rw [decide_eq_false hd]
      refine evs (f := fun k => some (0, 9)) (fun k => ?_) (Ev.now _)
      simp only [curve_Inverse.j0]
      rw [if_neg (by decide), if_pos (by omega), hw1, if_pos (by omega), if_pos (by omega), rd_kn, if_pos hy]
    · have hm := g.mono 0 (c.length - 1) (by omega) (by omega)
      obtain ⟨r, hr, hl⟩ := inv_loop g y ((kn c (c.length - 1)).f0 - (kn c 0).f0).toNat (kn c 0).f0 (kn c (c.length - 1)).f0 (by omega) (Int.le_refl _) hm (Int.le_refl _) (by rw [V_lastG g]; omega) (.inl rfl)
      refine ⟨r, 0, hf r 0 ?_, .inr ⟨rfl, hd', by omega, hl⟩⟩
      rw [decide_eq_false hd]
      refine evs (fun k => ?_) hr
      simp only [curve_Inverse.j0]
      rw [if_neg (by decide), if_pos (by omega), hw1, if_pos (by omega), if_pos (by omega), rd_kn, if_neg hy, h00]
end Go.Proofs.Ytacheoimnckghaa.Pure
