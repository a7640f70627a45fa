-- What the reference tells of Inverse and Bounds.
import Derived.Test.YtacheoimnckghaaRefB
import Derived.Test.YtacheoimnckghaaInv
import Derived.Test.YtacheoimnckghaaBnd
import Derived.Test.YtacheoimnckghaaPTx49
import Derived.Test.YtacheoimnckghaaPTx50
namespace Go.Proofs.Ytacheoimnckghaa.Pure
open Go.RowKit Go.Proofs.Ytacheoimnckghaa.PT Go.Proofs.YtacheoimnckghaaW.PrintWords Go.Proofs.YtacheoimnckghaaW.PrintLast Go.Proofs.YtacheoimnckghaaW.PrintMore
set_option linter.unusedVariables false
set_option linter.unusedSimpArgs false
theorem rinv_loop {c : List S50} (g : Good c) (y : Int) : ∀ (n : Nat) (lo hi : Int), hi - lo ≤ n → (kn c 0).f0 ≤ lo → lo ≤ hi → hi ≤ (kn c (c.length - 1)).f0 → y ≤ V c hi → (lo = (kn c 0).f0 ∨ V c (lo - 1) < y) →
    ∃ r, Ev (fun k => plenumref03_Inverse.l0 k c y lo hi) (r, 0) ∧ Least c y r := by
  have hpos := g.pos
  obtain ⟨a0, a1, _, _⟩ := g.ok 0 hpos
  obtain ⟨b0, b1, _, _⟩ := g.ok (c.length - 1) (by omega)
  intro n
  induction n with
  | zero =>
    intro lo hi hn h1 h2 h3 h4 h5
    have e : lo = hi := by omega
    subst e
    refine ⟨lo, evs (f := fun k => some (lo, 0)) (fun k => ?_) (Ev.now _), ⟨h1, h3, h4, h5⟩⟩
    simp only [plenumref03_Inverse.l0]
    rw [if_neg (by omega)]
  | succ n ih =>
    intro lo hi hn h1 h2 h3 h4 h5
    by_cases hlt : lo < hi
    · obtain ⟨m, hm, hme, hm0, hm1⟩ := mid_of (by omega) (by omega) hlt
      by_cases hv : V c m ≥ y
      · obtain ⟨r, hr, hl⟩ := ih lo m (by omega) h1 hm0 (by omega) hv h5
        refine ⟨r, evs (f := fun k => (plenumref03_Eval.f k c m).bind fun t => if t ≥ y then plenumref03_Inverse.l0 k c y lo m else plenumref03_Inverse.l0 k c y (wrap64 (m + 1)) hi) (fun k => ?_) (Ev.bind (reval_ev g m) ?_), hl⟩
        · simp only [plenumref03_Inverse.l0]
          rw [if_pos hlt, hm]
        · simp only [hv, if_true]
          exact hr
      · obtain ⟨r, hr, hl⟩ := ih (m + 1) hi (by omega) (by omega) (by omega) h3 h4 (.inr (by rw [Int.add_sub_cancel]; omega))
        refine ⟨r, evs (f := fun k => (plenumref03_Eval.f k c m).bind fun t => if t ≥ y then plenumref03_Inverse.l0 k c y lo m else plenumref03_Inverse.l0 k c y (wrap64 (m + 1)) hi) (fun k => ?_) (Ev.bind (reval_ev g m) ?_), hl⟩
        · simp only [plenumref03_Inverse.l0]
          rw [if_pos hlt, hm]
        · simp only [hv, if_false]
          rw [w64s (by omega) (by omega)]
          exact hr
    · have e : lo = hi := by omega
      subst e
      refine ⟨lo, evs (f := fun k => some (lo, 0)) (fun k => ?_) (Ev.now _), ⟨h1, h3, h4, h5⟩⟩
      simp only [plenumref03_Inverse.l0]
      rw [if_neg (by omega)]
theorem least_one {c : List S50} (g : Good c) (hd : dir c = 0 ∨ dir c = 1) {y r r' : Int} (h : Least c y r) (h' : Least c y r') : r = r' := by
  have hn : ¬ DnAt c 0 := (dir_range c).2.1 (by omega) (by omega)
  have key : ∀ a b : Int, Least c y a → Least c y b → ¬ a < b := fun a b ha hb hlt => by
    have h1 := ha.lo
    have h2 := ha.ge
    rcases hb.lt with h3 | h3
    · omega
    · have := V_upG g hn (show a ≤ b - 1 by omega)
      omega
  have k1 := key r r' h h'
  have k2 := key r' r h' h
  omega
theorem rinverse_bad {c : List S50} (g : ¬ Good c) (y : Int) : Ev (fun k => plenumref03_Inverse.f k c y) (0, chk c) := by
  unfold plenumref03_Inverse.f
  refine Ev.bind (rcheck_ev c) ?_
  simp only [chk_ne g, if_false]
  exact Ev.now _
theorem inverse_both {c : List S50} (g : Good c) (y : Int) : ∃ x e, Ev (fun k => curve_Inverse.f k c y) (x, e) ∧ Ev (fun k => plenumref03_Inverse.f k c y) (x, e) := by
  obtain ⟨x, e, hx, h⟩ := inverse_good g y
  refine ⟨x, e, hx, ?_⟩
  have hpos := g.pos
  have hle := g.le
  have hc := rcheck_ev c
  rw [(chk_good c).2 g] at hc
  have hf : ∀ x e, Ev (fun k => plenumref03_Inverse.j0 k c y (decide (dir c ≠ 0 ∧ dir c ≠ 1))) (x, e) → Ev (fun k => plenumref03_Inverse.f k c y) (x, e) := fun x e h => by
    unfold plenumref03_Inverse.f
    refine Ev.bind hc ?_
    simp only [if_true]
    refine Ev.bind (rdir_good g) ?_
    by_cases h0 : dir c = 0
    · simp only [h0, if_true]
      simpa [h0] using h
    · simp only [h0, if_false]
      have e : (dir c != 1) = decide (dir c ≠ 0 ∧ dir c ≠ 1) := by
        by_cases h1 : dir c = 1 <;> simp [h0, h1]
      rw [e]
      exact h
  have hw1 : wrap64 ((c.length : Int) - 1) = ((c.length - 1 : Nat) : Int) := by rw [w64s (by omega) (by omega)]; omega
  have h00 : rd_T50 c 0 = kn c 0 := rd_kn c 0
  refine hf x e ?_
  rcases h with ⟨_, rfl, ⟨rfl, d0, d1⟩ | ⟨rfl, hd, hy⟩⟩ | ⟨rfl, hd, hy, hl⟩
  · rw [decide_eq_true ⟨d0, d1⟩]
    exact evs (f := fun k => some (0, 8)) (fun k => by simp [plenumref03_Inverse.j0]) (Ev.now _)
  · rw [decide_eq_false (by omega)]
    refine evs (f := fun k => some (0, 9)) (fun k => ?_) (Ev.now _)
    simp only [plenumref03_Inverse.j0]
    rw [if_neg (by decide), hw1, if_pos (by omega), if_pos (by omega), rd_kn, if_pos hy]
  · have hm := g.mono 0 (c.length - 1) (by omega) (by omega)
    obtain ⟨r, hr, hl'⟩ := rinv_loop g y ((kn c (c.length - 1)).f0 - (kn c 0).f0).toNat (kn c 0).f0 (kn c (c.length - 1)).f0 (by omega) (Int.le_refl _) hm (Int.le_refl _) (by rw [V_lastG g]; omega) (.inl rfl)
    rw [least_one g hd hl hl', decide_eq_false (by omega)]
    refine evs (fun k => ?_) hr
    simp only [plenumref03_Inverse.j0]
    rw [if_neg (by decide), hw1, if_pos (by omega), if_pos (by omega), rd_kn, if_neg (by omega), if_pos (by omega), h00]
theorem rbnd_loop (c : List S50) (lo hi : Int) (hc : c.length ≤ 40) : ∀ (B A : List S50) (u v : Int), A ++ B = c →
    Ev (fun k => plenumref03_Bounds.l0 k c lo hi (A.length : Int) u v) ((sel lo hi B).foldl mn u, (sel lo hi B).foldl mx v, 0)
  | [], A, u, v, h => by
    have hA : A = c := by simpa using h
    subst hA
    refine evs (f := fun k => some _) (fun k => ?_) (Ev.now _)
    simp only [plenumref03_Bounds.l0]
    rw [if_neg (by omega)]
    rfl
  | b :: B, A, u, v, h => by
    have hlen : c.length = A.length + 1 + B.length := by rw [← h]; simp; omega
    have hkb : kn c A.length = b := by rw [← h]; exact kn_app A b B
    have hw : wrap64 ((A.length : Int) + 1) = ((A ++ [b]).length : Int) := by rw [w64s (by omega) (by omega)]; simp
    have hAB : (A ++ [b]) ++ B = c := by rw [← h]; simp
    by_cases h0 : b.f0 ≥ lo
    · by_cases h1 : b.f0 ≤ hi
      · have e : sel lo hi (b :: B) = b.f1 :: sel lo hi B := by simp [sel, h0, h1]
        rw [e]
        refine evs (fun k => ?_) (rbnd_loop c lo hi hc B (A ++ [b]) (mn u b.f1) (mx v b.f1) hAB)
        simp only [plenumref03_Bounds.l0]
        rw [if_pos (by omega), if_pos (by omega), rd_kn, hkb, if_pos h0, if_pos h1, hw]
      · have e : sel lo hi (b :: B) = sel lo hi B := by simp [sel, h1]
        rw [e]
        refine evs (fun k => ?_) (rbnd_loop c lo hi hc B (A ++ [b]) u v hAB)
        simp only [plenumref03_Bounds.l0]
        rw [if_pos (by omega), if_pos (by omega), rd_kn, hkb, if_pos h0, if_neg h1, hw]
    · have e : sel lo hi (b :: B) = sel lo hi B := by
        simp only [sel]
        rw [if_neg (fun h => h0 h.1)]
      rw [e]
      refine evs (fun k => ?_) (rbnd_loop c lo hi hc B (A ++ [b]) u v hAB)
      simp only [plenumref03_Bounds.l0]
      rw [if_pos (by omega), if_pos (by omega), rd_kn, hkb, if_neg h0, hw]
theorem rbounds_good {c : List S50} (g : Good c) (lo hi : Int) : Ev (fun k => plenumref03_Bounds.f k c lo hi) (if lo > hi then (0, 0, 1) else ((V c hi :: sel lo hi c).foldl mn (V c lo), (V c hi :: sel lo hi c).foldl mx (V c lo), 0)) := by
  have hc := rcheck_ev c
  rw [(chk_good c).2 g] at hc
  have hle := g.le
  unfold plenumref03_Bounds.f
  refine Ev.bind hc ?_
  simp only [if_true]
  by_cases h : lo > hi
  · simp only [h, if_true]
    exact Ev.now _
  · simp only [h, if_false]
    exact Ev.bind (reval_ev g lo) (Ev.bind (reval_ev g lo) (Ev.bind (reval_ev g hi) (rbnd_loop c lo hi (by omega) c [] _ _ rfl)))
theorem rbounds_bad {c : List S50} (g : ¬ Good c) (lo hi : Int) : Ev (fun k => plenumref03_Bounds.f k c lo hi) (0, 0, chk c) := by
  unfold plenumref03_Bounds.f
  refine Ev.bind (rcheck_ev c) ?_
  simp only [chk_ne g, if_false]
  exact Ev.now _
end Go.Proofs.Ytacheoimnckghaa.Pure
