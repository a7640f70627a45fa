-- The value lies between the knots around it, and within the bounds of each span around it.
import Derived.Test.YtacheoimnckghaaBnd
import Derived.Test.YtacheoimnckghaaPTx52
namespace Go.Proofs.Ytacheoimnckghaa.Pure
open Go.RowKit Go.Proofs.Ytacheoimnckghaa.PT Go.Proofs.YtacheoimnckghaaW.PrintWords Go.Proofs.YtacheoimnckghaaW.PrintLast
theorem btw_j3 {c : List S50} (g : Good c) (x lo hi : Int) : Ev (fun k => (curve_Bounds.f k c lo hi).bind fun bt => (if bt.2.2 = 0 then (if x < lo then (some true) else (if x > hi then (some true) else (if bt.1 ≤ V c x then (some (decide (V c x ≤ bt.2.1))) else (some false)))) else (some true))) true := by
  refine Ev.bind (bounds_good g lo hi) ?_
  by_cases h : lo > hi
  · rw [if_pos h]
    simp only [show ¬ ((1 : Int) = 0) by decide, if_false]
    exact Ev.now _
  · rw [if_neg h]
    simp only [if_true]
    by_cases h1 : x < lo
    · simp only [h1, if_true]
      exact Ev.now _
    · simp only [h1, if_false]
      by_cases h2 : x > hi
      · simp only [h2, if_true]
        exact Ev.now _
      · simp only [h2, if_false]
        obtain ⟨b1, b2⟩ := bounds_hold g (show lo ≤ x by omega) (show x ≤ hi by omega)
        simp only [b1, if_true, b2, decide_true]
        exact Ev.now _
theorem btw_end {c : List S50} (g : Good c) (x lo hi : Int) : Ev (fun k => plenumlaw03_CurveBetween.l0 k c x lo hi (V c x) (c.length : Int)) true := by
  have hle := g.le
  have hpos := g.pos
  have hw1 : wrap64 ((c.length : Int) - 1) = ((c.length - 1 : Nat) : Int) := by rw [w64s (by omega) (by omega)]; omega
  have h00 : rd_T50 c 0 = kn c 0 := rd_kn c 0
  refine evs (fun k => ?_) (btw_j3 g x lo hi)
  have hright : x ≥ (kn c (c.length - 1)).f0 → V c x = (kn c (c.length - 1)).f1 := fun h => by
    have : V c x = (kn c (c.length - 1)).f1 := by
      obtain ⟨a, l, rfl, hinc⟩ := g.chain
      simp only [List.length_cons, Nat.add_sub_cancel] at h ⊢
      rw [V_cons]
      split
      · rename_i h'
        have := inc_le l a hinc 0 l.length (by omega)
        rw [Nat.zero_add, kn_zero] at this
        have hl : l = [] := List.eq_nil_of_length_eq_zero (by omega)
        subst hl
        rfl
      · exact Vr_last l a _ hinc h
    exact this
  have hleft : x ≤ (kn c 0).f0 → V c x = (kn c 0).f1 := fun h => by
    obtain ⟨a, l, rfl, hinc⟩ := g.chain
    rw [kn_zero] at h ⊢
    rw [V_cons, if_pos h]
  simp only [plenumlaw03_CurveBetween.l0]
  rw [if_neg (by omega), if_pos (by omega), h00, hw1, rd_kn]
  have g1 : (0 : Int) ≤ ((c.length - 1 : Nat) : Int) := by omega
  have g2 : ((c.length - 1 : Nat) : Int) < (c.length : Int) := by omega
  rw [if_pos g1, if_pos g2]
  by_cases hx : x ≤ (kn c 0).f0
  · rw [if_pos hx, if_pos (hleft hx)]
    by_cases hr : x ≥ (kn c (c.length - 1)).f0
    · rw [if_pos hr, if_pos (hright hr)]
    · rw [if_neg hr]
  · rw [if_neg hx]
    by_cases hr : x ≥ (kn c (c.length - 1)).f0
    · rw [if_pos hr, if_pos (hright hr)]
    · rw [if_neg hr]
theorem btw_loop {c : List S50} (g : Good c) (x lo hi : Int) : ∀ (n i : Nat), i + n = c.length → Ev (fun k => plenumlaw03_CurveBetween.l0 k c x lo hi (V c x) (i : Int)) true
  | 0, i, h => by
    have e : i = c.length := by omega
    subst e
    exact btw_end g x lo hi
  | n + 1, i, h => by
    have hle := g.le
    have ih := btw_loop g x lo hi n (i + 1) (by omega)
    have hw : wrap64 ((i : Int) + 1) = ((i + 1 : Nat) : Int) := by rw [w64s (by omega) (by omega)]; omega
    have h1 : Ev (fun k => plenumlaw03_CurveBetween.j1 k c x lo hi (V c x) (i : Int) false) true := by
      refine evs (fun k => ?_) ih
      simp only [plenumlaw03_CurveBetween.j1]
      rw [if_neg (by decide)]
      by_cases hi0 : (i : Int) > 0
      · have hwi : wrap64 ((i : Int) - 1) = ((i - 1 : Nat) : Int) := by rw [w64s (by omega) (by omega)]; omega
        rw [if_pos hi0, hwi, if_pos (by omega), if_pos (by omega), rd_kn, rd_kn]
        by_cases a1 : (kn c (i - 1)).f0 ≤ x
        · rw [if_pos a1, if_pos (by omega), if_pos (by omega)]
          by_cases a2 : x ≤ (kn c i).f0
          · obtain ⟨s1, s2⟩ := V_seg g (i - 1) (by omega) a1 (by rw [show i - 1 + 1 = i by omega]; exact a2)
            rw [show i - 1 + 1 = i by omega] at s1 s2
            have m1 : mn (kn c (i - 1)).f1 (kn c i).f1 = min (kn c (i - 1)).f1 (kn c i).f1 := by unfold mn; split <;> omega
            have m2 : mx (kn c (i - 1)).f1 (kn c i).f1 = max (kn c (i - 1)).f1 (kn c i).f1 := by unfold mx; split <;> omega
            rw [if_pos a2, m1, m2, if_neg (by omega), if_neg (by omega), hw]
          · rw [if_neg a2, hw]
        · rw [if_neg a1, hw]
      · rw [if_neg hi0, hw]
    refine evs (f := fun k => (curve_Eval.f k c (kn c i).f0).bind fun bt483 => (if bt483.2 = 0 then (if bt483.1 = (kn c i).f1 then (if (kn c i).f0 = x then (plenumlaw03_CurveBetween.j1 k c x lo hi (V c x) (i : Int) (V c x != bt483.1)) else (plenumlaw03_CurveBetween.j1 k c x lo hi (V c x) (i : Int) false)) else (plenumlaw03_CurveBetween.j1 k c x lo hi (V c x) (i : Int) true)) else (plenumlaw03_CurveBetween.j1 k c x lo hi (V c x) (i : Int) true))) (fun k => ?_) (Ev.bind (eval_good g (kn c i).f0) ?_)
    · simp only [plenumlaw03_CurveBetween.l0]
      rw [if_pos (by omega), if_pos (by omega), rd_kn]
    · have hk := V_knot g i (by omega)
      simp only [hk, if_true]
      by_cases he : (kn c i).f0 = x
      · simp only [he, if_true]
        rw [he] at hk
        rw [hk]
        simp only [bne_self_eq_false]
        rw [hk] at h1
        exact h1
      · simp only [he, if_false]
        exact h1
theorem CurveBetween : plenumlaw03_CurveBetween.Pure := by
  intro c x lo hi _ _ _ _ _ _
  refine Ev.rounds ?_
  unfold plenumlaw03_CurveBetween.f plenumlaw03_awake.f
  simp only [Option.bind_some, if_true]
  by_cases g : Good c
  · refine Ev.bind (eval_good g x) ?_
    simp only [if_true]
    exact btw_loop g x lo hi c.length 0 (by omega)
  · refine Ev.bind (eval_bad g x) ?_
    simp only [chk_ne g, if_false]
    exact Ev.now _
end Go.Proofs.Ytacheoimnckghaa.Pure
