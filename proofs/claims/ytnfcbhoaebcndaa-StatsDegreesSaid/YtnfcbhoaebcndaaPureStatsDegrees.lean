-- Degrees returns the degree days; they never decrease when the base increases.
import Derived.Test.YtnfcbhoaebcndaaSpE
import Derived.Test.YtnfcbhoaebcndaaPTx50
namespace Go.Proofs.Ytnfcbhoaebcndaa.Pure
open Go.RowKit Go.Proofs.Ytnfcbhoaebcndaa.PT Go.Proofs.YtnfcbhoaebcndaaW.PrintWords Go.Proofs.YtnfcbhoaebcndaaW.PrintLast Go.Proofs.YtnfcbhoaebcndaaW.PrintMore
set_option linter.unusedVariables false
set_option linter.unusedSimpArgs false
def day (l : List S57) (d : Int) : Int × Int := sumOf (P l (d * 86400) ((d + 1) * 86400))
def dgS (base : Int) (q : Int × Int) (s : Int × Bool) : Int × Bool := if q.2 > 0 then (wrap64 (s.1 + mx 0 (wrap64 (base - dvd q.1 q.2))), true) else s
def dg (l : List S57) (base : Int) : Nat → Int → Int × Bool → Int × Bool
  | 0, _, s => s
  | m + 1, d, s => dg l base m (d + 1) (dgS base (day l d) s)
theorem day_span {l : List S57} (h : chk l = 0) {d : Int} (h0 : 0 ≤ d) (h1 : d ≤ 73048) : ∃ s n, Span l (d * 86400) ((d + 1) * 86400) s n := span_of (chk_zero h).2.2 (by omega) (by omega) (by omega) (by omega)
theorem deg_loop {l : List S57} (hl : l.length ≤ 60) (h : chk l = 0) (base last : Int) (hb : last ≤ 73048) : ∀ (m : Nat) (d : Int) (s : Int × Bool), 0 ≤ d → d + m = last + 1 → Ev (fun k => stats_Degrees.l0 k l base last s.1 s.2 d) (if (dg l base m d s).2 = true then ((dg l base m d s).1, 0) else (0, 9))
  | 0, d, s, h0, hm => by
    refine evu ?_
    simp only [stats_Degrees.l0]
    refine evn (by omega) ?_
    show Ev _ (if s.2 = true then (s.1, 0) else (0, 9))
    by_cases c : s.2 = true
    · simp only [if_pos c]; exact Ev.now _
    · simp only [if_neg c]; exact Ev.now _
  | m + 1, d, s, h0, hm => by
    have ih := deg_loop hl h base last hb m (d + 1) (dgS base (day l d) s) (by omega) (by omega)
    obtain ⟨t, n, S⟩ := day_span h h0 (show d ≤ 73048 by omega)
    have e : day l d = (t, n) := S.eq
    have n1 := S.n1
    refine evu ?_
    simp only [stats_Degrees.l0]
    rw [w64s (x := d * 86400) (by omega) (by omega), w64s (x := d + 1) (by omega) (by omega), w64s (x := (d + 1) * 86400) (by omega) (by omega), sums_at (by omega), S.eq]
    refine evp (by omega) ?_
    simp only [Option.bind_some]
    show Ev _ (if (dg l base m (d + 1) (dgS base (day l d) s)).2 = true then ((dg l base m (d + 1) (dgS base (day l d) s)).1, 0) else (0, 9))
    rw [e] at ih ⊢
    by_cases c : n > 0
    · refine evp c ?_
      rw [divided_at (by omega)]
      simp only [Option.bind_some]
      have e2 : dgS base (t, n) s = (wrap64 (s.1 + mx 0 (wrap64 (base - dvd t n))), true) := if_pos c
      rw [e2] at ih ⊢
      exact ih
    · have e2 : dgS base (t, n) s = s := if_neg c
      rw [e2] at ih ⊢
      exact evn c ih
theorem rdeg_loop {l : List S57} (hl : l.length ≤ 60) (h : chk l = 0) (base last : Int) (hb : last ≤ 73048) : ∀ (m : Nat) (d : Int) (s : Int × Bool), 0 ≤ d → d + m = last + 1 → Ev (fun k => plenumref44_Degrees.l0 k l base last s.1 s.2 d) (dg l base m d s)
  | 0, d, s, h0, hm => by
    refine evu ?_
    simp only [plenumref44_Degrees.l0]
    exact evn (by omega) (Ev.now _)
  | m + 1, d, s, h0, hm => by
    have ih := rdeg_loop hl h base last hb m (d + 1) (dgS base (day l d) s) (by omega) (by omega)
    obtain ⟨t, n, S⟩ := day_span h h0 (show d ≤ 73048 by omega)
    have e : day l d = (t, n) := S.eq
    have n0 := S.n0
    refine evu ?_
    simp only [plenumref44_Degrees.l0]
    rw [w64s (x := d * 86400) (by omega) (by omega), w64s (x := d + 1) (by omega) (by omega), w64s (x := (d + 1) * 86400) (by omega) (by omega)]
    refine evp (by omega) (Ev.bind (rmean_ev hl h (by omega) (by omega) (by omega) S) ?_)
    show Ev _ (dg l base m (d + 1) (dgS base (day l d) s))
    rw [e] at ih ⊢
    by_cases c : n = 0
    · have e2 : dgS base (t, n) s = s := if_neg (by omega)
      rw [e2] at ih ⊢
      simp only [if_pos c]
      exact ih
    · have e2 : dgS base (t, n) s = (wrap64 (s.1 + mx 0 (wrap64 (base - dvd t n))), true) := if_pos (by omega)
      rw [e2] at ih ⊢
      simp only [if_neg c, if_true]
      exact ih
/-- What a day adds; exact. -/
theorem dg_mono {l : List S57} (h : chk l = 0) (b1 b2 last : Int) (h1 : -1000000000000 ≤ b1) (h2 : b1 ≤ b2) (h3 : b2 ≤ 1000000000000) (hb : last ≤ 73048) : ∀ (m : Nat) (d : Int) (s s' : Int × Bool), 0 ≤ d → d + m = last + 1 → s.2 = s'.2 → 0 ≤ s.1 → s.1 ≤ s'.1 → s'.1 + 2000000000000 * m ≤ 9000000000000000000 → (dg l b1 m d s).2 = (dg l b2 m d s').2 ∧ (dg l b1 m d s).1 ≤ (dg l b2 m d s').1
  | 0, d, s, s', h0, hm, e2, a0, a1, _ => ⟨e2, a1⟩
  | m + 1, d, s, s', h0, hm, e2, a0, a1, a2 => by
    obtain ⟨t, n, S⟩ := day_span h h0 (show d ≤ 73048 by omega)
    have e : day l d = (t, n) := S.eq
    have n0 := S.n0
    have n1 := S.n1
    have lo := S.lo
    have hi := S.hi
    show (dg l b1 m (d + 1) (dgS b1 (day l d) s)).2 = (dg l b2 m (d + 1) (dgS b2 (day l d) s')).2 ∧ (dg l b1 m (d + 1) (dgS b1 (day l d) s)).1 ≤ (dg l b2 m (d + 1) (dgS b2 (day l d) s')).1
    rw [e]
    by_cases c : n > 0
    · have d1 := dvd_ge (s := t) (n := n) (lo := -1000000000000) c n1 (by omega) (by omega) lo
      have d2 := dvd_le (s := t) (n := n) (hi := 1000000000000) c n1 (by omega) (by omega) hi
      have g1 : dgS b1 (t, n) s = (s.1 + mx 0 (b1 - dvd t n), true) := by
        unfold dgS
        rw [if_pos c]
        simp only
        have hm0 : 0 ≤ mx 0 (b1 - dvd t n) ∧ mx 0 (b1 - dvd t n) ≤ 2000000000000 := by unfold mx; split <;> omega
        rw [w64s (x := b1 - dvd t n) (by omega) (by omega), w64s (by omega) (by omega)]
      have g2 : dgS b2 (t, n) s' = (s'.1 + mx 0 (b2 - dvd t n), true) := by
        unfold dgS
        rw [if_pos c]
        simp only
        have hm0 : 0 ≤ mx 0 (b2 - dvd t n) ∧ mx 0 (b2 - dvd t n) ≤ 2000000000000 := by unfold mx; split <;> omega
        rw [w64s (x := b2 - dvd t n) (by omega) (by omega), w64s (by omega) (by omega)]
      rw [g1, g2]
      have hm1 : 0 ≤ mx 0 (b1 - dvd t n) ∧ mx 0 (b1 - dvd t n) ≤ mx 0 (b2 - dvd t n) ∧ mx 0 (b2 - dvd t n) ≤ 2000000000000 := by unfold mx; split <;> split <;> omega
      exact dg_mono h b1 b2 last h1 h2 h3 hb m (d + 1) _ _ (by omega) (by omega) rfl (by dsimp only; omega) (by dsimp only; omega) (by dsimp only; omega)
    · have g1 : dgS b1 (t, n) s = s := if_neg c
      have g2 : dgS b2 (t, n) s' = s' := if_neg c
      rw [g1, g2]
      exact dg_mono h b1 b2 last h1 h2 h3 hb m (d + 1) _ _ (by omega) (by omega) e2 a0 a1 (by omega)
def dayE (base a b : Int) : Int := if 0 ≤ a ∧ b ≤ 73048 ∧ a ≤ b ∧ -1000000000000 ≤ base ∧ base ≤ 1000000000000 then (if b - a ≥ 100 then 7 else 0) else 1
theorem dayE_zero {base a b : Int} (h : dayE base a b = 0) : 0 ≤ a ∧ b ≤ 73048 ∧ a ≤ b ∧ -1000000000000 ≤ base ∧ base ≤ 1000000000000 ∧ b - a < 100 := by
  unfold dayE at h
  split at h
  · rename_i c
    split at h
    · omega
    · exact ⟨c.1, c.2.1, c.2.2.1, c.2.2.2.1, c.2.2.2.2, by omega⟩
  · omega
def dgR (l : List S57) (base a b : Int) : Int × Bool := dg l base (b + 1 - a).toNat a (0, false)
def degR (l : List S57) (base a b : Int) : Int × Int := if chk l = 0 then (if dayE base a b = 0 then (if (dgR l base a b).2 = true then ((dgR l base a b).1, 0) else (0, 9)) else (0, dayE base a b)) else (0, chk l)
theorem deg_ev {l : List S57} (hl : l.length ≤ 60) (base a b : Int) : Ev (fun k => stats_Degrees.f k l base a b) (degR l base a b) := by
  refine Ev.congr (fun k => rfl) (Ev.bind (pchk l (by omega)) ?_)
  unfold degR
  by_cases h : chk l = 0
  · rw [if_pos h]
    refine evp h ?_
    have jt : ¬ (0 ≤ a ∧ b ≤ 73048 ∧ a ≤ b ∧ -1000000000000 ≤ base ∧ base ≤ 1000000000000) → Ev (fun k => stats_Degrees.j0 k l base a b true) (if dayE base a b = 0 then (if (dgR l base a b).2 = true then ((dgR l base a b).1, 0) else (0, 9)) else (0, dayE base a b)) := fun hn => by
      have e : dayE base a b = 1 := if_neg hn
      rw [e, if_neg (by omega)]
      refine evu ?_
      simp only [stats_Degrees.j0, if_true]
      exact Ev.now _
    by_cases c1 : a < 0
    · exact evp c1 (jt (by omega))
    · refine evn c1 ?_
      by_cases c2 : b > 73048
      · exact evp c2 (jt (by omega))
      · refine evn c2 ?_
        by_cases c3 : a > b
        · exact evp c3 (jt (by omega))
        · refine evn c3 ?_
          by_cases c4 : base < -1000000000000
          · exact evp c4 (jt (by omega))
          · refine evn c4 ?_
            by_cases c5 : base > 1000000000000
            · rw [decide_eq_true c5]; exact jt (by omega)
            · rw [decide_eq_false c5]
              refine evu ?_
              simp only [stats_Degrees.j0]
              refine evn (by simp) ?_
              have e : dayE base a b = if b - a ≥ 100 then 7 else 0 := if_pos (by omega)
              rw [w64s (by omega) (by omega)]
              by_cases c6 : b - a ≥ 100
              · rw [e, if_pos c6]
                exact evp c6 (Ev.now _)
              · rw [e, if_neg c6, if_pos rfl]
                refine evn c6 ?_
                exact deg_loop hl h base b (by omega) (b + 1 - a).toNat a (0, false) (by omega) (by omega)
  · rw [if_neg h]
    exact evn h (Ev.now _)
theorem rday_ev (base a b : Int) : Ev (fun k => plenumref44_Days.f k base a b) (dayE base a b) := by
  unfold plenumref44_Days.f
  have jt : ¬ (0 ≤ a ∧ b ≤ 73048 ∧ a ≤ b ∧ -1000000000000 ≤ base ∧ base ≤ 1000000000000) → Ev (fun k => plenumref44_Days.j0 k a b true) (dayE base a b) := fun hn => by
    have e : dayE base a b = 1 := if_neg hn
    rw [e]
    refine evu ?_
    simp only [plenumref44_Days.j0, if_true]
    exact Ev.now _
  by_cases c1 : a < 0
  · exact evp c1 (jt (by omega))
  · refine evn c1 ?_
    by_cases c1' : a > 73048
    · exact evp c1' (jt (by omega))
    · refine evn c1' ?_
      by_cases c2' : b < 0
      · exact evp c2' (jt (by omega))
      · refine evn c2' ?_
        by_cases c2 : b > 73048
        · exact evp c2 (jt (by omega))
        · refine evn c2 ?_
          by_cases c3 : a > b
          · exact evp c3 (jt (by omega))
          · refine evn c3 ?_
            by_cases c4 : base < -1000000000000
            · exact evp c4 (jt (by omega))
            · refine evn c4 ?_
              by_cases c5 : base > 1000000000000
              · rw [decide_eq_true c5]; exact jt (by omega)
              · rw [decide_eq_false c5]
                refine evu ?_
                simp only [plenumref44_Days.j0]
                refine evn (by simp) ?_
                have e : dayE base a b = if b - a ≥ 100 then 7 else 0 := if_pos (by omega)
                rw [w64s (by omega) (by omega), e]
                by_cases c6 : b - a ≥ 100
                · simp only [if_pos c6]; exact Ev.now _
                · simp only [if_neg c6]; exact Ev.now _
theorem deg_j0 {l : List S57} (hl : l.length ≤ 60) (base more a b : Int) (hbm : base ≤ more) : Ev (fun k => plenumlaw44_StatsDegrees.j0 k l base more a b) true := by
  refine evu ?_
  simp only [plenumlaw44_StatsDegrees.j0]
  refine Ev.bind (deg_ev hl base a b) (Ev.bind (deg_ev hl more a b) (Ev.bind (rchk l (by omega)) ?_))
  have hj : Ev (fun k => plenumlaw44_StatsDegrees.j1 k l base a b (degR l base a b).1 (degR l base a b).2 (degR l more a b).1 (degR l more a b).2 (if chk l = 0 then dayE base a b else chk l)) true := by
    refine evu ?_
    simp only [plenumlaw44_StatsDegrees.j1]
    rw [awk]
    by_cases h : chk l = 0
    · by_cases g : dayE base a b = 0
      · obtain ⟨g0, g1, g2, g3, g4, g5⟩ := dayE_zero g
        refine evp (by rw [if_pos h]; exact g) ?_
        refine Ev.bind (Ev.congr (fun k => rfl) (rdeg_loop hl h base b g1 (b + 1 - a).toNat a (0, false) g0 (by omega))) ?_
        have eR : dg l base (b + 1 - a).toNat a (0, false) = dgR l base a b := rfl
        rw [eR]
        simp only [Option.bind_some, if_true]
        by_cases c : (dgR l base a b).2 = true
        · have eD : degR l base a b = ((dgR l base a b).1, 0) := by unfold degR; rw [if_pos h, if_pos g, if_pos c]
          refine evp c ?_
          rw [eD]
          refine evp rfl (evp rfl ?_)
          by_cases f : (degR l more a b).2 = 0
          · refine evp f ?_
            have f' := f
            unfold degR at f'
            rw [if_pos h] at f'
            by_cases g' : dayE more a b = 0
            · obtain ⟨k0, k1, k2, k3, k4, k5⟩ := dayE_zero g'
              obtain ⟨m1, m2⟩ := dg_mono h base more b g3 hbm k4 g1 (b + 1 - a).toNat a (0, false) (0, false) g0 (by omega) rfl (Int.le_refl _) (Int.le_refl _) (by dsimp only; omega)
              have c' : (dgR l more a b).2 = true := by
                have : (dgR l base a b).2 = (dgR l more a b).2 := m1
                rw [← this]; exact c
              have eD' : degR l more a b = ((dgR l more a b).1, 0) := by unfold degR; rw [if_pos h, if_pos g', if_pos c']
              rw [eD']
              dsimp only
              rw [decide_eq_true (show (dgR l base a b).1 ≤ (dgR l more a b).1 from m2)]
              exact Ev.now _
            · rw [if_neg g'] at f'
              exact absurd f' g'
          · exact evn f (Ev.now _)
        · have eD : degR l base a b = (0, 9) := by unfold degR; rw [if_pos h, if_pos g, if_neg c]
          refine evn c ?_
          rw [eD]
          exact evp rfl (Ev.now _)
      · refine evn (by rw [if_pos h]; exact g) ?_
        have eD : degR l base a b = (0, dayE base a b) := by unfold degR; rw [if_pos h, if_neg g]
        simp only [Option.bind_some, if_true]
        refine evp (by rw [eD, if_pos h]) ?_
        rw [eD]
        exact Ev.now _
    · refine evn (by rw [if_neg h]; exact h) ?_
      have eD : degR l base a b = (0, chk l) := by unfold degR; rw [if_neg h]
      simp only [Option.bind_some, if_true]
      refine evp (by rw [eD, if_neg h]) ?_
      rw [eD]
      exact Ev.now _
  by_cases h : chk l = 0
  · refine evp h (Ev.bind (rday_ev base a b) ?_)
    rw [if_pos h] at hj
    exact hj
  · refine evn h ?_
    rw [if_neg h] at hj
    exact hj
theorem StatsDegrees : plenumlaw44_StatsDegrees.Pure := by
  intro l base more a b _ _ _ _ _ _ _
  refine Ev.rounds ?_
  unfold plenumlaw44_StatsDegrees.f
  rw [awk]
  by_cases hl : (l.length : Int) > 60
  · exact evp hl (Ev.now _)
  · refine evn hl ?_
    by_cases c : base > more
    · exact evp c (deg_j0 (by omega) more base a b (by omega))
    · exact evn c (deg_j0 (by omega) base more a b (by omega))
end Go.Proofs.Ytnfcbhoaebcndaa.Pure
