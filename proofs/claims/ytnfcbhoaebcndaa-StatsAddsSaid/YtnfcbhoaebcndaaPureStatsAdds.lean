-- The numbers of two adjoining spans are added.
import Derived.Test.YtnfcbhoaebcndaaIns
import Derived.Test.YtnfcbhoaebcndaaPTx35
namespace Go.Proofs.Ytnfcbhoaebcndaa.Pure
open Go.RowKit Go.Proofs.Ytnfcbhoaebcndaa.PT Go.Proofs.YtnfcbhoaebcndaaW.PrintWords Go.Proofs.YtnfcbhoaebcndaaW.PrintLast Go.Proofs.YtnfcbhoaebcndaaW.PrintMore
set_option linter.unusedVariables false
set_option linter.unusedSimpArgs false
theorem cs_split (v : S45) (a m b : Int) (h1 : a ≤ m) (h2 : m ≤ b) : ∀ (l : List S57) (p : Option S45), cs v a m p l + cs v m b p l = cs v a b p l
  | [], p => rfl
  | x :: l, p => by
    unfold cs
    have ih := cs_split v a m b h1 h2 l (some x.f1)
    by_cases c : isV v x.f1 = true ∧ (∀ q, p = some q → isV v q = false)
    · by_cases c1 : a ≤ x.f0
      · by_cases c2 : x.f0 < m
        · rw [if_pos ⟨c.1, c1, c2, c.2⟩, if_neg (fun h => by have := h.2.1; omega), if_pos ⟨c.1, c1, by omega, c.2⟩]; omega
        · by_cases c3 : x.f0 < b
          · rw [if_neg (fun h => c2 h.2.2.1), if_pos ⟨c.1, by omega, c3, c.2⟩, if_pos ⟨c.1, c1, c3, c.2⟩]; omega
          · rw [if_neg (fun h => c2 h.2.2.1), if_neg (fun h => c3 h.2.2.1), if_neg (fun h => c3 h.2.2.1)]; omega
      · rw [if_neg (fun h => c1 h.2.1), if_neg (fun h => by have := h.2.1; omega), if_neg (fun h => c1 h.2.1)]; omega
    · rw [if_neg (fun h => c ⟨h.1, h.2.2.2⟩), if_neg (fun h => c ⟨h.1, h.2.2.2⟩), if_neg (fun h => c ⟨h.1, h.2.2.2⟩)]; omega
theorem ind_eq {q q' : S45 → Bool} {v : S45} (h : q v = q' v) : ind q v = ind q' v := by unfold ind; rw [h]
theorem bk_one (lim n : Int) : bk [lim] n = 1 ↔ n ≥ lim := by
  have e : bk [lim] n = if n ≥ lim then 1 else 0 := rfl
  rw [e]; split <;> simp <;> omega
theorem ind_lim (lim : Int) (v : S45) : (ind fun v => decide (v.f0 = 1 ∧ bk [lim] v.f1 = 1)) v = ind (over lim) v + ind (same ⟨1, lim⟩) v := by
  rw [ind_eq (q' := fun v => decide (v.f0 = 1 ∧ v.f1 ≥ lim)) (decide_eq_decide.2 (by rw [bk_one]))]
  unfold ind over same
  by_cases c : v.f0 = 1
  · by_cases d : v.f1 > lim
    · rw [if_pos (by simp [c]; omega), if_pos (by simp [c]; omega), if_neg (by simp [c]; omega)]; rfl
    · by_cases g : v.f1 = lim
      · rw [if_pos (by simp [c, g]), if_neg (by simp [c, g]), if_pos (by simp [c, g])]; rfl
      · rw [if_neg (by simp [c]; omega), if_neg (by simp [c]; omega), if_neg (by simp [c, g])]; rfl
  · rw [if_neg (by simp [c]), if_neg (by simp [c]), if_neg (by simp [c])]; rfl
theorem adds1 {l : List S57} (hl : l.length ≤ 60) (lim a m b : Int) (h : chk l = 0) (h1 : spn a m = 0) (h2 : spn m b = 0) (h3 : spn a b = 0) : Ev (fun k => plenumlaw44_StatsAdds.j1 k l lim a m b false) true := by
  obtain ⟨a0, a1, a2, a3⟩ := spn_zero h1
  obtain ⟨b0, b1, b2, b3⟩ := spn_zero h2
  refine evu ?_
  simp only [plenumlaw44_StatsAdds.j1]
  rw [awk]
  refine evn (by simp) ?_
  have f1 : fst_ l a m = 0 := by unfold fst_; rw [if_pos h, h1]
  have f2 : fst_ l m b = 0 := by unfold fst_; rw [if_pos h, h2]
  refine Ev.bind (exceeded_ev (by omega) lim a m) (Ev.bind (exceeded_ev (by omega) lim m b) (Ev.bind (hist_ev (by omega) (ls := [lim]) (by simp) a b) ?_))
  have eh : hres l [lim] a b = (hOf [lim] (P l a b), 0) := by
    unfold hres
    rw [if_neg (by simp [h]), if_neg (by simp), if_pos (show incB [lim] = true from rfl), if_pos h3]
  simp only [plenumlaw44_analog.f, Option.bind_some, if_pos f1, if_pos f2, eh, if_true]
  refine Ev.bind (seconds_ev (by omega) ⟨1, lim⟩ a b) ?_
  have e1 : ((hOf [lim] (P l a b)).length : Int) = 2 := by rw [hOf_length]; rfl
  refine evp e1 ?_
  by_cases g : abt l ⟨1, lim⟩ a b = 0
  · simp only [if_pos g, if_true]
    refine evp (by omega) ?_
    have e2 : rd (hOf [lim] (P l a b)) 1 = wrap64 (wrap64 (cntOf (over lim) (P l a m) + cntOf (over lim) (P l m b)) + cntOf (same ⟨1, lim⟩) (P l a b)) := by
      have := h_ws [lim] (P l a b) 1 (by simp)
      unfold rd
      show (hOf [lim] (P l a b)).getD 1 0 = _
      rw [this, cnt_ws, cnt_ws, cnt_ws, wadd, wadd', show ∀ x y z : Int, wrap64 (wrap64 x + wrap64 y + z) = wrap64 (x + y + z) from fun x y z => by simp only [w64]; omega]
      rw [P_pz l a0 a1 (by omega), P_pz l b0 b1 (by omega), P_pz l a0 (by omega) (by omega), pz_split _ m b b1 l ⟨0, 0⟩ a (by omega), ← ws_add]
      exact congrArg wrap64 (ws_congr _ (fun p _ => ind_lim lim p.1))
    rw [e2]
    simp only [beq_self_eq_true]
    exact Ev.now _
  · simp only [if_neg g]
    exact Ev.now _
theorem adds0 {l : List S57} (hl : l.length ≤ 60) (v : S45) (lim a m b : Int) (h : chk l = 0) (hv : okV v = true) (h1 : spn a m = 0) (h2 : spn m b = 0) (h3 : spn a b = 0) : Ev (fun k => plenumlaw44_StatsAdds.j0 k l lim a m b false v.f0 v.f1) true := by
  obtain ⟨a0, a1, a2, a3⟩ := spn_zero h1
  obtain ⟨b0, b1, b2, b3⟩ := spn_zero h2
  refine evu ?_
  simp only [plenumlaw44_StatsAdds.j0]
  refine evn (by simp) ?_
  have f1 : fst_ l a m = 0 := by unfold fst_; rw [if_pos h, h1]
  have f2 : fst_ l m b = 0 := by unfold fst_; rw [if_pos h, h2]
  have f3 : fst_ l a b = 0 := by unfold fst_; rw [if_pos h, h3]
  have g1 : abt l v a m = 0 := by unfold abt; rw [if_pos h, if_pos hv, h1]
  have g2 : abt l v m b = 0 := by unfold abt; rw [if_pos h, if_pos hv, h2]
  have g3 : abt l v a b = 0 := by unfold abt; rw [if_pos h, if_pos hv, h3]
  refine Ev.bind (integral_ev (by omega) a m) (Ev.bind (integral_ev (by omega) m b) (Ev.bind (integral_ev (by omega) a b) (Ev.bind (seconds_ev (by omega) v a m) (Ev.bind (seconds_ev (by omega) v m b) (Ev.bind (seconds_ev (by omega) v a b) (Ev.bind (str_ev (by omega) v a m) (Ev.bind (str_ev (by omega) v m b) (Ev.bind (str_ev (by omega) v a b) ?_))))))))
  simp only [if_pos f1, if_pos f2, if_pos f3, if_pos g1, if_pos g2, if_pos g3, if_true]
  have q1 : wrap64 ((sumOf (P l a m)).1 + (sumOf (P l m b)).1) = (sumOf (P l a b)).1 := by
    rw [sum_ws, sum_ws, sum_ws]
    simp only [wadd, wadd']
    rw [P_pz l a0 a1 (by omega), P_pz l b0 b1 (by omega), P_pz l a0 (by omega) (by omega), pz_split _ m b b1 l ⟨0, 0⟩ a (by omega)]
  have q2 : wrap64 (cntOf (same v) (P l a m) + cntOf (same v) (P l m b)) = cntOf (same v) (P l a b) := by
    rw [cnt_ws, cnt_ws, cnt_ws]
    simp only [wadd, wadd']
    rw [P_pz l a0 a1 (by omega), P_pz l b0 b1 (by omega), P_pz l a0 (by omega) (by omega), pz_split _ m b b1 l ⟨0, 0⟩ a (by omega)]
  have q3 : wrap64 (strF v a m none 0 l + strF v m b none 0 l) = strF v a b none 0 l := by
    rw [str0, str0, str0]
    simp only [wadd, wadd']
    rw [cs_split v a m b (by omega) (by omega)]
  refine evp q1 (evp q2 ?_)
  rw [q3]
  simp only [bne_self_eq_false]
  exact adds1 hl lim a m b h h1 h2 h3
theorem StatsAdds : plenumlaw44_StatsAdds.Pure := by
  intro l v0 v1 lim a m b _ _ _ _ _ _ _ _ _
  refine Ev.rounds ?_
  have jt : Ev (fun k => plenumlaw44_StatsAdds.j0 k l lim a m b true v0 v1) true := by
    refine evu ?_
    simp only [plenumlaw44_StatsAdds.j0, if_true]
    exact Ev.now _
  unfold plenumlaw44_StatsAdds.f
  rw [rvalid_of ⟨v0, v1⟩]
  simp only [Option.bind_some]
  by_cases hl : (l.length : Int) > 60
  · exact evp hl jt
  · refine evn hl ?_
    by_cases hv : okV ⟨v0, v1⟩ = true
    · refine evp hv ?_
      by_cases c1 : a ≥ m
      · exact evp c1 jt
      · refine evn c1 ?_
        by_cases c2 : m ≥ b
        · exact evp c2 jt
        · refine evn c2 (Ev.bind (rfst l (by omega) a b) ?_)
          by_cases h : fst_ l a b = 0
          · refine evp h (Ev.bind (rspn a m) ?_)
            obtain ⟨h0, h3⟩ := fst_zero h
            by_cases h1 : spn a m = 0
            · refine evp h1 (Ev.bind (rspn m b) ?_)
              by_cases h2 : spn m b = 0
              · rw [h2]
                exact adds0 (by omega) ⟨v0, v1⟩ lim a m b h0 hv h1 h2 h3
              · rw [bne_iff_ne.2 h2]
                exact jt
            · exact evn h1 jt
          · exact evn h jt
    · exact evn hv jt
end Go.Proofs.Ytnfcbhoaebcndaa.Pure
