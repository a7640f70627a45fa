import Derived.Test.YtbfcplnaafnlhaaDoorPTx23
import Derived.Test.YtbfcplnaafnlhaaDoorPsy
namespace Go.Proofs.YtbfcplnaafnlhaaDoor.Pure
open Go.RowKit Go.Proofs.YtbfcplnaafnlhaaDoor.PT Go.Proofs.YtbfcplnaafnlhaaDoorW.PrintWords Go.Proofs.YtbfcplnaafnlhaaDoorW.PrintLast
/-- On a piece of the line, both ends. -/
theorem V_piece {c : List S37} {a : S37} {l : List S37} (hc : c = a :: l) (h : Inc a l) (i : Nat) (hi : i < l.length) {x : Int} (h0 : (kn c i).f0 ≤ x) (h1 : x ≤ (kn c (i + 1)).f0) : V c x = ip (kn c i) (kn c (i + 1)) x := by
  subst hc
  have hlt := inc_at l a h i hi
  by_cases e : x < (kn (a :: l) (i + 1)).f0
  · rw [V_cons]
    by_cases c0 : x ≤ a.f0
    · have hle := inc_le l a h 0 i (by omega)
      rw [Nat.zero_add, kn_zero] at hle
      have hz : i = 0 := by omega
      subst hz
      rw [if_pos c0, kn_zero] at *
      have hx : x = a.f0 := by omega
      rw [hx]
      exact (ip_left (b := kn (a :: l) (0 + 1)) hlt).symm
    · rw [if_neg c0]
      exact Vr_at l a i x h hi h0 e
  · have hx : x = (kn (a :: l) (i + 1)).f0 := by omega
    rw [hx, ip_right hlt, V_cons]
    have hle := inc_le l a h 0 i (by omega)
    rw [Nat.zero_add, kn_zero] at hle
    rw [if_neg (by omega)]
    by_cases e2 : i + 1 < l.length
    · have hlt2 := inc_at l a h (i + 1) e2
      rw [Vr_at l a (i + 1) _ h e2 (Int.le_refl _) hlt2, ip_left hlt2]
    · have e3 : i + 1 = l.length := by omega
      rw [e3]
      exact Vr_last l a _ h (Int.le_refl _)
set_option maxHeartbeats 4000000 in
/-- A piece there and back: the rounding errors. -/
theorem piece_back (i : Nat) (hi : i < 16) : ∀ t : Int, (kn sK i).f0 ≤ t → t ≤ (kn sK (i + 1)).f0 →
    (kn sK i).f1 ≤ ip (kn sK i) (kn sK (i + 1)) t ∧ ip (kn sK i) (kn sK (i + 1)) t ≤ (kn sK (i + 1)).f1 ∧ ip (kn dK i) (kn dK (i + 1)) (ip (kn sK i) (kn sK (i + 1)) t) ≤ t + 7 := by
  intro t
  match i, hi with
  | 0, _ | 1, _ | 2, _ | 3, _ | 4, _ | 5, _ | 6, _ | 7, _ | 8, _ | 9, _ | 10, _ | 11, _ | 12, _ | 13, _ | 14, _ | 15, _ =>
    simp only [kn, sK, dK, sT, dT, List.getD, List.getElem?_cons_succ, List.getElem?_cons_zero, Option.getD_some, ip, Int.reduceSub, Int.reduceNeg, Int.reduceMul]
    intro h0 h1
    unfold R
    refine ⟨?_, ?_, ?_⟩
    · split <;> omega
    · split <;> omega
    · split <;> split <;> omega
  | n + 16, h => omega
set_option maxHeartbeats 4000000 in
theorem piece_forth (i : Nat) (hi : i < 16) : ∀ w : Int, (kn dK i).f0 ≤ w → w ≤ (kn dK (i + 1)).f0 →
    (kn dK i).f1 ≤ ip (kn dK i) (kn dK (i + 1)) w ∧ ip (kn dK i) (kn dK (i + 1)) w ≤ (kn dK (i + 1)).f1 ∧ -5 ≤ ip (kn sK i) (kn sK (i + 1)) (ip (kn dK i) (kn dK (i + 1)) w) - w ∧ ip (kn sK i) (kn sK (i + 1)) (ip (kn dK i) (kn dK (i + 1)) w) - w ≤ 5 := by
  intro w
  match i, hi with
  | 0, _ | 1, _ | 2, _ | 3, _ | 4, _ | 5, _ | 6, _ | 7, _ | 8, _ | 9, _ | 10, _ | 11, _ | 12, _ | 13, _ | 14, _ | 15, _ =>
    simp only [kn, sK, dK, sT, dT, List.getD, List.getElem?_cons_succ, List.getElem?_cons_zero, Option.getD_some, ip, Int.reduceSub, Int.reduceNeg, Int.reduceMul]
    intro h0 h1
    unfold R
    refine ⟨?_, ?_, ?_, ?_⟩
    · split <;> omega
    · split <;> omega
    · split <;> split <;> omega
    · split <;> split <;> omega
  | n + 16, h => omega
theorem lim_id {lo hi a : Int} (h0 : lo ≤ a) (h1 : a ≤ hi) : lim lo hi a = a := by unfold lim mx mn; split <;> split <;> omega
theorem dew_sat {t : Int} (h : -20000 ≤ t) : DV (SV t) ≤ mn t 200000 + 7 := by
  have hs := SV_bd t
  have e : DV (SV t) = V dK (SV t) := by unfold DV; rw [lim_id (by omega) (by omega)]
  rw [e]
  unfold SV
  have hl : lim (-100000) 200000 t = mn t 200000 := by unfold lim mx mn; repeat (first | omega | split)
  rw [hl]
  have hm : -20000 ≤ mn t 200000 := by unfold mn; split <;> omega
  generalize mn t 200000 = T at *
  by_cases c : T < 60000
  · obtain ⟨i, hi⟩ : ∃ i : Nat, (T + 20000) / 5000 = (i : Int) := ⟨((T + 20000) / 5000).toNat, by omega⟩
    have hi16 : i < 16 := by omega
    obtain ⟨a0, a1⟩ := nS i (by omega)
    obtain ⟨b0, b1⟩ := nS (i + 1) (by omega)
    obtain ⟨c0, c1⟩ := nD i (by omega)
    obtain ⟨d0, d1⟩ := nD (i + 1) (by omega)
    have h0 : (kn sK i).f0 ≤ T := by rw [a0]; omega
    have h1 : T ≤ (kn sK (i + 1)).f0 := by rw [b0]; omega
    obtain ⟨p0, p1, p2⟩ := piece_back i hi16 T h0 h1
    rw [V_piece (c := sK) rfl incS i hi16 h0 h1, V_piece (c := dK) rfl incD i hi16 (by rw [c1, ← a1]; exact p0) (by rw [d1, ← b1]; exact p1)]
    exact p2
  · rw [V_sT_high (by omega), V_dT_high (by omega)]
    omega
theorem sat_dew {w : Int} (h0 : 637 ≤ w) (h1 : w ≤ 153540) : -5 ≤ SV (DV w) - w ∧ SV (DV w) - w ≤ 5 := by
  have hl : lim 0 1000000 w = w := lim_id (by omega) (by omega)
  obtain ⟨i, hi16, hi0, hi1⟩ : ∃ i : Nat, i < 16 ∧ (kn dK i).f0 ≤ w ∧ w ≤ (kn dK (i + 1)).f0 := by
    have go : ∀ n i : Nat, i + n = 15 → (kn dK i).f0 ≤ w → ∃ i : Nat, i < 16 ∧ (kn dK i).f0 ≤ w ∧ w ≤ (kn dK (i + 1)).f0 := by
      intro n
      induction n with
      | zero =>
        intro i hi h
        obtain rfl : i = 15 := by omega
        exact ⟨15, by omega, h, by show w ≤ (153540 : Int); omega⟩
      | succ n ih =>
        intro i hi h
        by_cases c : w ≤ (kn dK (i + 1)).f0
        · exact ⟨i, by omega, h, c⟩
        · exact ih (i + 1) (by omega) (by omega)
    exact go 15 0 (by omega) (by show (637 : Int) ≤ w; omega)
  obtain ⟨a0, a1⟩ := nS i (by omega)
  obtain ⟨b0, b1⟩ := nS (i + 1) (by omega)
  obtain ⟨c0, c1⟩ := nD i (by omega)
  obtain ⟨d0, d1⟩ := nD (i + 1) (by omega)
  obtain ⟨p0, p1, p2, p3⟩ := piece_forth i hi16 w hi0 hi1
  have e : DV w = ip (kn dK i) (kn dK (i + 1)) w := by
    unfold DV
    rw [hl, V_piece (c := dK) rfl incD i hi16 hi0 hi1]
  rw [e]
  generalize ip (kn dK i) (kn dK (i + 1)) w = d at *
  have e2 : SV d = ip (kn sK i) (kn sK (i + 1)) d := by
    unfold SV
    rw [lim_id (by omega) (by omega), V_piece (c := sK) rfl incS i hi16 (by rw [a0, ← c0]; exact p0) (by rw [b0, ← d0]; exact p1)]
  rw [e2]
  exact ⟨p2, p3⟩
theorem QV_le (t h : Int) : QV t h ≤ SV t := by
  have hs := SV_bd t
  have hb := lim_bd (lo := 0) (hi := 100000) (a := h) (by omega)
  have := R_mono (w := 100000) (by omega) (Int.mul_le_mul_of_nonneg_left hb.2 (show 0 ≤ SV t by omega))
  rwa [R_mul (by omega)] at this
theorem dew_low {w : Int} (h : w < 637) : DV w = -20000 := by
  unfold DV
  exact V_dT_low (by unfold lim mx mn; repeat (first | omega | split))
theorem dew_high {w : Int} (h : 153540 ≤ w) : DV w = 60000 := by
  unfold DV
  exact V_dT_high (by unfold lim mx mn; repeat (first | omega | split))
theorem DV_bd (w : Int) : -20000 ≤ DV w ∧ DV w ≤ 60000 := by
  have h1 := DV_mono (show min w 0 ≤ w by omega)
  have h2 := DV_mono (show w ≤ max w 153540 by omega)
  rw [dew_low (w := min w 0) (by omega)] at h1
  rw [dew_high (w := max w 153540) (by omega)] at h2
  exact ⟨h1, h2⟩
/-- The dew point is at most 7 thousandths above the temperature; saturation at the dew point gives the ratio, but for 5. -/
theorem PsychroDew : plenumlaw22_PsychroDew.Pure := by
  intro a0 a1 a2 _ w1 w2
  have hw2 : -9223372036854775808 ≤ a2 ∧ a2 ≤ 9223372036854775807   := wfb w2
  refine Ev.rounds (g := fun k => plenumlaw22_PsychroDew.f k a0 a1 a2) ?_
  unfold plenumlaw22_PsychroDew.f plenumlaw22_awake.f
  simp only [Option.bind_some, if_true]
  have h1 : Ev (fun k => plenumlaw22_PsychroDew.j1 k a2 (decide (a2 < 637 ∨ a2 > 153540))) true := by
    by_cases c : a2 < 637 ∨ a2 > 153540
    · rw [decide_eq_true c]
      refine evs (f := fun k => (psychro_Dew.f k a2).bind fun t184 => (if t184 = (-20000) then (if a2 < 637 then (some true) else ((psychro_Dew.f k a2).bind fun t185 => (some (t185 == 60000)))) else ((psychro_Dew.f k a2).bind fun t186 => (some (t186 == 60000))))) (fun k => rfl) ?_
      refine Ev.bind (dew_ev a2) ?_
      by_cases c0 : a2 < 637
      · simp only [dew_low c0, if_true, if_pos c0]
        exact Ev.now _
      · have e : DV a2 = 60000 := dew_high (by omega)
        simp only [e, show ¬ ((60000 : Int) = -20000) by omega, if_false]
        refine Ev.bind (dew_ev a2) ?_
        rw [e]
        exact Ev.now _
    · rw [decide_eq_false c]
      refine evs (f := fun k => (psychro_Dew.f k a2).bind fun t187 => ((psychro_Saturation.f k t187).bind fun t188 => (if (wrap64 (t188 - a2)) ≥ (-5) then (some (decide ((wrap64 (t188 - a2)) ≤ 5))) else (some false)))) (fun k => rfl) ?_
      obtain ⟨s0, s1⟩ := sat_dew (w := a2) (by omega) (by omega)
      refine Ev.bind (dew_ev a2) (Ev.bind (sat_ev _) ?_)
      rw [w64s (by omega) (by omega)]
      rw [decide_eq_true s1]
      simp only [if_pos (show SV (DV a2) - a2 ≥ -5 from s0)]
      exact Ev.now _
  have h0 : Ev (fun k => plenumlaw22_PsychroDew.j0 k a2 false) true := by
    refine evs (f := fun k => plenumlaw22_PsychroDew.j1 k a2 (decide (a2 < 637 ∨ a2 > 153540))) (fun k => ?_) h1
    simp only [plenumlaw22_PsychroDew.j0]
    rw [if_neg (by decide)]
    by_cases c : a2 < 637
    · rw [if_pos c, decide_eq_true (show a2 < 637 ∨ a2 > 153540 from .inl c)]
    · rw [if_neg c]
      exact congrArg (plenumlaw22_PsychroDew.j1 k a2) (decide_eq_decide.2 (by omega))
  by_cases c : a0 ≥ -20000
  · simp only [if_pos c]
    refine Ev.bind (ratio_ev _ _) (Ev.bind (dew_ev _) ?_)
    have hm : mn a0 200000 ≤ 200000 ∧ -20000 ≤ mn a0 200000 := by unfold mn; split <;> omega
    have hd := DV_mono (QV_le a0 a1)
    have hs := dew_sat c
    rw [w64s (by omega) (by omega), decide_eq_false (show ¬ DV (QV a0 a1) > mn a0 200000 + 7 by omega)]
    exact h0
  · simp only [if_neg c]
    exact h0
end Go.Proofs.YtbfcplnaafnlhaaDoor.Pure
