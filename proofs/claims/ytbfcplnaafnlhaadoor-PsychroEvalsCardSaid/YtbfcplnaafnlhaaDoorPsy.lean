-- What the functions of moist air compute: saturation, dew, ratio, humidity, enthalpy; the program's.
import Derived.Test.YtbfcplnaafnlhaaDoorAr
import Derived.Test.YtbfcplnaafnlhaaDoorSat
import Derived.Test.YtbfcplnaafnlhaaDoorDew
import Derived.Test.YtbfcplnaafnlhaaDoorPTx14
import Derived.Test.YtbfcplnaafnlhaaDoorPTx29
namespace Go.Proofs.YtbfcplnaafnlhaaDoor.Pure
open Go.RowKit Go.Proofs.YtbfcplnaafnlhaaDoor.PT Go.Proofs.YtbfcplnaafnlhaaDoorW.PrintWords Go.Proofs.YtbfcplnaafnlhaaDoorW.PrintLast Go.Proofs.YtbfcplnaafnlhaaDoorW.PrintMore
set_option linter.unusedVariables false
set_option linter.unusedSimpArgs false
theorem wfb {x : Int} (h : (Lit.int .i64 x).wf = true) : -9223372036854775808 ≤ x ∧ x ≤ 9223372036854775807 := by
  simp only [Lit.wf, Bool.and_eq_true, decide_eq_true_eq] at h
  exact h
/-- The points of saturated air: temperature and ratio; and the other way round. -/
def sT : List S37 := [⟨-15000, 1020⟩, ⟨-10000, 1603⟩, ⟨-5000, 2487⟩, ⟨0, 3789⟩, ⟨5000, 5424⟩, ⟨10000, 7661⟩, ⟨15000, 10694⟩, ⟨20000, 14757⟩, ⟨25000, 20170⟩, ⟨30000, 27329⟩, ⟨35000, 36756⟩, ⟨40000, 49141⟩, ⟨45000, 65411⟩, ⟨50000, 86858⟩, ⟨55000, 115321⟩, ⟨60000, 153540⟩]
def dT : List S37 := [⟨1020, -15000⟩, ⟨1603, -10000⟩, ⟨2487, -5000⟩, ⟨3789, 0⟩, ⟨5424, 5000⟩, ⟨7661, 10000⟩, ⟨10694, 15000⟩, ⟨14757, 20000⟩, ⟨20170, 25000⟩, ⟨27329, 30000⟩, ⟨36756, 35000⟩, ⟨49141, 40000⟩, ⟨65411, 45000⟩, ⟨86858, 50000⟩, ⟨115321, 55000⟩, ⟨153540, 60000⟩]
def sK : List S37 := ⟨-20000, 637⟩ :: sT
def dK : List S37 := ⟨637, -20000⟩ :: dT
theorem nS (i : Nat) (h : i < 17) : (kn sK i).f0 = -20000 + 5000 * (i : Int) ∧ (kn sK i).f1 = rd tbl i := by
  match i, h with
  | 0, _ | 1, _ | 2, _ | 3, _ | 4, _ | 5, _ | 6, _ | 7, _ | 8, _ | 9, _ | 10, _ | 11, _ | 12, _ | 13, _ | 14, _ | 15, _ | 16, _ => decide
  | n + 17, h => omega
theorem nD (i : Nat) (h : i < 17) : (kn dK i).f1 = -20000 + 5000 * (i : Int) ∧ (kn dK i).f0 = rd tbl i := by
  match i, h with
  | 0, _ | 1, _ | 2, _ | 3, _ | 4, _ | 5, _ | 6, _ | 7, _ | 8, _ | 9, _ | 10, _ | 11, _ | 12, _ | 13, _ | 14, _ | 15, _ | 16, _ => decide
  | n + 17, h => omega
theorem tbl_bd (i : Nat) (h : i < 17) : 637 ≤ rd tbl i ∧ rd tbl i ≤ 153540 := by
  match i, h with
  | 0, _ | 1, _ | 2, _ | 3, _ | 4, _ | 5, _ | 6, _ | 7, _ | 8, _ | 9, _ | 10, _ | 11, _ | 12, _ | 13, _ | 14, _ | 15, _ | 16, _ => decide
  | n + 17, h => omega
theorem tbl_lt (i : Nat) (h : i < 16) : rd tbl i < rd tbl ((i + 1 : Nat) : Int) := by
  match i, h with
  | 0, _ | 1, _ | 2, _ | 3, _ | 4, _ | 5, _ | 6, _ | 7, _ | 8, _ | 9, _ | 10, _ | 11, _ | 12, _ | 13, _ | 14, _ | 15, _ => decide
  | n + 16, h => omega
theorem incS : Inc ⟨-20000, 637⟩ sT := by simp [Inc, sT]
theorem upS : Up ⟨-20000, 637⟩ sT := by simp [Up, sT]
theorem incD : Inc ⟨637, -20000⟩ dT := by simp [Inc, dT]
theorem upD : Up ⟨637, -20000⟩ dT := by simp [Up, dT]
def SV (t : Int) : Int := V sK (lim (-100000) 200000 t)
def DV (w : Int) : Int := V dK (lim 0 1000000 w)
theorem lim_mono {lo hi a b : Int} (h : a ≤ b) : lim lo hi a ≤ lim lo hi b := by unfold lim mx mn; repeat (first | omega | split)
theorem SV_mono {t u : Int} (h : t ≤ u) : SV t ≤ SV u := V_up incS upS (lim_mono h)
theorem DV_mono {t u : Int} (h : t ≤ u) : DV t ≤ DV u := V_up incD upD (lim_mono h)
theorem V_sT_low {t : Int} (h : t ≤ -20000) : V sK t = 637 := by unfold sK; rw [V_cons, if_pos h]
theorem V_sT_high {t : Int} (h : 60000 ≤ t) : V sK t = 153540 := by
  unfold sK
  rw [V_cons, if_neg (show ¬ t ≤ (-20000 : Int) by omega), Vr_last sT _ t incS (by show (60000 : Int) ≤ t; exact h)]
  rfl
theorem V_dT_low {t : Int} (h : t ≤ 637) : V dK t = -20000 := by unfold dK; rw [V_cons, if_pos h]
theorem V_dT_high {t : Int} (h : 153540 ≤ t) : V dK t = 60000 := by
  unfold dK
  rw [V_cons, if_neg (show ¬ t ≤ (637 : Int) by omega), Vr_last dT _ t incD (by show (153540 : Int) ≤ t; exact h)]
  rfl
theorem SV_bd (t : Int) : 637 ≤ SV t ∧ SV t ≤ 153540 := by
  unfold SV
  have h1 := V_up incS upS (show min (lim (-100000) 200000 t) (-20000) ≤ lim (-100000) 200000 t by omega)
  have h2 := V_up incS upS (show lim (-100000) 200000 t ≤ max (lim (-100000) 200000 t) 60000 by omega)
  have e1 : V (⟨-20000, 637⟩ :: sT) (min (lim (-100000) 200000 t) (-20000)) = 637 := V_sT_low (by omega)
  have e2 : V (⟨-20000, 637⟩ :: sT) (max (lim (-100000) 200000 t) 60000) = 153540 := V_sT_high (by omega)
  rw [e1] at h1
  rw [e2] at h2
  exact ⟨h1, h2⟩
theorem sat_ev (t : Int) : Ev (fun k => psychro_Saturation.f k t) (SV t) := by
  unfold psychro_Saturation.f SV
  have hb := lim_bd (lo := -100000) (hi := 200000) (a := t) (by omega)
  generalize lim (-100000) 200000 t = T at *
  by_cases c1 : T ≤ -20000
  · simp only [if_pos c1]
    rw [V_sT_low c1]
    exact Ev.now _
  simp only [if_neg c1]
  by_cases c2 : T ≥ 60000
  · simp only [if_pos c2]
    rw [V_sT_high c2]
    exact Ev.now _
  simp only [if_neg c2]
  obtain ⟨i, hi⟩ : ∃ i : Nat, stp T = (i : Int) := ⟨(stp T).toNat, by unfold stp; omega⟩
  have hi' : (T + 20000) / 5000 = (i : Int) := hi
  have hlt : i < 16 := by omega
  obtain ⟨a0, a1⟩ := nS i (by omega)
  obtain ⟨b0, b1⟩ := nS (i + 1) (by omega)
  have e : V sK T = ip (kn sK i) (kn sK (i + 1)) T := by
    unfold sK
    rw [V_cons, if_neg (show ¬ T ≤ (-20000 : Int) by omega)]
    exact Vr_at sT _ i T incS (by show i < 16; exact hlt) (by show (kn sK i).f0 ≤ T; rw [a0]; omega) (by show T < (kn sK (i + 1)).f0; rw [b0]; omega)
  have t0 := tbl_bd i (by omega)
  have t1 := tbl_bd (i + 1) (by omega)
  rw [e]
  refine Ev.congr (fun k => ?_) (fline_ev (a := kn sK i) (b := kn sK (i + 1)) (x := T) (by rw [a0]; unfold sml; omega) (by rw [a1]; unfold sml; omega) (by rw [b0]; unfold sml; omega) (by rw [b1]; unfold sml; omega) (by rw [a0]; omega) (by rw [b0]; omega) (by rw [a0, b0]; omega))
  rw [hi, a0, a1, b0, b1, show -20000 + 5000 * (((i + 1 : Nat)) : Int) = -20000 + 5000 * (i : Int) + 5000 by omega, show ((i + 1 : Nat) : Int) = (i : Int) + 1 by omega]
theorem dK_drop (i : Nat) (h : i < 17) : dK.drop i = kn dK i :: dK.drop (i + 1) := by
  match i, h with
  | 0, _ | 1, _ | 2, _ | 3, _ | 4, _ | 5, _ | 6, _ | 7, _ | 8, _ | 9, _ | 10, _ | 11, _ | 12, _ | 13, _ | 14, _ | 15, _ | 16, _ => rfl
  | n + 17, h => omega
theorem sK_drop (i : Nat) (h : i < 17) : sK.drop i = kn sK i :: sK.drop (i + 1) := by
  match i, h with
  | 0, _ | 1, _ | 2, _ | 3, _ | 4, _ | 5, _ | 6, _ | 7, _ | 8, _ | 9, _ | 10, _ | 11, _ | 12, _ | 13, _ | 14, _ | 15, _ | 16, _ => rfl
  | n + 17, h => omega
theorem dew_loop {T : Int} (h0 : 0 ≤ T) (h1 : T ≤ 1000000) : ∀ (n i : Nat), i + 1 + n = 17 → rd tbl i ≤ T → Ev (fun k => dwGo k T n ((i + 1 : Nat) : Int)) (Vr (kn dK i) (dK.drop (i + 1)) T)
  | 0, i, hi, hT => by
    obtain rfl : i = 16 := by omega
    exact Ev.now _
  | n + 1, i, hi, hT => by
    obtain ⟨a0, a1⟩ := nD i (by omega)
    obtain ⟨b0, b1⟩ := nD (i + 1) (by omega)
    have t0 := tbl_bd i (by omega)
    have t1 := tbl_bd (i + 1) (by omega)
    have tl := tbl_lt i (by omega)
    rw [dK_drop (i + 1) (by omega)]
    unfold dwGo Vr
    rw [b1]
    by_cases c : T < rd tbl ((i + 1 : Nat) : Int)
    · simp only [if_pos c]
      refine Ev.congr (fun k => ?_) (fline_ev (a := kn dK i) (b := kn dK (i + 1)) (x := T) (by rw [a1]; unfold sml; omega) (by rw [a0]; unfold sml; omega) (by rw [b1]; unfold sml; omega) (by rw [b0]; unfold sml; omega) (by rw [a1]; omega) (by rw [b1]; omega) (by rw [a1, b1]; omega))
      rw [a0, a1, b0, b1, show ((i + 1 : Nat) : Int) - 1 = (i : Int) by omega, show -20000 + 5000 * (((i + 1 : Nat)) : Int) = -20000 + 5000 * (i : Int) + 5000 by omega]
    · simp only [if_neg c]
      have ih := dew_loop h0 h1 n (i + 1) (by omega) (by omega)
      refine Ev.congr (fun k => ?_) ih
      rw [show ((i + 1 : Nat) : Int) + 1 = ((i + 1 + 1 : Nat) : Int) by omega]
theorem dew_ev (w : Int) : Ev (fun k => psychro_Dew.f k w) (DV w) := by
  unfold psychro_Dew.f DV
  have hb := lim_bd (lo := 0) (hi := 1000000) (a := w) (by omega)
  generalize lim 0 1000000 w = T at *
  by_cases c : T ≤ 637
  · simp only [if_pos c]
    rw [V_dT_low c]
    exact Ev.now _
  simp only [if_neg c]
  have h := dew_loop hb.1 hb.2 16 0 (by omega) (by show (637 : Int) ≤ T; omega)
  have e : V dK T = Vr (kn dK 0) (dK.drop (0 + 1)) T := by
    unfold dK
    rw [V_cons, if_neg (show ¬ T ≤ (637 : Int) by omega)]
    rfl
  rw [e]
  exact h
/-! ### ratio, humidity, enthalpy -/
def QV (t h : Int) : Int := R (SV t * lim 0 100000 h) 100000
def HV (t w : Int) : Int := mn 100000 (R (lim 0 1000000 w * 100000) (SV t))
def XV (T : Int) : Int := 2501000 + R (T * 1860) 1000
def EV (t w : Int) : Int := R (lim (-100000) 200000 t * 1006) 1000 + R (lim 0 1000000 w * XV (lim (-100000) 200000 t)) 1000000
theorem mulb {a b A B : Int} (a0 : 0 ≤ a) (a1 : a ≤ A) (b0 : 0 ≤ b) (b1 : b ≤ B) : 0 ≤ a * b ∧ a * b ≤ A * B := ⟨Int.mul_nonneg a0 b0, Int.mul_le_mul a1 b1 b0 (by omega)⟩
theorem ratio_ev (t h : Int) : Ev (fun k => psychro_Ratio.f k t h) (QV t h) := by
  have hs := SV_bd t
  have hb := lim_bd (lo := 0) (hi := 100000) (a := h) (by omega)
  have hm := mulb (by omega) hs.2 hb.1 hb.2
  unfold psychro_Ratio.f
  refine Ev.bind (sat_ev t) ?_
  simp only [limit_f, Option.bind_some]
  refine Ev.bind (a := QV t h) (muldiv_ev (a := SV t) (b := lim 0 100000 h) (c := 100000) (by unfold big; omega) hb.1 (by omega) (by omega) (by omega) (by omega) (by omega)) ?_
  exact Ev.now _
theorem hum_ev (t w : Int) : Ev (fun k => psychro_Humidity.f k t w) (HV t w) := by
  have hs := SV_bd t
  have hb := lim_bd (lo := 0) (hi := 1000000) (a := w) (by omega)
  unfold psychro_Humidity.f
  simp only [limit_f, Option.bind_some]
  refine Ev.bind (sat_ev t) ?_
  refine Ev.bind (muldiv_ev (a := lim 0 1000000 w) (b := 100000) (c := SV t) (by unfold big; omega) (by omega) (by omega) (by omega) (by omega) (by omega) (by omega)) ?_
  exact Ev.now _
theorem XV_bd {T : Int} (h0 : -100000 ≤ T) (h1 : T ≤ 200000) : 2315000 ≤ XV T ∧ XV T ≤ 2873000 := by
  unfold XV R
  split <;> omega
theorem EV_bd (t w : Int) : -100600 ≤ EV t w ∧ EV t w ≤ 3074201 := by
  have ht := lim_bd (lo := -100000) (hi := 200000) (a := t) (by omega)
  have hw := lim_bd (lo := 0) (hi := 1000000) (a := w) (by omega)
  have hx := XV_bd ht.1 ht.2
  have hm := mulb hw.1 hw.2 (show 0 ≤ XV (lim (-100000) 200000 t) by omega) hx.2
  unfold EV
  generalize lim 0 1000000 w * XV (lim (-100000) 200000 t) = m at *
  unfold R
  split <;> split <;> omega
theorem enth_ev (t w : Int) : Ev (fun k => psychro_Enthalpy.f k t w) (EV t w) := by
  have ht := lim_bd (lo := -100000) (hi := 200000) (a := t) (by omega)
  have hw := lim_bd (lo := 0) (hi := 1000000) (a := w) (by omega)
  have hx := XV_bd ht.1 ht.2
  have hm := mulb hw.1 hw.2 (show 0 ≤ XV (lim (-100000) 200000 t) by omega) hx.2
  have he := EV_bd t w
  unfold EV XV at he
  unfold XV at hx hm
  unfold psychro_Enthalpy.f
  simp only [limit_f, Option.bind_some]
  refine Ev.bind (muldiv_ev (a := lim (-100000) 200000 t) (b := 1006) (c := 1000) (by unfold big; omega) (by omega) (by omega) (by omega) (by omega) (by omega) (by omega)) ?_
  refine Ev.bind (muldiv_ev (a := lim (-100000) 200000 t) (b := 1860) (c := 1000) (by unfold big; omega) (by omega) (by omega) (by omega) (by omega) (by omega) (by omega)) ?_
  rw [w64s (x := 2501000 + R (lim (-100000) 200000 t * 1860) 1000) (by omega) (by omega)]
  refine Ev.bind (muldiv_ev (a := lim 0 1000000 w) (b := 2501000 + R (lim (-100000) 200000 t * 1860) 1000) (c := 1000000) (by unfold big; omega) (by omega) (by omega) (by omega) (by omega) (by omega) (by omega)) ?_
  rw [w64s (by omega) (by omega)]
  exact Ev.now _
theorem QV_mono {t u h k : Int} (h1 : t ≤ u) (h2 : h ≤ k) : QV t h ≤ QV u k := by
  have hb := lim_bd (lo := 0) (hi := 100000) (a := h) (by omega)
  have hs := SV_bd u
  exact R_mono (by omega) (Int.mul_le_mul (SV_mono h1) (lim_mono h2) hb.1 (by omega))
theorem HV_mono {t v w : Int} (h : v ≤ w) : HV t v ≤ HV t w := by
  have hs := SV_bd t
  have := R_mono (w := SV t) (by omega) (Int.mul_le_mul_of_nonneg_right (lim_mono (lo := 0) (hi := 1000000) h) (show (0 : Int) ≤ 100000 by omega))
  unfold HV mn
  split <;> split <;> omega
theorem EV_mono {t u v w : Int} (h : t ≤ u) (h' : v ≤ w) : EV t v ≤ EV u w := by
  have ht := lim_bd (lo := -100000) (hi := 200000) (a := t) (by omega)
  have hw := lim_bd (lo := 0) (hi := 1000000) (a := w) (by omega)
  have hl := lim_mono (lo := -100000) (hi := 200000) h
  have hx := XV_bd ht.1 ht.2
  have hX : XV (lim (-100000) 200000 t) ≤ XV (lim (-100000) 200000 u) := by
    have := R_mono (w := 1000) (by omega) (show lim (-100000) 200000 t * 1860 ≤ lim (-100000) 200000 u * 1860 by omega)
    unfold XV
    omega
  have h1 := R_mono (w := 1000) (by omega) (show lim (-100000) 200000 t * 1006 ≤ lim (-100000) 200000 u * 1006 by omega)
  have h2 := R_mono (w := 1000000) (by omega) (Int.mul_le_mul (lim_mono (lo := 0) (hi := 1000000) h') hX (by omega) hw.1)
  unfold EV
  omega
end Go.Proofs.YtbfcplnaafnlhaaDoor.Pure
