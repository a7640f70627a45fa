-- What the reference tells of saturation, dew, ratio, humidity.
import Derived.Test.YtbfcplnaafnlhaaDoorPsy
import Derived.Test.YtbfcplnaafnlhaaDoorPTx28
import Derived.Test.YtbfcplnaafnlhaaDoorPTx29
import Derived.Test.YtbfcplnaafnlhaaDoorPTx31
import Derived.Test.YtbfcplnaafnlhaaDoorPTx30
namespace Go.Proofs.YtbfcplnaafnlhaaDoor.Pure
open Go.RowKit Go.Proofs.YtbfcplnaafnlhaaDoor.PT Go.Proofs.YtbfcplnaafnlhaaDoorW.PrintWords Go.Proofs.YtbfcplnaafnlhaaDoorW.PrintLast Go.Proofs.YtbfcplnaafnlhaaDoorW.PrintMore
set_option linter.unusedVariables false
set_option linter.unusedSimpArgs false
theorem rtmp (t : Int) : plenumref22_temperature.f t = some (lim (-100000) 200000 t) := rfl
theorem rrat (t : Int) : plenumref22_ratio.f t = some (lim 0 1000000 t) := rfl
theorem rflw (t : Int) : plenumref22_flow.f t = some (lim 0 1000000000 t) := rfl
theorem rlim (a lo hi : Int) : plenumref22_limit.f a lo hi = some (lim lo hi a) := rfl
theorem rtab : plenumref22_table.f = some tbl := rfl
theorem deg (i : Nat) (h : i < 17) : plenumref22_degrees.f (i : Int) = some (-20000 + 5000 * (i : Int)) := by
  unfold plenumref22_degrees.f
  rw [w64s (x := 5000 * (i : Int)) (by omega) (by omega), w64s (by omega) (by omega)]
theorem tlen : (tbl.length : Int) = 17 := by decide
theorem okS (i : Nat) (h : i < 17) : okI (kn sK i) := by
  have := nS i h
  have := tbl_bd i h
  unfold okI
  omega
theorem okD (i : Nat) (h : i < 17) : okI (kn dK i) := by
  have := nD i h
  have := tbl_bd i h
  unfold okI
  omega
theorem rsat_end (T : Int) : Ev (fun k => plenumref22_Saturation.l0 k T tbl 17) 153540 := by
  refine evs (f := fun k => some _) (fun k => ?_) (Ev.now _)
  simp only [plenumref22_Saturation.l0, tlen]
  rw [if_neg (by omega), show (17 : Int) - 1 = 16 by omega, w64s (x := (16 : Int)) (by omega) (by omega), if_pos (by omega), if_pos (by omega), show rd tbl 16 = 153540 by decide]
theorem degS (i : Nat) (h : i < 17) : plenumref22_degrees.f (i : Int) = some (kn sK i).f0 := by rw [deg i h, (nS i h).1]
theorem rsat_in (T : Int) (i : Nat) (hi : i < 16) (hT : (kn sK i).f0 ≤ T) (c : T < (kn sK (i + 1)).f0) : Ev (fun k => plenumref22_Saturation.l0 k T tbl ((i + 1 : Nat) : Int)) (ip (kn sK i) (kn sK (i + 1)) T) := by
  have a1 := (nS i (by omega)).2
  have b1 := (nS (i + 1) (by omega)).2
  have d0 := degS i (by omega)
  have d1 := degS (i + 1) (by omega)
  have hl := rline_ev (okS i (by omega)) (okS (i + 1) (by omega)) hT c
  generalize ip (kn sK i) (kn sK (i + 1)) T = v at *
  rw [a1, b1] at hl
  generalize (kn sK i).f0 = D0 at *
  generalize (kn sK (i + 1)).f0 = D1 at *
  refine evs (f := fun k => (plenumref01_Line.f k T D0 (rd tbl i) D1 (rd tbl ((i + 1 : Nat) : Int))).bind fun t234 => (some t234)) (fun k => ?_) (Ev.bind hl (Ev.now _))
  simp only [plenumref22_Saturation.l0, tlen]
  rw [if_pos (by omega), d1]
  simp only [Option.bind_some]
  rw [if_pos c, w64s (x := ((i + 1 : Nat) : Int) - 1) (by omega) (by omega), show ((i + 1 : Nat) : Int) - 1 = (i : Int) by omega, d0]
  simp only [Option.bind_some]
  rw [if_pos (by omega), if_pos (by omega), if_pos (by omega)]
theorem rsat_on (T : Int) (i : Nat) (hi : i < 16) (c : ¬ T < (kn sK (i + 1)).f0) (k : Nat) : plenumref22_Saturation.l0 (k + 1) T tbl ((i + 1 : Nat) : Int) = plenumref22_Saturation.l0 k T tbl ((i + 1 + 1 : Nat) : Int) := by
  have d1 := degS (i + 1) (by omega)
  generalize (kn sK (i + 1)).f0 = D1 at *
  simp only [plenumref22_Saturation.l0, tlen]
  rw [if_pos (by omega), d1]
  simp only [Option.bind_some]
  rw [if_neg c, w64s (by omega) (by omega), show ((i + 1 : Nat) : Int) + 1 = ((i + 1 + 1 : Nat) : Int) by omega]
theorem rsat_loop {T : Int} : ∀ (n i : Nat), i + 1 + n = 17 → (kn sK i).f0 ≤ T → Ev (fun k => plenumref22_Saturation.l0 k T tbl ((i + 1 : Nat) : Int)) (Vr (kn sK i) (sK.drop (i + 1)) T) := by
  intro n
  induction n with
  | zero =>
    intro i hi hT
    obtain rfl : i = 16 := by omega
    have e2 : Vr (kn sK 16) (sK.drop (16 + 1)) T = 153540 := rfl
    rw [e2]
    exact rsat_end T
  | succ n ih =>
    intro i hi hT
    rw [sK_drop (i + 1) (by omega)]
    unfold Vr
    by_cases c : T < (kn sK (i + 1)).f0
    · rw [if_pos c]
      exact rsat_in T i (by omega) hT c
    · rw [if_neg c]
      exact evs (rsat_on T i (by omega) c) (ih (i + 1) (by omega) (by omega))
theorem rsat_ev (t : Int) : Ev (fun k => plenumref22_Saturation.f k t) (SV t) := by
  unfold plenumref22_Saturation.f SV
  simp only [rtmp, rtab, Option.bind_some, tlen]
  generalize lim (-100000) 200000 t = T at *
  by_cases c : T ≤ -20000
  · simp only [if_pos c, show (0 : Int) < 17 by omega, if_true]
    rw [V_sT_low c]
    exact Ev.now _
  simp only [if_neg c]
  have h := rsat_loop (T := T) 16 0 (by omega) (by show (-20000 : Int) ≤ T; omega)
  have e : V sK T = Vr (kn sK 0) (sK.drop (0 + 1)) T := by
    unfold sK
    rw [V_cons, if_neg (show ¬ T ≤ (-20000 : Int) by omega)]
    rfl
  rw [e]
  exact h
theorem rdew_loop {T : Int} : ∀ (n i : Nat), i + 1 + n = 17 → (kn dK i).f0 ≤ T → Ev (fun k => plenumref22_Dew.l0 k T tbl ((i + 1 : Nat) : Int)) (Vr (kn dK i) (dK.drop (i + 1)) T)
  | 0, i, hi, hT => by
    obtain rfl : i = 16 := by omega
    have e2 : Vr (kn dK 16) (dK.drop (16 + 1)) T = 60000 := rfl
    rw [e2]
    refine evs (f := fun k => some _) (fun k => ?_) (Ev.now _)
    simp only [plenumref22_Dew.l0, tlen]
    rw [if_neg (by omega)]
  | n + 1, i, hi, hT => by
    obtain ⟨a1, a0⟩ := nD i (by omega)
    obtain ⟨b1, b0⟩ := nD (i + 1) (by omega)
    rw [dK_drop (i + 1) (by omega)]
    unfold Vr
    by_cases c : T < (kn dK (i + 1)).f0
    · rw [if_pos c]
      have hl := rline_ev (okD i (by omega)) (okD (i + 1) (by omega)) hT c
      rw [a0, a1, b0, b1] at hl
      refine evs (f := fun k => (plenumref01_Line.f k T (rd tbl i) (-20000 + 5000 * (i : Int)) (rd tbl ((i + 1 : Nat) : Int)) (-20000 + 5000 * ((i + 1 : Nat) : Int))).bind fun t234 => (some t234)) (fun k => ?_) (Ev.bind hl (Ev.now _))
      simp only [plenumref22_Dew.l0, tlen]
      rw [if_pos (by omega), if_pos (by omega), if_pos (by rw [← b0]; exact c), w64s (x := ((i + 1 : Nat) : Int) - 1) (by omega) (by omega), show ((i + 1 : Nat) : Int) - 1 = (i : Int) by omega, if_pos (by omega), if_pos (by omega), deg i (by omega), deg (i + 1) (by omega)]
      simp only [Option.bind_some]
    · rw [if_neg c]
      refine evs (fun k => ?_) (rdew_loop n (i + 1) (by omega) (by omega))
      simp only [plenumref22_Dew.l0, tlen]
      rw [if_pos (by omega), if_pos (by omega), if_neg (by rw [← b0]; exact c), w64s (by omega) (by omega), show ((i + 1 : Nat) : Int) + 1 = ((i + 1 + 1 : Nat) : Int) by omega]
theorem rdew_ev (w : Int) : Ev (fun k => plenumref22_Dew.f k w) (DV w) := by
  unfold plenumref22_Dew.f DV
  simp only [rrat, rtab, Option.bind_some, tlen, show (0 : Int) < 17 by omega, if_true, show rd tbl 0 = 637 from rfl]
  generalize lim 0 1000000 w = T at *
  by_cases c : T ≤ 637
  · simp only [if_pos c]
    rw [V_dT_low c]
    exact Ev.now _
  simp only [if_neg c]
  have h := rdew_loop (T := T) 16 0 (by omega) (by show (637 : Int) ≤ T; omega)
  have e : V dK T = Vr (kn dK 0) (dK.drop (0 + 1)) T := by
    unfold dK
    rw [V_cons, if_neg (show ¬ T ≤ (637 : Int) by omega)]
    rfl
  rw [e]
  exact h
theorem rratio_ev (t h : Int) : Ev (fun k => plenumref22_Ratio.f k t h) (QV t h) := by
  have hs := SV_bd t
  have hb := lim_bd (lo := 0) (hi := 100000) (a := h) (by omega)
  have hm := mulb (by omega) hs.2 hb.1 hb.2
  unfold plenumref22_Ratio.f
  refine Ev.bind (rsat_ev t) ?_
  simp only [rlim, Option.bind_some]
  refine Ev.bind (a := QV t h) (rmuldiv_ev (a := SV t) (b := lim 0 100000 h) (c := 100000) (by unfold big; omega) hb.1 (by omega) (by omega) (by omega) (by omega) (by omega)) ?_
  exact Ev.now _
theorem rhum_ev (t w : Int) : Ev (fun k => plenumref22_Humidity.f k t w) (HV t w) := by
  have hs := SV_bd t
  have hb := lim_bd (lo := 0) (hi := 1000000) (a := w) (by omega)
  unfold plenumref22_Humidity.f
  simp only [rrat, Option.bind_some]
  refine Ev.bind (rsat_ev t) ?_
  refine Ev.bind (rmuldiv_ev (a := lim 0 1000000 w) (b := 100000) (c := SV t) (by unfold big; omega) (by omega) (by omega) (by omega) (by omega) (by omega) (by omega)) ?_
  exact Ev.now _
end Go.Proofs.YtbfcplnaafnlhaaDoor.Pure
