import Derived.Test.YteigdhpchkkloaaDoorPTx37
import Derived.Test.YteigdhpchkkloaaDoorPTx36
import Derived.Test.YteigdhpchkkloaaDoorCtl
namespace Go.Proofs.YteigdhpchkkloaaDoor.Pure
open Go.RowKit Go.Proofs.YteigdhpchkkloaaDoor.PT Go.Proofs.YteigdhpchkkloaaDoorW.PrintWords Go.Proofs.YteigdhpchkkloaaDoorW.PrintLast Go.Proofs.YteigdhpchkkloaaDoorW.PrintMore
set_option linter.unusedVariables false
set_option linter.unusedSimpArgs false
/-- Without an error the output stays. -/
theorem tracks_loop {k0 k1 k2 k3 : Int} (k4 : Bool) {set out dt scans : Int} (hV : Vs k0 k1 k2 k3) (hti : k1 ≠ 0) (hd : 1 ≤ dt ∧ dt ≤ 86400) (hs : scans ≤ 30) : ∀ (m : Nat) (i : Int), 0 ≤ i → (scans - i).toNat = m →
    Ev (fun k => plenumlaw20_PidTracks.l0 k set out dt scans i k0 k1 k2 k3 k4 k0 k1 k2 k3 k4 true (mx k2 (mn k3 out)) 0) true
  | 0, i, hi, hm => by
    refine evs (f := fun k => some true) (fun k => ?_) (Ev.now _)
    simp only [plenumlaw20_PidTracks.l0]
    rw [if_neg (by omega)]
    rfl
  | m + 1, i, hi, hm => by
    obtain ⟨p, hp, hpR, hp0⟩ := prop_in k0 k1 k2 k3 k4 set set
    obtain rfl := hp0 rfl
    have hVV := hV
    simp only [Vs, inR] at hVV
    have hL : k2 ≤ mx k2 (mn k3 out) ∧ mx k2 (mn k3 out) ≤ k3 := by unfold mx mn; repeat (first | omega | split)
    have hc := control_ev (x0 := true) (x1 := mx k2 (mn k3 out)) (x2 := 0) (dt := dt) k4 hV hti (by omega) (by omega) hd hp hpR
    have e1 : nsum k1 k2 k3 0 (sm true (mx k2 (mn k3 out)) k2 0) (rs true 0) dt = mx k2 (mn k3 out) := by
      unfold nsum sm rs
      simp only [if_true, Int.zero_mul, Int.add_zero, Int.zero_tdiv, Int.sub_zero]
      generalize mx k2 (mn k3 out) = L at *
      unfold mx mn
      repeat (first | omega | split)
    have e2 : nrest k1 k2 k3 0 (sm true (mx k2 (mn k3 out)) k2 0) (rs true 0) dt = 0 := by
      unfold nrest sm rs
      simp only [if_true, Int.zero_mul, Int.add_zero, Int.zero_tdiv, Int.zero_tmod]
      split <;> rfl
    rw [e1, e2, Int.zero_add] at hc
    refine evu ?_
    simp only [plenumlaw20_PidTracks.l0, if_pos (show i < scans by omega)]
    refine Ev.bind hc ?_
    simp only [if_true]
    rw [w64s (x := i + 1) (by omega) (by omega)]
    exact tracks_loop k4 hV hti hd hs m (i + 1) (by omega) (by omega)
/-- A controller that was tracked goes on from the output. -/
theorem PidTracks : plenumlaw20_PidTracks.Pure := by
  intro k0 k1 k2 k3 k4 set out dt scans
  intros
  refine Ev.rounds (g := fun k => plenumlaw20_PidTracks.f k k0 k1 k2 k3 k4 set out dt scans) ?_
  have ht : ∀ y0 y1 y2, Ev (fun k => plenumlaw20_PidTracks.j0 k set out dt scans true k0 k1 k2 k3 k4 k0 k1 k2 k3 k4 y0 y1 y2) true := fun _ _ _ => evs (f := fun k => some true) (fun k => rfl) (Ev.now _)
  unfold plenumlaw20_PidTracks.f
  have hck := check_ev k0 k1 k2 k3 k4
  by_cases hV : Vs k0 k1 k2 k3
  · rw [if_pos hV] at hck
    have hVV := hV
    simp only [Vs, inR] at hVV
    obtain ⟨p, hp, hpR, hp0⟩ := prop_in k0 k1 k2 k3 k4 set set
    obtain rfl := hp0 rfl
    have hL : k2 ≤ mx k2 (mn k3 out) ∧ mx k2 (mn k3 out) ≤ k3 := by unfold mx mn; repeat (first | omega | split)
    by_cases hti : k1 = 0
    · have htr : Ev (fun k => pid_Track.f k k0 k1 k2 k3 k4 set set out) (true, k2, 0, 0) := by
        unfold pid_Track.f
        refine Ev.bind hck ?_
        simp only [if_true, if_pos hti]
        exact Ev.now _
      refine Ev.bind htr ?_
      simp only [if_true, if_pos hti]
      by_cases c1 : dt < 1
      · simp only [if_pos c1]; exact ht _ _ _
      simp only [if_neg c1]
      by_cases c2 : dt > 86400
      · simp only [if_pos c2]; exact ht _ _ _
      simp only [if_neg c2]
      exact ht _ _ _
    · have htr : Ev (fun k => pid_Track.f k k0 k1 k2 k3 k4 set set out) (true, mx k2 (mn k3 out), 0, 0) := by
        unfold pid_Track.f
        refine Ev.bind hck ?_
        simp only [if_true, if_neg hti, pid_limited.f, Option.bind_some]
        refine Ev.bind hp ?_
        rw [Int.sub_zero, w64s (by omega) (by omega)]
        exact Ev.now _
      refine Ev.bind htr ?_
      simp only [if_true, if_neg hti]
      by_cases c1 : dt < 1
      · simp only [if_pos c1]; exact ht _ _ _
      simp only [if_neg c1]
      by_cases c2 : dt > 86400
      · simp only [if_pos c2]; exact ht _ _ _
      simp only [if_neg c2]
      by_cases c3 : scans > 30
      · rw [decide_eq_true c3]; exact ht _ _ _
      · rw [decide_eq_false c3]
        exact evs (f := fun k => plenumlaw20_PidTracks.l0 k set out dt scans 0 k0 k1 k2 k3 k4 k0 k1 k2 k3 k4 true (mx k2 (mn k3 out)) 0) (fun k => rfl) (tracks_loop k4 hV hti (by omega) (by omega) _ 0 (by omega) rfl)
  · rw [if_neg hV] at hck
    have htr : Ev (fun k => pid_Track.f k k0 k1 k2 k3 k4 set set out) (false, 0, 0, 1) := by
      unfold pid_Track.f
      refine Ev.bind hck ?_
      simp only [show ¬ ((1 : Int) = 0) by omega, if_false]
      exact Ev.now _
    refine Ev.bind htr ?_
    simp only [show ¬ ((1 : Int) = 0) by omega, if_false]
    exact ht _ _ _
end Go.Proofs.YteigdhpchkkloaaDoor.Pure
