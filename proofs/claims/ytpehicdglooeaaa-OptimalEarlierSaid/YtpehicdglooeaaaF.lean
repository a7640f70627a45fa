/- What the functions of the thermal model answer, in plain words. -/
import Derived.Test.YtpehicdglooeaaaM
import Derived.Test.YtpehicdglooeaaaPTx2
import Derived.Test.YtpehicdglooeaaaPTx7
import Derived.Test.YtpehicdglooeaaaPTx8
import Derived.Test.YtpehicdglooeaaaPTx9
import Derived.Test.YtpehicdglooeaaaPTx31
import Derived.Test.YtpehicdglooeaaaPTx26
import Derived.Test.YtpehicdglooeaaaPTx24
namespace Go.Proofs.Ytpehicdglooeaaa.M
open Go.RowKit Go.Proofs.Ytpehicdglooeaaa.PT Go.Proofs.YtpehicdglooeaaaW.PrintWords Go.Proofs.YtpehicdglooeaaaW.PrintLast Go.Proofs.YtpehicdglooeaaaW.PrintMore

theorem chk_ok {z0 z1 : Int} (h : Zok z0 z1) : thermal_Check.f z0 z1 = some 0 := by
  obtain ⟨a, b, c, e⟩ := h
  unfold thermal_Check.f
  rw [if_neg (by omega), if_neg (by omega), if_neg (by omega), if_neg (by omega)]
theorem chk_no {z0 z1 : Int} (h : ¬ Zok z0 z1) : thermal_Check.f z0 z1 = some 6 := by
  unfold thermal_Check.f
  repeat' split
  all_goals first | rfl | exact absurd ⟨by omega, by omega, by omega, by omega⟩ h
theorem rchk (z0 z1 : Int) : plenumref35_Check.f z0 z1 = thermal_Check.f z0 z1 := rfl
theorem heats_ok {h : Int} (hh : Hok h) : thermal_heats.f h = some true := by
  obtain ⟨a, b⟩ := hh
  unfold thermal_heats.f
  rw [if_pos (by omega), decide_eq_true b]
theorem heats_no {h : Int} (hh : ¬ Hok h) : thermal_heats.f h = some false := by
  unfold thermal_heats.f
  split
  · rw [decide_eq_false (fun c => hh ⟨by omega, c⟩)]
  · rfl
theorem lasts_ok {h : Int} (hh : Dok h) : thermal_lasts.f h = some true := by
  obtain ⟨a, b⟩ := hh
  unfold thermal_lasts.f
  rw [if_pos (by omega), decide_eq_true b]
theorem lasts_no {h : Int} (hh : ¬ Dok h) : thermal_lasts.f h = some false := by
  unfold thermal_lasts.f
  split
  · rw [decide_eq_false (fun c => hh ⟨by omega, c⟩)]
  · rfl
theorem rtemp_ok {h : Int} (hh : Tok h) : plenumref35_Temp.f h = some true := by
  obtain ⟨a, b⟩ := hh
  unfold plenumref35_Temp.f
  rw [if_pos (by omega), decide_eq_true b]
theorem rtemp_no {h : Int} (hh : ¬ Tok h) : plenumref35_Temp.f h = some false := by
  unfold plenumref35_Temp.f
  split
  · rw [decide_eq_false (fun c => hh ⟨by omega, c⟩)]
  · rfl

instance (t : Int) : Decidable (Tok t) := inferInstanceAs (Decidable (_ ∧ _))
instance (t : Int) : Decidable (Hok t) := inferInstanceAs (Decidable (_ ∧ _))
instance (t : Int) : Decidable (Dok t) := inferInstanceAs (Decidable (_ ∧ _))
theorem rd_at (l : List Int) (i : Nat) (h : i < l.length) : rd l (i : Int) = l[i] := by
  unfold rd
  simp [List.getD_eq_getElem?_getD, h]
theorem all_no {a : Int} {l : List Int} (c : ¬ Tok a) : decide (∀ x ∈ (a :: l), Tok x) = false := by
  rw [decide_eq_false_iff_not]
  exact fun h => c (h _ List.mem_cons_self)
theorem temps_loop (l : List Int) (hl : l.length ≤ 140737488351232) (d : Nat) : ∀ (k i : Nat), l.length - i = d → i ≤ l.length → d < k → thermal_temps.l0 k l (l.length : Int) (i : Int) = some (decide (∀ x ∈ l.drop i, Tok x)) := by
  induction d with
  | zero =>
    intro k i hd hi hk
    obtain ⟨k, rfl⟩ : ∃ m, k = m + 1 := ⟨k - 1, by omega⟩
    simp only [thermal_temps.l0]
    rw [if_neg (by omega), List.drop_eq_nil_of_le (by omega)]
    simp
  | succ d ih =>
    intro k i hd hi hk
    obtain ⟨k, rfl⟩ : ∃ m, k = m + 1 := ⟨k - 1, by omega⟩
    have hlt : i < l.length := by omega
    simp only [thermal_temps.l0]
    rw [if_pos (by omega), if_pos (by omega), if_pos (by omega), rd_at l i hlt, List.drop_eq_getElem_cons hlt, w64 (x := (i : Int) + 1) (by omega) (by omega)]
    have hn := ih k (i + 1) (by omega) (by omega) (by omega)
    rw [show (((i + 1 : Nat)) : Int) = (i : Int) + 1 from by omega] at hn
    by_cases c : Tok l[i]
    · obtain ⟨c1, c2⟩ := c
      rw [if_neg (by omega), if_neg (by omega), hn]
      congr 1
      rw [decide_eq_decide]
      simp only [List.mem_cons, forall_eq_or_imp]
      exact ⟨fun h => ⟨⟨c1, c2⟩, h⟩, fun h => h.2⟩
    · rw [all_no c]
      by_cases c1 : l[i] < -1000000
      · rw [if_pos c1]
      · rw [if_neg c1, if_pos (by unfold Tok at c; omega)]
theorem temps_f (l : List Int) (hl : l.length ≤ 140737488351232) (k : Nat) (hk : l.length < k) : thermal_temps.f k l = some (decide (∀ x ∈ l, Tok x)) := by
  have := temps_loop l hl l.length k 0 (by omega) (by omega) hk
  simpa [thermal_temps.f] using this
theorem temps1 {a : Int} (k : Nat) (hk : 4 ≤ k) : thermal_temps.f k [a] = some (decide (Tok a)) := by
  rw [temps_f _ (by simp) k (by simp; omega)]
  simp
theorem temps2 {a b : Int} (k : Nat) (hk : 4 ≤ k) : thermal_temps.f k [a, b] = some (decide (Tok a ∧ Tok b)) := by
  rw [temps_f _ (by simp) k (by simp; omega)]
  simp
theorem temps3 {a b c : Int} (k : Nat) (hk : 4 ≤ k) : thermal_temps.f k [a, b, c] = some (decide (Tok a ∧ Tok b ∧ Tok c)) := by
  rw [temps_f _ (by simp) k (by simp; omega)]
  simp

theorem change_f {z0 z1 o h d t : Int} (hz : Zok z0 z1) (ho : Tok o) (hh : Hok h) (hd : Dok d) (ht : Tok t) : thermal_change.f z0 z1 t o h d = some (chg z0 z1 o h d t) := by
  have hb := num_bd hz ho hh hd ht
  obtain ⟨o1, o2⟩ := ho
  obtain ⟨t1, t2⟩ := ht
  have e0 : wrap64 (o - t) = o - t := w64 (by omega) (by omega)
  have e1 : wrap64 (z0 * (o - t)) = z0 * (o - t) := w64 (by omega) (by omega)
  have e2 : wrap64 (z1 * h) = z1 * h := w64 (by omega) (by omega)
  have e3 : wrap64 (z0 * (o - t) + z1 * h) = z0 * (o - t) + z1 * h := w64 (by omega) (by omega)
  have e4 : wrap64 ((z0 * (o - t) + z1 * h) * d) = num z0 z1 o h d t := w64 (by have := hb.2.2; unfold num at this; omega) (by have := hb.2.2; unfold num at this; omega)
  unfold thermal_change.f
  rw [e0, e1, e2, e3, e4]
  have hf := td_floor (num z0 z1 o h d t)
  unfold chg
  generalize hn : num z0 z1 o h d t = n at *
  have hq : -3000001 ≤ n.tdiv 3600000 ∧ n.tdiv 3600000 ≤ 3000001 := by
    split at hf <;> omega
  rw [w64 (x := n.tdiv 3600000) (by omega) (by omega), w64 (x := n.tdiv 3600000 - 1) (by omega) (by omega)]
  rw [← hf]
  split <;> rfl
theorem step_f {z0 z1 o h d t : Int} (hz : Zok z0 z1) (ho : Tok o) (hh : Hok h) (hd : Dok d) (ht : Tok t) : thermal_step.f z0 z1 t o h d = some (nx z0 z1 o h d t) := by
  have hb := chg_bd hz ho hh hd ht
  have ht' := ht
  obtain ⟨t1, t2⟩ := ht'
  unfold thermal_step.f
  rw [change_f hz ho hh hd ht]
  simp only [Option.bind_some]
  rw [w64 (x := t + chg z0 z1 o h d t) (by omega) (by omega)]
  rfl
theorem next_f {z0 z1 o h d t : Int} (hz : Zok z0 z1) (ho : Tok o) (hh : Hok h) (hd : Dok d) (ht : Tok t) : plenumref35_Next.f z0 z1 t o h d = some (nx z0 z1 o h d t) := by
  have e : plenumref35_Next.f z0 z1 t o h d = thermal_step.f z0 z1 t o h d := by
    unfold plenumref35_Next.f thermal_step.f thermal_change.f
    split <;> rfl
  rw [e, step_f hz ho hh hd ht]
/-- All arguments of a step are possible. -/
def Sok (z0 z1 t o h d : Int) : Prop := Zok z0 z1 ∧ Tok t ∧ Tok o ∧ Hok h ∧ Dok d
theorem Step_ok {z0 z1 o h d t : Int} (s : Sok z0 z1 t o h d) (k : Nat) (hk : 4 ≤ k) : thermal_Step.f k z0 z1 t o h d = some (nx z0 z1 o h d t, 0) := by
  obtain ⟨hz, ht, ho, hh, hd⟩ := s
  simp [thermal_Step.f, chk_ok hz, temps2 k hk, ht, ho, heats_ok hh, lasts_ok hd, step_f hz ho hh hd ht]
theorem Step_no {z0 z1 o h d t : Int} (s : ¬ Sok z0 z1 t o h d) (k : Nat) (hk : 4 ≤ k) : thermal_Step.f k z0 z1 t o h d = some (0, 6) := by
  by_cases hz : Zok z0 z1
  · by_cases ht : Tok t
    · by_cases ho : Tok o
      · by_cases hh : Hok h
        · simp [thermal_Step.f, chk_ok hz, temps2 k hk, ht, ho, heats_ok hh, lasts_no (fun hd => s ⟨hz, ht, ho, hh, hd⟩)]
        · simp [thermal_Step.f, chk_ok hz, temps2 k hk, ht, ho, heats_no hh]
      · simp [thermal_Step.f, chk_ok hz, temps2 k hk, ho]
    · simp [thermal_Step.f, chk_ok hz, temps2 k hk, ht]
  · simp [thermal_Step.f, chk_no hz]
instance (z0 z1 : Int) : Decidable (Zok z0 z1) := decidable_of_iff (0 ≤ z0 ∧ z0 ≤ 1000 ∧ 0 ≤ z1 ∧ z1 ≤ 1000000) ⟨fun h => ⟨h.1, h.2.1, h.2.2.1, h.2.2.2⟩, fun h => ⟨h.a, h.b, h.c, h.e⟩⟩
end Go.Proofs.Ytpehicdglooeaaa.M
