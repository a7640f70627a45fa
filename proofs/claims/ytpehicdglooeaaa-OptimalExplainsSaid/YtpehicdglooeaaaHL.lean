/- Run: what thermal answers. -/
import Derived.Test.YtpehicdglooeaaaF
import Derived.Test.YtpehicdglooeaaaPTx37
namespace Go.Proofs.Ytpehicdglooeaaa.M
open Go.RowKit Go.Proofs.Ytpehicdglooeaaa.PT Go.Proofs.YtpehicdglooeaaaW.PrintWords Go.Proofs.YtpehicdglooeaaaW.PrintLast Go.Proofs.YtpehicdglooeaaaW.PrintMore
/-- The temperatures of a run. -/
def rl (z0 z1 d : Int) : Int → List Int → List Int → List Int
  | t, o :: os, h :: hs => nx z0 z1 o h d t :: rl z0 z1 d (nx z0 z1 o h d t) os hs
  | _, _, _ => []
theorem rl_length (z0 z1 d : Int) : ∀ (t : Int) (os hs : List Int), os.length = hs.length → (rl z0 z1 d t os hs).length = os.length
  | t, [], [], _ => rfl
  | t, o :: os, h :: hs, e => by
    simp only [rl, List.length_cons]
    rw [rl_length z0 z1 d _ os hs (by simpa using e)]
  | t, [], h :: hs, e => by simp at e
  | t, o :: os, [], e => by simp at e
theorem Run_loop {z0 z1 d : Int} (hz : Zok z0 z1) (hd : Dok d) (os hs : List Int) (hl : os.length = hs.length) (hb : hs.length ≤ 10000) (ho : ∀ x ∈ os, Tok x) : ∀ (n i k : Nat) (t : Int) (acc : List Int), hs.length - i = n → i ≤ hs.length → Tok t → acc.length = i → n < k →
    thermal_Run.l0 k t os d acc hs (hs.length : Int) (i : Int) z0 z1 = some (if ∀ x ∈ hs.drop i, Hok x then (acc ++ rl z0 z1 d t (os.drop i) (hs.drop i), 0) else ([], 6)) := by
  intro n
  induction n with
  | zero =>
    intro i k t acc hn hi ht ha hk
    obtain ⟨k, rfl⟩ : ∃ m, k = m + 1 := ⟨k - 1, by omega⟩
    simp only [thermal_Run.l0]
    rw [if_neg (by omega), List.drop_eq_nil_of_le (by omega), List.drop_eq_nil_of_le (by omega)]
    simp [rl]
  | succ n ih =>
    intro i k t acc hn hi ht ha hk
    obtain ⟨k, rfl⟩ : ∃ m, k = m + 1 := ⟨k - 1, by omega⟩
    have h1 : i < hs.length := by omega
    have h2 : i < os.length := by omega
    simp only [thermal_Run.l0]
    rw [if_pos (by omega), if_pos (by omega), if_pos (by omega), rd_at hs i h1, rd_at os i h2, List.drop_eq_getElem_cons h1, List.drop_eq_getElem_cons h2]
    have hot : Tok os[i] := ho _ (List.getElem_mem h2)
    generalize hs[i] = h at *
    generalize os[i] = o at *
    by_cases hh : Hok h
    · rw [heats_ok hh]
      simp only [Option.bind_some, if_true]
      rw [if_pos (by omega), step_f hz hot hh hd ht]
      simp only [Option.bind_some]
      rw [if_pos (by omega), w64 (x := (i : Int) + 1) (by omega) (by omega)]
      have := ih (i + 1) k (nx z0 z1 o h d t) (acc ++ [nx z0 z1 o h d t]) (by omega) (by omega) (nx_Tok _ _ _ _ _ _) (by simp; omega) (by omega)
      rw [show (((i + 1 : Nat)) : Int) = (i : Int) + 1 from by omega] at this
      rw [this]
      congr 1
      by_cases c : ∀ x ∈ hs.drop (i + 1), Hok x
      · rw [if_pos c, if_pos (List.forall_mem_cons.2 ⟨hh, c⟩)]
        simp [rl]
      · rw [if_neg c, if_neg (fun q => c (fun x hx => q x (List.mem_cons_of_mem _ hx)))]
    · rw [heats_no hh, if_neg (c := ∀ x ∈ h :: hs.drop (i + 1), Hok x) (fun q => hh (q h List.mem_cons_self))]
      simp
def Lok (z0 z1 t d : Int) (os hs : List Int) : Prop := Zok z0 z1 ∧ os.length = hs.length ∧ hs.length ≤ 10000 ∧ Tok t ∧ Dok d ∧ (∀ x ∈ os, Tok x) ∧ ∀ x ∈ hs, Hok x
theorem Run_ok {z0 z1 t d : Int} {os hs : List Int} (s : Lok z0 z1 t d os hs) (k : Nat) (hk : 10010 ≤ k) : thermal_Run.f k z0 z1 t os hs d = some (rl z0 z1 d t os hs, 0) := by
  obtain ⟨hz, hl, hb, ht, hd, ho, hh⟩ := s
  obtain ⟨k, rfl⟩ : ∃ m, k = m + 1 := ⟨k - 1, by omega⟩
  have e := Run_loop hz hd os hs hl hb ho hs.length 0 k t [] (by omega) (by omega) ht rfl (by omega)
  simp only [List.drop_zero, List.nil_append, Int.natCast_zero] at e
  rw [if_pos hh] at e
  have e1 : ¬ (hs.length : Int) > 10000 := by omega
  have e2 : (os.length : Int) = (hs.length : Int) := by omega
  unfold thermal_Run.f
  rw [chk_ok hz, temps1 (k + 1) (by omega), temps_f os (by omega) (k + 1) (by omega), lasts_ok hd]
  simp only [Option.bind_some, if_true]
  rw [if_pos e2, if_neg e1, decide_eq_true ht, decide_eq_true ho]
  simp only [if_true, thermal_Run.j0, Bool.not_true, Bool.false_eq_true, if_false]
  exact e
theorem Run_no {z0 z1 t d : Int} {os hs : List Int} (hs0 : os.length ≤ 17592186044416) (s : ¬ Lok z0 z1 t d os hs) : ∃ K, ∀ k, K ≤ k → thermal_Run.f k z0 z1 t os hs d = some ([], if Zok z0 z1 then (if os.length = hs.length then (if hs.length ≤ 10000 then 6 else 7) else 1) else 6) := by
  refine ⟨os.length + 20010, fun k hk => ?_⟩
  obtain ⟨k, rfl⟩ : ∃ m, k = m + 1 := ⟨k - 1, by omega⟩
  unfold thermal_Run.f
  by_cases hz : Zok z0 z1
  · rw [if_pos hz, chk_ok hz]
    simp only [Option.bind_some, if_true]
    by_cases hl : os.length = hs.length
    · rw [if_pos hl, if_pos (by omega)]
      by_cases hb : hs.length ≤ 10000
      · rw [if_pos hb, if_neg (by omega), temps1 (k + 1) (by omega)]
        simp only [Option.bind_some]
        by_cases ht : Tok t
        · rw [decide_eq_true ht]
          simp only [if_true]
          rw [temps_f os (by omega) (k + 1) (by omega)]
          simp only [Option.bind_some]
          by_cases ho : ∀ x ∈ os, Tok x
          · rw [decide_eq_true ho]
            simp only [if_true]
            by_cases hd : Dok d
            · rw [lasts_ok hd]
              have e := Run_loop hz hd os hs hl hb ho hs.length 0 k t [] (by omega) (by omega) ht rfl (by omega)
              simp only [List.drop_zero, List.nil_append, Int.natCast_zero] at e
              rw [if_neg (fun hh => s ⟨hz, hl, hb, ht, hd, ho, hh⟩)] at e
              simp only [Option.bind_some, thermal_Run.j0, Bool.not_true, Bool.false_eq_true, if_false]
              exact e
            · rw [lasts_no hd]
              simp [thermal_Run.j0]
          · rw [decide_eq_false ho]
            simp [thermal_Run.j0]
        · rw [decide_eq_false ht]
          simp [thermal_Run.j0]
      · rw [if_neg hb, if_pos (by omega)]
    · rw [if_neg hl, if_neg (by omega)]
  · rw [if_neg hz, chk_no hz]
    simp
end Go.Proofs.Ytpehicdglooeaaa.M
