/- ThermalRuns: Run answers what the reference answers (lists of at most 100 steps, or of more than MaxSteps); no condition. -/
import Derived.Test.YthlokfpboinmpaaHL
import Derived.Test.YthlokfpboinmpaaPTx9
import Derived.Test.YthlokfpboinmpaaPTx10
namespace Go.Proofs.Ythlokfpboinmpaa.Pure
open Go.RowKit Go.Proofs.Ythlokfpboinmpaa.PT Go.Proofs.YthlokfpboinmpaaW.PrintWords Go.Proofs.YthlokfpboinmpaaW.PrintLast Go.Proofs.YthlokfpboinmpaaW.PrintMore Go.Proofs.Ythlokfpboinmpaa.M
theorem rRun_loop {z0 z1 d : Int} (hz : Zok z0 z1) (hd : Dok d) (os hs : List Int) (hl : os.length = hs.length) (hb : hs.length ≤ 10000) : ∀ (n i k : Nat) (t : Int) (acc : List Int), os.length - i = n → i ≤ os.length → Tok t → acc.length = i → n < k →
    plenumref35_Run.l0 k t os hs d acc (i : Int) z0 z1 = some (if (∀ x ∈ os.drop i, Tok x) ∧ (∀ x ∈ hs.drop i, Hok x) then (acc ++ rl z0 z1 d t (os.drop i) (hs.drop i), 0) else ([], 6)) := by
  intro n
  induction n with
  | zero =>
    intro i k t acc hn hi ht ha hk
    obtain ⟨k, rfl⟩ : ∃ m, k = m + 1 := ⟨k - 1, by omega⟩
    simp only [plenumref35_Run.l0]
    rw [if_neg (by omega), List.drop_eq_nil_of_le (by omega), List.drop_eq_nil_of_le (by omega)]
    simp [rl]
  | succ n ih =>
    intro i k t acc hn hi ht ha hk
    obtain ⟨k, rfl⟩ : ∃ m, k = m + 1 := ⟨k - 1, by omega⟩
    have h1 : i < hs.length := by omega
    have h2 : i < os.length := by omega
    simp only [plenumref35_Run.l0]
    rw [if_pos (by omega), if_pos (by omega), if_pos (by omega), rd_at hs i h1, rd_at os i h2, List.drop_eq_getElem_cons h1, List.drop_eq_getElem_cons h2]
    generalize hs[i] = h at *
    generalize os[i] = o at *
    by_cases s : Sok z0 z1 t o h d
    · rw [rStep_ok s]
      simp only [Option.bind_some, if_true]
      rw [if_pos (by omega), w64 (x := (i : Int) + 1) (by omega) (by omega)]
      have := ih (i + 1) k (nx z0 z1 o h d t) (acc ++ [nx z0 z1 o h d t]) (by omega) (by omega) (nx_Tok _ _ _ _ _ _) (by simp; omega) (by omega)
      rw [show (((i + 1 : Nat)) : Int) = (i : Int) + 1 from by omega] at this
      rw [this]
      congr 1
      by_cases c : (∀ x ∈ os.drop (i + 1), Tok x) ∧ ∀ x ∈ hs.drop (i + 1), Hok x
      · rw [if_pos c, if_pos ⟨List.forall_mem_cons.2 ⟨s.2.2.1, c.1⟩, List.forall_mem_cons.2 ⟨s.2.2.2.1, c.2⟩⟩]
        simp [rl]
      · rw [if_neg c, if_neg (fun q => c ⟨fun x hx => q.1 x (List.mem_cons_of_mem _ hx), fun x hx => q.2 x (List.mem_cons_of_mem _ hx)⟩)]
    · rw [rStep_no s, if_neg (c := (∀ x ∈ o :: os.drop (i + 1), Tok x) ∧ ∀ x ∈ h :: hs.drop (i + 1), Hok x) (fun q => s ⟨hz, ht, q.1 o List.mem_cons_self, q.2 h List.mem_cons_self, hd⟩)]
      simp
open Classical in
theorem rRun_all {z0 z1 t d : Int} {os hs : List Int} (k : Nat) (hk : 10010 ≤ k) : plenumref35_Run.f k z0 z1 t os hs d = some (if Lok z0 z1 t d os hs then (rl z0 z1 d t os hs, 0) else ([], if Zok z0 z1 then (if os.length = hs.length then (if hs.length ≤ 10000 then 6 else 7) else 1) else 6)) := by
  obtain ⟨k, rfl⟩ : ∃ m, k = m + 1 := ⟨k - 1, by omega⟩
  unfold plenumref35_Run.f
  rw [rchk]
  by_cases hz : Zok z0 z1
  · rw [if_pos hz, chk_ok hz]
    simp only [Option.bind_some, if_true]
    by_cases hl : os.length = hs.length
    · rw [if_pos hl, if_pos (by omega)]
      by_cases hb : hs.length ≤ 10000
      · rw [if_pos hb, if_neg (by omega)]
        by_cases ht : Tok t
        · rw [rtemp_ok ht, rtime]
          simp only [Option.bind_some, if_true]
          by_cases hd : Dok d
          · rw [lasts_ok hd]
            have e := rRun_loop hz hd os hs hl hb os.length 0 k t [] (by omega) (by omega) ht rfl (by omega)
            simp only [List.drop_zero, List.nil_append, Int.natCast_zero] at e
            simp only [Option.bind_some, plenumref35_Run.j0, Bool.not_true, Bool.false_eq_true, if_false]
            refine e.trans ?_
            congr 1
            by_cases c : (∀ x ∈ os, Tok x) ∧ ∀ x ∈ hs, Hok x
            · rw [if_pos c, if_pos ⟨hz, hl, hb, ht, hd, c.1, c.2⟩]
            · rw [if_neg c, if_neg (fun q => c ⟨q.2.2.2.2.2.1, q.2.2.2.2.2.2⟩)]
          · rw [lasts_no hd, if_neg (fun q => hd q.2.2.2.2.1)]
            simp [plenumref35_Run.j0]
        · rw [rtemp_no ht, if_neg (fun q => ht q.2.2.2.1)]
          simp [plenumref35_Run.j0]
      · rw [if_neg hb, if_pos (by omega), if_neg (fun q => hb q.2.2.1)]
    · rw [if_neg hl, if_neg (by omega), if_neg (fun q => hl q.2.1)]
  · rw [if_neg hz, chk_no hz, if_neg (c := Lok z0 z1 t d os hs) (fun q => hz q.1)]
    simp
theorem same_loop (l : List Int) (hl : l.length ≤ 10000) : ∀ (n i k : Nat), l.length - i = n → i ≤ l.length → n < k → plenumlaw35_ThermalRuns.l0 k l l (i : Int) = some true := by
  intro n
  induction n with
  | zero =>
    intro i k hn hi hk
    obtain ⟨k, rfl⟩ : ∃ m, k = m + 1 := ⟨k - 1, by omega⟩
    simp only [plenumlaw35_ThermalRuns.l0]
    rw [if_neg (by omega)]
  | succ n ih =>
    intro i k hn hi hk
    obtain ⟨k, rfl⟩ : ∃ m, k = m + 1 := ⟨k - 1, by omega⟩
    simp only [plenumlaw35_ThermalRuns.l0, if_true]
    rw [if_pos (by omega), if_pos (by omega), if_pos (by omega), w64 (x := (i : Int) + 1) (by omega) (by omega)]
    exact ih (i + 1) k (by omega) (by omega) (by omega)
theorem ThermalRuns : plenumlaw35_ThermalRuns.Pure := by
  intro z0 z1 t os hs d _ _ _ b1 b2 _ b3 b4 _ _
  have yes : ∀ k, plenumlaw35_ThermalRuns.j0 (k + 1) t os hs d true z0 z1 = some true := fun k => by simp [plenumlaw35_ThermalRuns.j0]
  have key : ∃ K, ∀ k, K ≤ k → plenumlaw35_ThermalRuns.j0 k t os hs d false z0 z1 = some true := by
    have e : ∃ a b K, a.length ≤ 10000 ∧ ∀ k, K ≤ k → thermal_Run.f k z0 z1 t os hs d = some (a, b) ∧ plenumref35_Run.f k z0 z1 t os hs d = some (a, b) := by
      by_cases s : Lok z0 z1 t d os hs
      · refine ⟨_, _, 10010, ?_, fun k hk => ⟨Run_ok s k hk, by rw [rRun_all k hk, if_pos s]⟩⟩
        rw [rl_length _ _ _ _ _ _ s.2.1]
        have := s.2.1
        have := s.2.2.1
        omega
      · obtain ⟨K, hK⟩ := Run_no (by omega) s
        exact ⟨_, _, K + 10010, by simp, fun k hk => ⟨hK k (by omega), by rw [rRun_all k (by omega), if_neg s]⟩⟩
    obtain ⟨a, b, K, hl, e⟩ := e
    refine ⟨K + 10020, fun k hk => ?_⟩
    obtain ⟨k, rfl⟩ : ∃ m, k = m + 2 := ⟨k - 2, by omega⟩
    have e := e (k + 1) (by omega)
    simp only [plenumlaw35_ThermalRuns.j0, Bool.false_eq_true, if_false, e.1, e.2, Option.bind_some, if_true, bne_self_eq_false, plenumlaw35_ThermalRuns.j1]
    exact same_loop a hl a.length 0 k (by omega) (by omega) (by omega)
  obtain ⟨K, key⟩ := key
  refine ⟨K + 1, ?_⟩
  unfold plenumlaw35_ThermalRuns.f plenumlaw35_awake.f
  simp only [Option.bind_some, if_true]
  have both : ∀ b, plenumlaw35_ThermalRuns.j0 (K + 1) t os hs d b z0 z1 = some true := fun b => by
    cases b with
    | true => exact yes K
    | false => exact key _ (by omega)
  repeat' split
  all_goals exact both _
end Go.Proofs.Ythlokfpboinmpaa.Pure
