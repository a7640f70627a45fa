-- What the reference tells: the check.
import Derived.Test.YtacheoimnckghaaVal
import Derived.Test.YtacheoimnckghaaPTx31
namespace Go.Proofs.Ytacheoimnckghaa.Pure
open Go.RowKit Go.Proofs.Ytacheoimnckghaa.PT Go.Proofs.YtacheoimnckghaaW.PrintWords Go.Proofs.YtacheoimnckghaaW.PrintLast Go.Proofs.YtacheoimnckghaaW.PrintMore
set_option linter.unusedVariables false
set_option linter.unusedSimpArgs false
theorem rinside_of (n : Int) : plenumref03_inside.f n = some (decide (-1000000000000 ≤ n ∧ n ≤ 1000000000000)) := by
  unfold plenumref03_inside.f
  split
  · rename_i h
    exact congrArg some (decide_eq_decide.2 ⟨fun h' => ⟨h, h'⟩, fun h' => h'.2⟩)
  · rename_i h
    exact congrArg some (decide_eq_false (fun h' => h h'.1)).symm
open Classical in
theorem rdup_ev (c : List S50) (hc : c.length ≤ 1000) : ∀ (n i : Nat), i + 1 + n = c.length → Ev (fun k => plenumref03_Check.l1 k c ((i + 1 : Nat) : Int)) (if ∃ j, i ≤ j ∧ j + 1 < c.length ∧ (kn c (j + 1)).f0 ≤ (kn c j).f0 then 5 else 0)
  | 0, i, hi => by
    rw [if_neg (by rintro ⟨j, h1, h2, _⟩; omega)]
    refine evs (f := fun k => some 0) (fun k => ?_) (Ev.now _)
    simp only [plenumref03_Check.l1]
    rw [if_neg (by omega)]
  | n + 1, i, hi => by
    have hw : wrap64 (((i + 1 : Nat) : Int) - 1) = (i : Int) := by rw [w64s (by omega) (by omega)]; omega
    by_cases hd : (kn c i).f0 ≥ (kn c (i + 1)).f0
    · rw [if_pos ⟨i, by omega, by omega, hd⟩]
      refine evs (f := fun k => some 5) (fun k => ?_) (Ev.now _)
      simp only [plenumref03_Check.l1]
      rw [if_pos (by omega), hw, if_pos (by omega), if_pos (by omega), if_pos (by omega), rd_kn, rd_kn, if_pos hd]
    · have ih := rdup_ev c hc n (i + 1) (by omega)
      have e : (∃ j, i + 1 ≤ j ∧ j + 1 < c.length ∧ (kn c (j + 1)).f0 ≤ (kn c j).f0) ↔ (∃ j, i ≤ j ∧ j + 1 < c.length ∧ (kn c (j + 1)).f0 ≤ (kn c j).f0) := by
        constructor
        · rintro ⟨j, h1, h2, h3⟩; exact ⟨j, by omega, h2, h3⟩
        · rintro ⟨j, h1, h2, h3⟩
          rcases Nat.eq_or_lt_of_le h1 with h | h
          · subst h; omega
          · exact ⟨j, h, h2, h3⟩
      rw [ifc e] at ih
      refine evs (fun k => ?_) ih
      simp only [plenumref03_Check.l1]
      rw [if_pos (by omega), hw, if_pos (by omega), if_pos (by omega), if_pos (by omega), rd_kn, rd_kn, if_neg hd, w64s (by omega) (by omega)]
      rfl
open Classical in
theorem rbad_ev (c : List S50) (hc : c.length ≤ 1000) (r : Int) (hr : Ev (fun k => plenumref03_Check.l1 k c 1) r) : ∀ (n i : Nat), i + n = c.length → Ev (fun k => plenumref03_Check.l0 k c (i : Int)) (if ∃ j, i ≤ j ∧ j < c.length ∧ ¬ okI (kn c j) then 6 else r)
  | 0, i, hi => by
    rw [if_neg (by rintro ⟨j, h1, h2, _⟩; omega)]
    refine evs (fun k => ?_) hr
    simp only [plenumref03_Check.l0]
    rw [if_neg (by omega)]
  | n + 1, i, hi => by
    have hin : okI (kn c i) ↔ (-1000000000000 ≤ (kn c i).f0 ∧ (kn c i).f0 ≤ 1000000000000) ∧ (-1000000000000 ≤ (kn c i).f1 ∧ (kn c i).f1 ≤ 1000000000000) := ⟨fun ⟨a, b, c, d⟩ => ⟨⟨a, b⟩, c, d⟩, fun ⟨⟨a, b⟩, c, d⟩ => ⟨a, b, c, d⟩⟩
    have step : ∀ k, plenumref03_Check.l0 (k + 1) c (i : Int) = if okI (kn c i) then plenumref03_Check.l0 k c ((i + 1 : Nat) : Int) else some 6 := fun k => by
      simp only [plenumref03_Check.l0]
      rw [if_pos (by omega), if_pos (by omega), rd_kn, rinside_of, rinside_of]
      simp only [Option.bind_some]
      rw [w64s (by omega) (by omega)]
      by_cases h0 : -1000000000000 ≤ (kn c i).f0 ∧ (kn c i).f0 ≤ 1000000000000
      · rw [if_pos (decide_eq_true h0)]
        by_cases h1 : -1000000000000 ≤ (kn c i).f1 ∧ (kn c i).f1 ≤ 1000000000000
        · rw [if_pos (decide_eq_true h1), if_pos (hin.2 ⟨h0, h1⟩)]
          rfl
        · rw [if_neg (by simpa using h1), if_neg (fun h => h1 (hin.1 h).2)]
      · rw [if_neg (by simpa using h0), if_neg (fun h => h0 (hin.1 h).1)]
    refine evs step ?_
    by_cases h : okI (kn c i)
    · simp only [h, if_true]
      have ih := rbad_ev c hc r hr n (i + 1) (by omega)
      have e : (∃ j, i + 1 ≤ j ∧ j < c.length ∧ ¬ okI (kn c j)) ↔ (∃ j, i ≤ j ∧ j < c.length ∧ ¬ okI (kn c j)) := by
        constructor
        · rintro ⟨j, h1, h2, h3⟩; exact ⟨j, by omega, h2, h3⟩
        · rintro ⟨j, h1, h2, h3⟩
          rcases Nat.eq_or_lt_of_le h1 with h' | h'
          · subst h'; exact absurd h h3
          · exact ⟨j, h', h2, h3⟩
      rwa [ifc e] at ih
    · simp only [h, if_false]
      rw [if_pos ⟨i, Nat.le_refl _, by omega, h⟩]
      exact Ev.now _
open Classical in
theorem rcheck_ev (c : List S50) : Ev (fun k => plenumref03_Check.f k c) (chk c) := by
  have hf : ∀ k, plenumref03_Check.f k c = plenumref03_Check.j0 k c (decide (c.length = 0 ∨ 32 < c.length)) := fun k => by
    unfold plenumref03_Check.f
    by_cases h : c.length = 0
    · rw [if_pos (by omega), decide_eq_true (.inl h)]
    · rw [if_neg (by omega)]
      exact congrArg _ (decide_eq_decide.2 (by omega))
  refine Ev.congr hf ?_
  unfold chk
  by_cases h1 : c.length = 0 ∨ 32 < c.length
  · rw [if_pos h1, decide_eq_true h1]
    refine evs (f := fun k => some 1) (fun k => ?_) (Ev.now _)
    simp only [plenumref03_Check.j0]
    rw [if_pos trivial]
  · rw [if_neg h1, decide_eq_false h1]
    have hd := rdup_ev c (by omega) (c.length - 1) 0 (by omega)
    have hb := rbad_ev c (by omega) _ hd c.length 0 (by omega)
    have e : (∃ j, 0 ≤ j ∧ j + 1 < c.length ∧ (kn c (j + 1)).f0 ≤ (kn c j).f0) ↔ (∃ j, j + 1 < c.length ∧ (kn c (j + 1)).f0 ≤ (kn c j).f0) := ⟨fun ⟨j, _, h⟩ => ⟨j, h⟩, fun ⟨j, h⟩ => ⟨j, Nat.zero_le _, h⟩⟩
    have e2 : (∃ j, 0 ≤ j ∧ j < c.length ∧ ¬ okI (kn c j)) ↔ (∃ j, j < c.length ∧ ¬ okI (kn c j)) := ⟨fun ⟨j, _, h⟩ => ⟨j, h⟩, fun ⟨j, h⟩ => ⟨j, Nat.zero_le _, h⟩⟩
    have key : Ev (fun k => plenumref03_Check.l0 k c 0) (if ∃ j, j < c.length ∧ ¬ okI (kn c j) then 6 else if ∃ j, j + 1 < c.length ∧ (kn c (j + 1)).f0 ≤ (kn c j).f0 then 5 else 0) := by
      by_cases hx : ∃ j, j < c.length ∧ ¬ okI (kn c j)
      · rw [if_pos hx]
        rw [if_pos (e2.2 hx)] at hb
        exact hb
      · rw [if_neg hx]
        rw [if_neg (fun h => hx (e2.1 h))] at hb
        by_cases hy : ∃ j, j + 1 < c.length ∧ (kn c (j + 1)).f0 ≤ (kn c j).f0
        · rw [if_pos hy]
          rw [if_pos (e.2 hy)] at hb
          exact hb
        · rw [if_neg hy]
          rw [if_neg (fun h => hy (e.1 h))] at hb
          exact hb
    have key2 : Ev (fun k => plenumref03_Check.j0 k c false) (if ∃ j, j < c.length ∧ ¬ okI (kn c j) then 6 else if ∃ j, j + 1 < c.length ∧ (kn c (j + 1)).f0 ≤ (kn c j).f0 then 5 else 0) := by
      refine evs (fun k => ?_) key
      simp only [plenumref03_Check.j0]
      rw [if_neg (by decide)]
    by_cases hx : ∃ j, j < c.length ∧ ¬ okI (kn c j)
    · rw [if_pos hx] at key2 ⊢
      exact key2
    · rw [if_neg hx] at key2 ⊢
      exact key2

end Go.Proofs.Ytacheoimnckghaa.Pure
