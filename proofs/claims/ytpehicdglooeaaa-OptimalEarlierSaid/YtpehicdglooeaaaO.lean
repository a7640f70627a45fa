-- optimal: checks and curves in plain words.
import Derived.Test.YtpehicdglooeaaaF
import Derived.Test.YtpehicdglooeaaaReach
import Derived.Test.YtpehicdglooeaaaPTx5
import Derived.Test.YtpehicdglooeaaaPTx4
import Derived.Test.YtpehicdglooeaaaPTx32
import Derived.Test.YtpehicdglooeaaaPTx33
import Derived.Test.YtpehicdglooeaaaPTx21
namespace Go.Proofs.Ytpehicdglooeaaa.M
open Go.RowKit Go.Proofs.Ytpehicdglooeaaa.PT Go.Proofs.YtpehicdglooeaaaW.PrintWords Go.Proofs.YtpehicdglooeaaaW.PrintLast Go.Proofs.YtpehicdglooeaaaW.PrintMore
set_option linter.unusedVariables false
set_option linter.unusedSimpArgs false

theorem ev_some {α : Type} {g : Nat → Option α} {r : α} (h : Ev g r) : ∃ k, g k = some r := Ev.rounds h
theorem evp {α : Type} {c : Prop} [Decidable c] {A B : Nat → Option α} {r : α} (h : c) (g : Ev A r) : Ev (fun k => if c then A k else B k) r := Ev.congr (fun k => if_pos h) g
theorem evn {α : Type} {c : Prop} [Decidable c] {A B : Nat → Option α} {r : α} (h : ¬ c) (g : Ev B r) : Ev (fun k => if c then A k else B k) r := Ev.congr (fun k => if_neg h) g
theorem evu {α : Type} {g : Nat → Option α} {r : α} (h : Ev (fun k => g (k + 1)) r) : Ev g r := Ev.step (fun _ => rfl) h
theorem ev_from {α : Type} {g : Nat → Option α} {r : α} (K : Nat) (h : ∀ k, K ≤ k → g k = some r) : Ev g r := ⟨K, h⟩
theorem awk : plenumlaw36_awake.f = some true := rfl
theorem rd_app (A : List Int) (b : Int) (B : List Int) : rd (A ++ b :: B) (A.length : Int) = b := by simp [rd]

theorem istemp (x : Int) : optimal_isTemp.f x = some (decide (Tok x)) := by
  unfold optimal_isTemp.f
  by_cases c : Tok x
  · rw [decide_eq_true c]
    obtain ⟨a, b⟩ := c
    split
    · exact congrArg some (decide_eq_true (by omega))
    · omega
  · rw [decide_eq_false c]
    split
    · exact congrArg some (decide_eq_false (fun h => c ⟨by omega, by omega⟩))
    · rfl
def allT (l : List Int) : Bool := l.all fun x => decide (Tok x)
theorem idx_loop (l : List Int) (hl : l.length ≤ 100) : ∀ (B A : List Int), A ++ B = l → ∃ r : Int, Ev (fun k => slices_IndexFunc_int64_int64_47.l0 k l (l.length : Int) (A.length : Int)) r ∧ (0 ≤ r ↔ allT B = false)
  | [], A, h => by
    have hA : A = l := by simpa using h
    subst hA
    refine ⟨-1, ?_, by simp [allT]⟩
    refine evu ?_
    simp only [slices_IndexFunc_int64_int64_47.l0]
    exact evn (by omega) (Ev.now _)
  | x :: B, A, h => by
    have hlen : l.length = A.length + 1 + B.length := by rw [← h]; simp; omega
    have hx : rd l (A.length : Int) = x := by rw [← h]; exact rd_app A x B
    have e2 : ((A ++ [x]).length : Int) = (A.length : Int) + 1 := by simp
    have e3 : optimal_temps_1.f x = some (!decide (Tok x)) := by unfold optimal_temps_1.f; rw [istemp]; rfl
    by_cases c : Tok x
    · obtain ⟨r, hr, h2⟩ := idx_loop l hl B (A ++ [x]) (by rw [← h]; simp)
      refine ⟨r, ?_, by rw [h2]; simp [allT, c]⟩
      rw [e2] at hr
      refine evu ?_
      simp only [slices_IndexFunc_int64_int64_47.l0]
      rw [hx, e3, decide_eq_true c, w64 (x := (A.length : Int) + 1) (by omega) (by omega)]
      refine evp (by omega) (evp (by omega) (evp (by omega) ?_))
      simp only [Option.bind_some]
      exact evn (by simp) hr
    · refine ⟨(A.length : Int), ?_, by simp [allT, c]⟩
      refine evu ?_
      simp only [slices_IndexFunc_int64_int64_47.l0]
      rw [hx, e3, decide_eq_false c]
      refine evp (by omega) (evp (by omega) (evp (by omega) ?_))
      simp only [Option.bind_some]
      exact evp (by simp) (Ev.now _)
theorem otemps {l : List Int} (hl : l.length ≤ 100) : Ev (fun k => optimal_temps.f k l) (allT l) := by
  obtain ⟨r, hr, h2⟩ := idx_loop l hl l [] rfl
  have h3 : Ev (fun k => slices_ContainsFunc_int64_int64_47.f k l) (!allT l) := by
    refine Ev.congr (fun k => rfl) (Ev.bind (g := fun k => slices_IndexFunc_int64_int64_47.f k l) hr ?_)
    have e : decide (r ≥ 0) = !allT l := by
      cases hA : allT l with
      | true => exact decide_eq_false (fun hh => by rw [hA] at h2; cases h2.1 hh)
      | false => exact decide_eq_true (h2.2 hA)
    rw [e]
    exact Ev.now _
  refine Ev.congr (fun k => rfl) (Ev.bind h3 ?_)
  rw [Bool.not_not]
  exact Ev.now _
def tskB (t2 t3 : Int) (out : List Int) : Prop := 0 ≤ t2 ∧ t2 ≤ t3 ∧ t3 ≤ 6311433599 ∧ t3 - t2 ≤ 1440 ∧ (out.length : Int) = t3 - t2
instance (t2 t3 : Int) (out : List Int) : Decidable (tskB t2 t3 out) := inferInstanceAs (Decidable (_ ∧ _))
/-- The first error of a task. -/
def tE (z0 z1 t0 t1 t2 t3 : Int) (out : List Int) : Int := if Zok z0 z1 then (if Tok t0 ∧ Tok t1 then (if tskB t2 t3 out then (if allT out = true then 0 else 6) else 1) else 6) else 6
theorem check_ev {z0 z1 t0 t1 t2 t3 : Int} (t4 : Bool) {out : List Int} (hl : out.length ≤ 100) : Ev (fun k => optimal_check.f k z0 z1 t0 t1 t2 t3 t4 out) (tE z0 z1 t0 t1 t2 t3 out) := by
  unfold optimal_check.f tE
  by_cases hz : Zok z0 z1
  · rw [if_pos hz, chk_ok hz, istemp, istemp]
    simp only [Option.bind_some, if_true]
    by_cases h0 : Tok t0
    · rw [decide_eq_true h0]
      simp only [if_true]
      by_cases h1 : Tok t1
      · rw [decide_eq_true h1, if_pos ⟨h0, h1⟩]
        refine evu ?_
        simp only [optimal_check.j0]
        refine evn (by simp) ?_
        have jt : ¬ tskB t2 t3 out → Ev (fun k => optimal_check.j1 k out true) (if tskB t2 t3 out then (if allT out = true then 0 else 6) else 1) := fun hn => by
          rw [if_neg hn]
          refine evu ?_
          simp only [optimal_check.j1, if_true]
          exact Ev.now _
        by_cases c1 : t2 < 0
        · exact evp c1 (jt (fun h => by unfold tskB at h; omega))
        · refine evn c1 ?_
          by_cases c2 : t2 > t3
          · exact evp c2 (jt (fun h => by unfold tskB at h; omega))
          · refine evn c2 ?_
            by_cases c3 : t3 > 6311433599
            · exact evp c3 (jt (fun h => by unfold tskB at h; omega))
            · refine evn c3 ?_
              rw [w64 (x := t3 - t2) (by omega) (by omega)]
              by_cases c4 : t3 - t2 > 1440
              · exact evp c4 (jt (fun h => by unfold tskB at h; omega))
              · refine evn c4 ?_
                by_cases c5 : (out.length : Int) = t3 - t2
                · have hb : tskB t2 t3 out := ⟨by omega, by omega, by omega, by omega, c5⟩
                  rw [c5, bne_self_eq_false, if_pos hb]
                  refine evu ?_
                  simp only [optimal_check.j1]
                  refine evn (by simp) (Ev.bind (otemps hl) ?_)
                  by_cases c6 : allT out = true
                  · simp only [if_pos c6]; exact Ev.now _
                  · simp only [if_neg c6]; exact Ev.now _
                · rw [bne_iff_ne.2 c5]
                  exact jt (fun h => c5 h.2.2.2.2)
      · rw [decide_eq_false h1, if_neg (fun h => h1 h.2)]
        refine evu ?_
        simp only [optimal_check.j0]
        exact evp (by simp) (Ev.now _)
    · rw [decide_eq_false h0, if_neg (fun h => h0 h.1)]
      refine evn (by simp) (evu ?_)
      simp only [optimal_check.j0]
      exact evp (by simp) (Ev.now _)
  · rw [if_neg hz, chk_no hz]
    exact Ev.now _
theorem rtemp (x : Int) : plenumref35_Temp.f x = some (decide (Tok x)) := by
  by_cases c : Tok x
  · rw [decide_eq_true c]; exact rtemp_ok c
  · rw [decide_eq_false c]; exact rtemp_no c
theorem rcheck_loop (l : List Int) (hl : l.length ≤ 100) : ∀ (B A : List Int), A ++ B = l → Ev (fun k => plenumref36_Check.l0 k l (A.length : Int)) (if allT B = true then 0 else 6)
  | [], A, h => by
    have hA : A = l := by simpa using h
    subst hA
    refine evu ?_
    simp only [plenumref36_Check.l0]
    exact evn (by omega) (Ev.now _)
  | x :: B, A, h => by
    have hlen : l.length = A.length + 1 + B.length := by rw [← h]; simp; omega
    have hx : rd l (A.length : Int) = x := by rw [← h]; exact rd_app A x B
    have e2 : ((A ++ [x]).length : Int) = (A.length : Int) + 1 := by simp
    refine evu ?_
    simp only [plenumref36_Check.l0]
    rw [hx, rtemp, w64 (x := (A.length : Int) + 1) (by omega) (by omega)]
    refine evp (by omega) (evp (by omega) ?_)
    simp only [Option.bind_some]
    by_cases c : Tok x
    · have ih := rcheck_loop l hl B (A ++ [x]) (by rw [← h]; simp)
      rw [e2] at ih
      have e : allT (x :: B) = allT B := by simp [allT, c]
      rw [e]
      exact evp (by simp [c]) ih
    · rw [if_neg (by simp [allT, c])]
      exact evn (by simp [c]) (Ev.now _)
theorem rcheck_ev {z0 z1 t0 t1 t2 t3 : Int} (t4 : Bool) {out : List Int} (hl : out.length ≤ 100) : Ev (fun k => plenumref36_Check.f k z0 z1 t0 t1 t2 t3 t4 out) (tE z0 z1 t0 t1 t2 t3 out) := by
  unfold plenumref36_Check.f tE
  rw [rchk]
  by_cases hz : Zok z0 z1
  · rw [if_pos hz, chk_ok hz, rtemp, rtemp]
    simp only [Option.bind_some, if_true]
    by_cases h0 : Tok t0
    · rw [decide_eq_true h0]
      simp only [if_true]
      by_cases h1 : Tok t1
      · rw [decide_eq_true h1, if_pos ⟨h0, h1⟩]
        refine evu ?_
        simp only [plenumref36_Check.j0]
        refine evn (by simp) ?_
        have jt : ¬ tskB t2 t3 out → Ev (fun k => plenumref36_Check.j1 k out true) (if tskB t2 t3 out then (if allT out = true then 0 else 6) else 1) := fun hn => by
          rw [if_neg hn]
          refine evu ?_
          simp only [plenumref36_Check.j1, if_true]
          exact Ev.now _
        by_cases c1 : t2 < 0
        · exact evp c1 (jt (fun h => by unfold tskB at h; omega))
        · refine evn c1 ?_
          by_cases c2 : t2 > t3
          · exact evp c2 (jt (fun h => by unfold tskB at h; omega))
          · refine evn c2 ?_
            by_cases c3 : t3 > 6311433599
            · exact evp c3 (jt (fun h => by unfold tskB at h; omega))
            · refine evn c3 ?_
              rw [w64 (x := t3 - t2) (by omega) (by omega)]
              by_cases c4 : t3 - t2 > 1440
              · exact evp c4 (jt (fun h => by unfold tskB at h; omega))
              · refine evn c4 ?_
                by_cases c5 : (out.length : Int) = t3 - t2
                · have hb : tskB t2 t3 out := ⟨by omega, by omega, by omega, by omega, c5⟩
                  rw [c5, bne_self_eq_false, if_pos hb]
                  refine evu ?_
                  simp only [plenumref36_Check.j1]
                  exact evn (by simp) (rcheck_loop out hl out [] rfl)
                · rw [bne_iff_ne.2 c5]
                  exact jt (fun h => c5 h.2.2.2.2)
      · rw [decide_eq_false h1, if_neg (fun h => h1 h.2)]
        refine evu ?_
        simp only [plenumref36_Check.j0]
        exact evp (by simp) (Ev.now _)
    · rw [decide_eq_false h0, if_neg (fun h => h0 h.1)]
      refine evn (by simp) (evu ?_)
      simp only [plenumref36_Check.j0]
      exact evp (by simp) (Ev.now _)
  · rw [if_neg hz, chk_no hz]
    exact Ev.now _
structure Tsk (z0 z1 t0 t1 t2 t3 : Int) (out : List Int) : Prop where
  z : Zok z0 z1
  a : Tok t0
  b : Tok t1
  k : tskB t2 t3 out
  o : ∀ x ∈ out, Tok x
theorem tE_zero {z0 z1 t0 t1 t2 t3 : Int} {out : List Int} (h : tE z0 z1 t0 t1 t2 t3 out = 0) : Tsk z0 z1 t0 t1 t2 t3 out := by
  unfold tE at h
  by_cases c1 : Zok z0 z1
  · rw [if_pos c1] at h
    by_cases c2 : Tok t0 ∧ Tok t1
    · rw [if_pos c2] at h
      by_cases c3 : tskB t2 t3 out
      · rw [if_pos c3] at h
        by_cases c4 : allT out = true
        · exact ⟨c1, c2.1, c2.2, c3, by simpa [allT] using c4⟩
        · rw [if_neg c4] at h; omega
      · rw [if_neg c3] at h; omega
    · rw [if_neg c2] at h; omega
  · rw [if_neg c1] at h; omega

/-! ### curves -/
def cl (z0 z1 H on : Int) : Int → Int → List Int → List Int
  | m, t, [] => [t]
  | m, t, o :: os => t :: cl z0 z1 H on (m + 1) (nx z0 z1 o (if m ≥ on then H else 0) 60 t) os
theorem cl_length (z0 z1 H on : Int) : ∀ (os : List Int) (m t : Int), (cl z0 z1 H on m t os).length = os.length + 1
  | [], _, _ => rfl
  | o :: os, m, t => by simp [cl, cl_length z0 z1 H on os]
theorem hok (t4 : Bool) (m on : Int) : Hok (if m ≥ on then cvHeat t4 else 0) := by
  unfold Hok cvHeat
  split
  · split <;> omega
  · omega
theorem cv_go {z0 z1 t2 t3 on : Int} (t4 : Bool) (hz : Zok z0 z1) (out : List Int) (h3 : (out.length : Int) = t3 - t2) (ho : ∀ x ∈ out, Tok x) : ∀ (B A : List Int) (t : Int), A ++ B = out → Tok t →
    Ev (fun k => cvGo z0 z1 t2 t3 t4 on out k (t2 + A.length) t) (cl z0 z1 (cvHeat t4) on (t2 + A.length) t B)
  | [], A, t, h, ht => by
    have hA : A = out := by simpa using h
    subst hA
    refine evu ?_
    simp only [cvGo]
    exact evn (by omega) (Ev.now _)
  | x :: B, A, t, h, ht => by
    have hlen : out.length = A.length + 1 + B.length := by rw [← h]; simp; omega
    have hx : rd out (A.length : Int) = x := by rw [← h]; exact rd_app A x B
    have hxo : Tok x := ho x (by rw [← h]; simp)
    have ih := cv_go (on := on) t4 hz out h3 ho B (A ++ [x]) (nx z0 z1 x (if t2 + A.length ≥ on then cvHeat t4 else 0) 60 t) (by rw [← h]; simp) (nx_Tok _ _ _ _ _ _)
    have e2 : t2 + ((A ++ [x]).length : Int) = t2 + A.length + 1 := by simp; omega
    rw [e2] at ih
    refine evu ?_
    simp only [cvGo]
    rw [show t2 + (A.length : Int) - t2 = A.length by omega, hx]
    refine evp (by omega) (evp (by omega) ?_)
    refine Ev.bind (ev_from 4 (fun k hk => Step_ok ⟨hz, ht, hxo, hok t4 _ _, ⟨by omega, by omega⟩⟩ k hk)) (Ev.bind ih (Ev.now _))
theorem cv_ev {z0 z1 t0 t1 t2 t3 on : Int} (t4 : Bool) {out : List Int} (T : Tsk z0 z1 t0 t1 t2 t3 out) : Ev (fun k => cvGo z0 z1 t2 t3 t4 on out k t2 t0) (cl z0 z1 (cvHeat t4) on t2 t0 out) := by
  have := cv_go (on := on) t4 T.z out T.k.2.2.2.2 T.o out [] t0 rfl T.a
  simpa using this
end Go.Proofs.Ytpehicdglooeaaa.M
