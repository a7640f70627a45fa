-- The parts of a span, as the reference tells them, are the pieces that the program's iterator gives.
import Derived.Test.YtnfcbhoaebcndaaSpA
import Derived.Test.YtnfcbhoaebcndaaIter
import Derived.Test.YtnfcbhoaebcndaaPTx25
namespace Go.Proofs.Ytnfcbhoaebcndaa.Pure
open Go.RowKit Go.Proofs.Ytnfcbhoaebcndaa.PT Go.Proofs.YtnfcbhoaebcndaaW.PrintWords Go.Proofs.YtnfcbhoaebcndaaW.PrintLast Go.Proofs.YtnfcbhoaebcndaaW.PrintMore
set_option linter.unusedVariables false
set_option linter.unusedSimpArgs false

/-- The instants do not fall, from b on. -/
def Asc : Int → List S57 → Prop
  | _, [] => True
  | b, x :: l => b ≤ x.f0 ∧ x.f0 ≤ 6311433599 ∧ Asc x.f0 l
def tp (p : S45 × Int) : S81 := ⟨p.1, p.2⟩
/-- What is still to come of the parts, from the instant a on. -/
def prt (te : Int) (v : S45) (a : Int) (l : List S57) : List S81 := if a < te then (pcs te v a l).map tp else []
theorem pcs_len (te : Int) : ∀ (l : List S57) (v : S45) (a : Int), (pcs te v a l).length ≤ l.length + 1
  | [], v, a => by simp [pcs]
  | x :: l, v, a => by
    unfold pcs
    split
    · simp
    · split
      · simp only [List.length_cons]; have := pcs_len te l x.f1 (mx a x.f0); omega
      · simp only [List.length_cons]; have := pcs_len te l x.f1 (mx a x.f0); omega
theorem prt_len (te : Int) (l : List S57) (v : S45) (a : Int) : (prt te v a l).length ≤ l.length + 1 := by
  unfold prt
  split
  · rw [List.length_map]; exact pcs_len te l v a
  · simp
theorem mx_ge (a b : Int) : a ≤ mx a b ∧ b ≤ mx a b ∧ (mx a b = a ∨ mx a b = b) := by unfold mx; split <;> omega
theorem mn_le (a b : Int) : mn a b ≤ a ∧ mn a b ≤ b ∧ (mn a b = a ∨ mn a b = b) := by unfold mn; split <;> omega

theorem parts_loop (l : List S57) (hl : l.length ≤ 60) (from_ te : Int) (hf : 0 ≤ from_) (hft : from_ < te) (hte : te ≤ 6311433600) : ∀ (B A : List S57) (b : Int) (v : S45) (out : List S81), A ++ B = l → 0 ≤ b → b ≤ 6311433599 → Asc b B → out.length + B.length ≤ 100 →
    Ev (fun k => plenumref44_Parts.j1 k l from_ te out ((A.length : Int) - 1) b te v.f0 v.f1) (out ++ prt te v (mx b from_) B)
  | [], A, b, v, out, h, hb, hb1, ha, ho => by
    have hA : A = l := by simpa using h
    subst hA
    obtain ⟨m1, m2, m3⟩ := mx_ge b from_
    have fin : ∀ o : List S81, Ev (fun k => plenumref44_Parts.l0 k A from_ te o (A.length : Int)) o := fun o => by
      refine evs (f := fun k => some o) (fun k => ?_) (Ev.now _)
      simp only [plenumref44_Parts.l0]
      rw [if_neg (by omega)]
    by_cases hlt : mx b from_ < te
    · have e : out ++ prt te v (mx b from_) [] = out ++ [(⟨(⟨v.f0, v.f1⟩ : S45), wrap64 (te - mx b from_)⟩ : S81)] := by simp [prt, hlt, pcs, tp]
      rw [e]
      refine evs (fun k => ?_) (fin _)
      simp only [plenumref44_Parts.j1]
      rw [w64s (by omega) (by omega), if_neg (by omega), if_pos hlt, if_pos (by simp at ho; omega)]
      rw [show (A.length : Int) - 1 + 1 = A.length by omega]
    · have e : out ++ prt te v (mx b from_) [] = out := by simp [prt, hlt]
      rw [e]
      refine evs (fun k => ?_) (fin _)
      simp only [plenumref44_Parts.j1]
      rw [w64s (by omega) (by omega), if_neg (by omega), if_neg hlt]
      rw [show (A.length : Int) - 1 + 1 = A.length by omega]
  | x :: B, A, b, v, out, h, hb, hb1, ha, ho => by
    have hlen : l.length = A.length + 1 + B.length := by rw [← h]; simp; omega
    have hx : rd_T57 l (A.length : Int) = x := by rw [← h]; exact rd_app57 A x B
    obtain ⟨m1, m2, m3⟩ := mx_ge b from_
    obtain ⟨n1, n2, n3⟩ := mn_le te x.f0
    obtain ⟨q1, q2, q3⟩ := mx_ge x.f0 from_
    have hbx : b ≤ x.f0 := ha.1
    have next : ∀ o : List S81, o.length + B.length ≤ 100 → Ev (fun k => plenumref44_Parts.l0 k l from_ te o (A.length : Int)) (o ++ prt te x.f1 (mx x.f0 from_) B) := fun o ho' => by
      have ih := parts_loop l hl from_ te hf hft hte B (A ++ [x]) x.f0 x.f1 o (by rw [← h]; simp) (by omega) ha.2.1 ha.2.2 ho'
      refine evs (fun k => ?_) ih
      simp only [plenumref44_Parts.l0]
      rw [if_pos (by omega), if_pos (by omega), if_pos (by omega), hx]
      rw [show (((A ++ [x]).length : Nat) : Int) - 1 = A.length by simp]
    have step : ∀ k, plenumref44_Parts.j1 (k + 1) l from_ te out ((A.length : Int) - 1) b te v.f0 v.f1 = if mx b from_ < mn te x.f0 then plenumref44_Parts.l0 k l from_ te (out ++ [(⟨(⟨v.f0, v.f1⟩ : S45), wrap64 (mn te x.f0 - mx b from_)⟩ : S81)]) (A.length : Int) else plenumref44_Parts.l0 k l from_ te out (A.length : Int) := fun k => by
      simp only [plenumref44_Parts.j1]
      rw [w64s (x := (A.length : Int) - 1 + 1) (by omega) (by omega), show (A.length : Int) - 1 + 1 = A.length by omega, if_pos (by omega), if_pos (by omega), hx]
      by_cases hc : mx b from_ < mn te x.f0
      · rw [if_pos hc, if_pos hc, if_pos (by simp at ho; omega)]
      · rw [if_neg hc, if_neg hc]
    refine evs step ?_
    have hmm : mx (mx b from_) x.f0 = mx x.f0 from_ := by
      unfold mx
      repeat' split
      all_goals omega
    by_cases hge : x.f0 ≥ te
    · have e2 : prt te x.f1 (mx x.f0 from_) B = [] := by unfold prt; rw [if_neg (by omega)]
      have hmn : mn te x.f0 = te := by omega
      by_cases hc : mx b from_ < te
      · have e : out ++ prt te v (mx b from_) (x :: B) = (out ++ [(⟨(⟨v.f0, v.f1⟩ : S45), wrap64 (te - mx b from_)⟩ : S81)]) ++ prt te x.f1 (mx x.f0 from_) B := by
          rw [e2]; unfold prt; rw [if_pos hc]; unfold pcs; rw [if_pos hge]; simp [tp]
        rw [e]
        rw [hmn]
        simp only [hc, if_true]
        exact next _ (by simp at ho ⊢; omega)
      · have e : out ++ prt te v (mx b from_) (x :: B) = out ++ prt te x.f1 (mx x.f0 from_) B := by
          rw [e2]; unfold prt; rw [if_neg hc]
        rw [e]
        rw [hmn]
        simp only [hc, if_false]
        exact next _ (by simp at ho ⊢; omega)
    · have hmn : mn te x.f0 = x.f0 := by omega
      have hct : mx b from_ < te := by omega
      have hc2 : mx x.f0 from_ < te := by omega
      rw [hmn]
      by_cases hc : mx b from_ < x.f0
      · have e : out ++ prt te v (mx b from_) (x :: B) = (out ++ [(⟨(⟨v.f0, v.f1⟩ : S45), wrap64 (x.f0 - mx b from_)⟩ : S81)]) ++ prt te x.f1 (mx x.f0 from_) B := by
          unfold prt; rw [if_pos hct, if_pos hc2]; conv => lhs; unfold pcs
          rw [if_neg hge, if_pos (by omega), hmm]; simp [tp]
        rw [e]
        simp only [hc, if_true]
        exact next _ (by simp at ho ⊢; omega)
      · have e : out ++ prt te v (mx b from_) (x :: B) = out ++ prt te x.f1 (mx x.f0 from_) B := by
          unfold prt; rw [if_pos hct, if_pos hc2]; conv => lhs; unfold pcs
          rw [if_neg hge, if_neg (by omega), hmm]
        rw [e]
        simp only [hc, if_false]
        exact next _ (by simp at ho ⊢; omega)

theorem asc_of : ∀ (l : List S57) (b : Int), rngS l = true → incS l = true → (∀ x, l.head? = some x → b ≤ x.f0) → Asc b l
  | [], _, _, _, _ => trivial
  | x :: l, b, hr, hi, hb => by
    have h1 : okAt x.f0 = true ∧ rngS l = true := by simpa [rngS] using hr
    have h2 : 0 ≤ x.f0 ∧ x.f0 ≤ 6311433599 := by simpa [okAt] using h1.1
    refine ⟨hb x rfl, h2.2, asc_of l x.f0 h1.2 ?_ ?_⟩
    · cases l with
      | nil => rfl
      | cons y l => simp only [incS, Bool.and_eq_true] at hi; exact hi.2
    · intro y hy
      cases l with
      | nil => cases hy
      | cons z l =>
        simp only [List.head?_cons, Option.some.injEq] at hy
        subst hy
        simp only [incS, Bool.and_eq_true, decide_eq_true_eq] at hi
        omega
theorem chk_zero {l : List S57} (h : chk l = 0) : rngS l = true ∧ incS l = true ∧ valS l = true := by
  unfold chk at h
  by_cases h1 : rngS l = true
  · by_cases h2 : incS l = true
    · by_cases h3 : valS l = true
      · exact ⟨h1, h2, h3⟩
      · rw [if_pos h1, if_pos h2, if_neg h3] at h; omega
    · rw [if_pos h1, if_neg h2] at h; omega
  · rw [if_neg h1] at h; omega
theorem spn_zero {a b : Int} (h : spn a b = 0) : 0 ≤ a ∧ a < b ∧ b ≤ 6311433599 ∧ b - a ≤ 8640000 := by
  unfold spn at h
  by_cases h1 : okAt a = true ∧ okAt b = true ∧ a < b
  · rw [if_pos h1] at h
    have ha : 0 ≤ a ∧ a ≤ 6311433599 := by simpa [okAt] using h1.1
    have hb : 0 ≤ b ∧ b ≤ 6311433599 := by simpa [okAt] using h1.2.1
    by_cases h2 : b - a > 8640000
    · rw [if_pos h2] at h; omega
    · exact ⟨ha.1, h1.2.2, hb.2, by omega⟩
  · rw [if_neg h1] at h; omega
theorem asc0 {l : List S57} (h : chk l = 0) : Asc 0 l := by
  obtain ⟨h1, h2, h3⟩ := chk_zero h
  refine asc_of l 0 h1 h2 (fun x hx => ?_)
  cases l with
  | nil => cases hx
  | cons y l =>
    simp only [List.head?_cons, Option.some.injEq] at hx
    subst hx
    have h1 : okAt y.f0 = true ∧ rngS l = true := by simpa [rngS] using h1
    have h2 : 0 ≤ y.f0 ∧ y.f0 ≤ 6311433599 := by simpa [okAt] using h1.1
    exact h2.1
/-- The pieces of a span. -/
def P (l : List S57) (a b : Int) : List (S45 × Int) := pcs b ⟨0, 0⟩ a l
theorem P_len (l : List S57) (a b : Int) : (P l a b).length ≤ l.length + 1 := pcs_len b l _ _
theorem parts_ev {l : List S57} (hl : l.length ≤ 60) (h : chk l = 0) {a b : Int} (h0 : 0 ≤ a) (hab : a < b) (hb : b ≤ 6311433600) : Ev (fun k => plenumref44_Parts.f k l a b) ((P l a b).map tp) := by
  have := parts_loop l hl a b h0 hab hb l [] 0 ⟨0, 0⟩ [] rfl (by omega) (by omega) (asc0 h) (by simp; omega)
  have e : ([] : List S81) ++ prt b ⟨0, 0⟩ (mx 0 a) l = (P l a b).map tp := by
    have hm : mx 0 a = a := by unfold mx; split <;> omega
    rw [hm]; unfold prt P; rw [if_pos hab]; rfl
  rw [e] at this
  refine Ev.congr (g := fun k => plenumref44_Parts.f k l a b) (f := fun k => plenumref44_Parts.l0 k l a b [] (-1)) (fun k => rfl) ?_
  refine evs (fun k => ?_) this
  simp only [plenumref44_Parts.l0]
  rw [if_pos (by omega), if_neg (by omega)]
  rfl
end Go.Proofs.Ytnfcbhoaebcndaa.Pure
