-- A sample that repeats the value before it.
import Derived.Test.YtnfcbhoaebcndaaAt
namespace Go.Proofs.Ytnfcbhoaebcndaa.Pure
open Go.RowKit Go.Proofs.Ytnfcbhoaebcndaa.PT Go.Proofs.YtnfcbhoaebcndaaW.PrintWords Go.Proofs.YtnfcbhoaebcndaaW.PrintLast Go.Proofs.YtnfcbhoaebcndaaW.PrintMore
set_option linter.unusedVariables false
set_option linter.unusedSimpArgs false
def cs (v : S45) (a b : Int) : Option S45 → List S57 → Int
  | _, [] => 0
  | p, x :: l => (if isV v x.f1 = true ∧ a ≤ x.f0 ∧ x.f0 < b ∧ (∀ q, p = some q → isV v q = false) then 1 else 0) + cs v a b (some x.f1) l
theorem strF_cs (v : S45) (a b : Int) : ∀ (l : List S57) (p : Option S45) (n : Int), strF v a b p (wrap64 n) l = wrap64 (n + cs v a b p l)
  | [], p, n => by unfold strF cs; rw [Int.add_zero]
  | x :: l, p, n => by
    unfold strF cs
    split
    · rw [wadd, strF_cs v a b l, Int.add_assoc]
    · rw [strF_cs v a b l, Int.zero_add]
theorem str0 (v : S45) (a b : Int) (l : List S57) : strF v a b none 0 l = wrap64 (cs v a b none l) := by
  have := strF_cs v a b l none 0
  rw [w0, Int.zero_add] at this
  exact this
def ins (t : Int) (w : S45) : List S57 → List S57
  | [] => [⟨t, w⟩]
  | x :: l => if x.f0 > t then ⟨t, w⟩ :: x :: l else x :: ins t w l
theorem ins_length (t : Int) (w : S45) : ∀ (l : List S57), (ins t w l).length = l.length + 1
  | [] => rfl
  | x :: l => by
    unfold ins
    split
    · rfl
    · simp [ins_length t w l]
theorem ins_mem (t : Int) (w : S45) : ∀ (l : List S57), ∀ y ∈ ins t w l, y = ⟨t, w⟩ ∨ y ∈ l
  | [], y, h => by simp [ins] at h; exact .inl h
  | x :: l, y, h => by
    unfold ins at h
    split at h
    · cases List.mem_cons.1 h with
      | inl e => exact .inl e
      | inr e => exact .inr e
    · cases List.mem_cons.1 h with
      | inl e => exact .inr (by simp [e])
      | inr e => cases ins_mem t w l y e with
        | inl e => exact .inl e
        | inr e => exact .inr (by simp [e])
theorem pz_ins1 (w : S45 → Int) (te t : Int) (v : S45) (a : Int) (x : S57) (l : List S57) (h : x.f0 > t) : ws w (pz te v a (⟨t, v⟩ :: x :: l)) = ws w (pz te v a (x :: l)) := by
  by_cases c1 : t ≥ te
  · have e1 : pz te v a (⟨t, v⟩ :: x :: l) = [(v, te - a)] := if_pos c1
    have e2 : pz te v a (x :: l) = [(v, te - a)] := if_pos (by omega)
    rw [e1, e2]
  · by_cases c2 : t > a
    · have e1 : pz te v a (⟨t, v⟩ :: x :: l) = (v, t - a) :: pz te v t (x :: l) := (if_neg c1).trans (if_pos c2)
      rw [e1]
      unfold pz
      by_cases c3 : x.f0 ≥ te
      · rw [if_pos c3, if_pos c3]
        simp only [ws]
        rw [Int.add_zero, Int.add_zero, ← Int.mul_add]; congr 1; omega
      · rw [if_neg c3, if_neg c3, if_pos (show x.f0 > t by omega), if_pos (show x.f0 > a by omega)]
        simp only [ws]
        rw [← Int.add_assoc, ← Int.mul_add, show t - a + (x.f0 - t) = x.f0 - a by omega]
    · have e1 : pz te v a (⟨t, v⟩ :: x :: l) = pz te v a (x :: l) := (if_neg c1).trans (if_neg c2)
      rw [e1]
theorem pz_ins (w : S45 → Int) (te t : Int) : ∀ (l : List S57) (v : S45) (a b : Int), Asc b l → ws w (pz te v a (ins t (atF t v l) l)) = ws w (pz te v a l)
  | [], v, a, b, _ => by
    have e : ins t (atF t v []) [] = [⟨t, v⟩] := rfl
    rw [e]
    unfold pz
    by_cases c1 : t ≥ te
    · rw [if_pos c1]
    · rw [if_neg c1]
      by_cases c2 : t > a
      · rw [if_pos c2]
        simp only [ws, pz]
        rw [Int.add_zero, Int.add_zero, ← Int.mul_add]; congr 1; omega
      · rw [if_neg c2]; simp only [pz]
  | x :: l, v, a, b, h => by
    obtain ⟨h1, h2, h3⟩ := h
    by_cases c : x.f0 > t
    · have e1 : atF t v (x :: l) = v := (if_neg (by omega)).trans (atF_asc t l x.f0 v h3 (by omega))
      have e2 : ins t v (x :: l) = ⟨t, v⟩ :: x :: l := if_pos c
      rw [e1, e2, pz_ins1 w te t v a x l c]
    · have e1 : atF t v (x :: l) = atF t x.f1 l := if_pos (by omega)
      have e2 : ∀ u, ins t u (x :: l) = x :: ins t u l := fun u => if_neg c
      rw [e1, e2]
      unfold pz
      by_cases c1 : x.f0 ≥ te
      · rw [if_pos c1, if_pos c1]
      · rw [if_neg c1, if_neg c1]
        by_cases c2 : x.f0 > a
        · rw [if_pos c2, if_pos c2]
          simp only [ws]
          rw [pz_ins w te t l x.f1 x.f0 x.f0 h3]
        · rw [if_neg c2, if_neg c2, pz_ins w te t l x.f1 a x.f0 h3]
theorem cs_ins (u : S45) (a b t : Int) : ∀ (l : List S57) (v : S45) (m : Int), Asc m l → cs u a b (some v) (ins t (atF t v l) l) = cs u a b (some v) l
  | [], v, m, _ => by
    have e : ins t (atF t v []) [] = [⟨t, v⟩] := rfl
    rw [e]
    unfold cs
    rw [if_neg (fun h => by have := h.2.2.2 v rfl; rw [h.1] at this; cases this)]
    rfl
  | x :: l, v, m, h => by
    obtain ⟨h1, h2, h3⟩ := h
    by_cases c : x.f0 > t
    · have e1 : atF t v (x :: l) = v := (if_neg (by omega)).trans (atF_asc t l x.f0 v h3 (by omega))
      have e2 : ins t v (x :: l) = ⟨t, v⟩ :: x :: l := if_pos c
      have e3 : cs u a b (some v) (⟨t, v⟩ :: x :: l) = 0 + cs u a b (some v) (x :: l) := by
        conv => lhs; unfold cs
        rw [if_neg (fun h => by have := h.2.2.2 v rfl; rw [h.1] at this; cases this)]
      rw [e1, e2, e3, Int.zero_add]
    · have e1 : atF t v (x :: l) = atF t x.f1 l := if_pos (by omega)
      have e2 : ∀ u, ins t u (x :: l) = x :: ins t u l := fun u => if_neg c
      rw [e1, e2]
      unfold cs
      rw [cs_ins u a b t l x.f1 x.f0 h3]
theorem atF_ok (t : Int) : ∀ (l : List S57) (v : S45), okV v = true → valS l = true → okV (atF t v l) = true
  | [], v, h, _ => h
  | x :: l, v, h, hl => by
    have hl : okV x.f1 = true ∧ valS l = true := by simpa [valS] using hl
    unfold atF
    split
    · exact atF_ok t l x.f1 hl.1 hl.2
    · exact atF_ok t l v h hl.2
theorem inc_ins (t : Int) (w : S45) : ∀ (l : List S57) (x : S57), x.f0 < t → incS (x :: l) = true → (∀ y ∈ l, y.f0 ≠ t) → incS (x :: ins t w l) = true
  | [], x, h, _, _ => by simp [ins, incS]; exact h
  | y :: l, x, h, hi, hn => by
    have hi : x.f0 < y.f0 ∧ incS (y :: l) = true := by simpa [incS] using hi
    unfold ins
    by_cases c : y.f0 > t
    · rw [if_pos c]
      simp only [incS, Bool.and_eq_true, decide_eq_true_eq]
      exact ⟨h, c, hi.2⟩
    · rw [if_neg c]
      have := hn y (by simp)
      simp only [incS, Bool.and_eq_true, decide_eq_true_eq]
      exact ⟨hi.1, inc_ins t w l y (by omega) hi.2 (fun z hz => hn z (by simp [hz]))⟩
theorem chk_ins {l : List S57} (h : chk l = 0) {t : Int} {w : S45} (ht : okAt t = true) (hw : okV w = true) (hn : ∀ y ∈ l, y.f0 ≠ t) (hh : ∀ x, l.head? = some x → x.f0 ≤ t) : chk (ins t w l) = 0 := by
  obtain ⟨h1, h2, h3⟩ := chk_zero h
  have e1 : rngS (ins t w l) = true := by
    unfold rngS at h1 ⊢
    rw [List.all_eq_true] at h1 ⊢
    intro y hy
    cases ins_mem t w l y hy with
    | inl e => rw [e]; exact ht
    | inr e => exact h1 y e
  have e3 : valS (ins t w l) = true := by
    unfold valS at h3 ⊢
    rw [List.all_eq_true] at h3 ⊢
    intro y hy
    cases ins_mem t w l y hy with
    | inl e => rw [e]; exact hw
    | inr e => exact h3 y e
  have e2 : incS (ins t w l) = true := by
    cases l with
    | nil => rfl
    | cons x l =>
      have a1 := hh x rfl
      have a2 := hn x (by simp)
      have e : ins t w (x :: l) = x :: ins t w l := if_neg (by omega)
      rw [e]
      exact inc_ins t w l x (by omega) h2 (fun z hz => hn z (by simp [hz]))
  unfold chk
  rw [if_pos e1, if_pos e2, if_pos e3]
end Go.Proofs.Ytnfcbhoaebcndaa.Pure
