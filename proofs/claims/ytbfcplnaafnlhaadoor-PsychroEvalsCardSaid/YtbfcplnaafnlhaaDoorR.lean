-- Rounding to the nearest whole number, halves away from zero; the value of a line through points.
import Derived.Test.YtbfcplnaafnlhaaDoorPTx0
namespace Go.Proofs.YtbfcplnaafnlhaaDoor.Pure
open Go.RowKit Go.Proofs.YtbfcplnaafnlhaaDoor.PT
set_option linter.unusedVariables false
set_option linter.unusedSimpArgs false

/-- N / w, rounded. -/
def R (N w : Int) : Int := if 2 * (N % w) > w ∨ (2 * (N % w) = w ∧ N / w ≥ 0) then N / w + 1 else N / w
theorem R_bounds (N w : Int) : N / w ≤ R N w ∧ R N w ≤ N / w + 1 := by
  unfold R
  split <;> omega
theorem R_mono {N N' w : Int} (hw : 0 < w) (h : N ≤ N') : R N w ≤ R N' w := by
  have hq : N / w ≤ N' / w := Int.ediv_le_ediv hw h
  have e := Int.mul_ediv_add_emod N w
  have e' := Int.mul_ediv_add_emod N' w
  have b := R_bounds N w
  have b' := R_bounds N' w
  rcases Int.lt_or_eq_of_le hq with hlt | heq
  · omega
  · rw [← heq] at e'
    unfold R
    rw [← heq]
    generalize w * (N / w) = p at *
    split <;> split <;> omega
theorem R_mul {y w : Int} (hw : 0 < w) : R (y * w) w = y := by
  unfold R
  rw [Int.mul_emod_left, Int.mul_ediv_cancel _ (by omega)]
  rw [if_neg (by omega)]
theorem R_scale {N w t : Int} (hw : 0 < w) (ht : 0 < t) : R (N * t) (w * t) = R N w := by
  unfold R
  have h1 : N * t / (w * t) = N / w := Int.mul_ediv_mul_of_pos_left _ _ ht
  have h2 : N * t % (w * t) = N % w * t := by rw [Int.mul_comm N t, Int.mul_comm w t, Int.mul_emod_mul_of_pos _ _ ht, Int.mul_comm]
  rw [h1, h2]
  have h3 : (2 * (N % w * t) > w * t ↔ 2 * (N % w) > w) := by
    rw [← Int.mul_assoc]
    exact Int.mul_lt_mul_right ht
  have h4 : (2 * (N % w * t) = w * t ↔ 2 * (N % w) = w) := by
    rw [← Int.mul_assoc]
    exact Int.mul_eq_mul_right_iff (by omega)
  simp only [h3, h4]
theorem R_cross {N N' w w' : Int} (hw : 0 < w) (hw' : 0 < w') (h : N * w' = N' * w) : R N w = R N' w' := by
  rw [← R_scale (N := N) hw hw', ← R_scale (N := N') hw' hw, h, Int.mul_comm w w']

/-- Between two knots. -/
def ip (a b : S37) (x : Int) : Int := R (a.f1 * (b.f0 - a.f0) + (x - a.f0) * (b.f1 - a.f1)) (b.f0 - a.f0)
theorem ip_left {a b : S37} (h : a.f0 < b.f0) : ip a b a.f0 = a.f1 := by
  unfold ip
  rw [Int.sub_self, Int.zero_mul, Int.add_zero]
  exact R_mul (by omega)
theorem ip_right {a b : S37} (h : a.f0 < b.f0) : ip a b b.f0 = b.f1 := by
  unfold ip
  have : a.f1 * (b.f0 - a.f0) + (b.f0 - a.f0) * (b.f1 - a.f1) = b.f1 * (b.f0 - a.f0) := by grind
  rw [this]
  exact R_mul (by omega)
theorem ip_up {a b : S37} (h : a.f0 < b.f0) (hy : a.f1 ≤ b.f1) {x y : Int} (hxy : x ≤ y) : ip a b x ≤ ip a b y := by
  unfold ip
  refine R_mono (by omega) ?_
  have := Int.mul_le_mul_of_nonneg_right (show x - a.f0 ≤ y - a.f0 by omega) (show 0 ≤ b.f1 - a.f1 by omega)
  omega
theorem ip_down {a b : S37} (h : a.f0 < b.f0) (hy : b.f1 ≤ a.f1) {x y : Int} (hxy : x ≤ y) : ip a b y ≤ ip a b x := by
  unfold ip
  refine R_mono (by omega) ?_
  have h1 := Int.mul_le_mul_of_nonneg_right (show x - a.f0 ≤ y - a.f0 by omega) (show 0 ≤ a.f1 - b.f1 by omega)
  have e1 : (x - a.f0) * (b.f1 - a.f1) = - ((x - a.f0) * (a.f1 - b.f1)) := by grind
  have e2 : (y - a.f0) * (b.f1 - a.f1) = - ((y - a.f0) * (a.f1 - b.f1)) := by grind
  omega
theorem ip_between {a b : S37} (h : a.f0 < b.f0) {x : Int} (h0 : a.f0 ≤ x) (h1 : x ≤ b.f0) : min a.f1 b.f1 ≤ ip a b x ∧ ip a b x ≤ max a.f1 b.f1 := by
  rcases Int.le_total a.f1 b.f1 with hy | hy
  · have u1 := ip_up h hy h0
    have u2 := ip_up h hy h1
    rw [ip_left h] at u1
    rw [ip_right h] at u2
    omega
  · have u1 := ip_down h hy h0
    have u2 := ip_down h hy h1
    rw [ip_left h] at u1
    rw [ip_right h] at u2
    omega

/-- The knots' X rise. -/
def Inc : S37 → List S37 → Prop
  | _, [] => True
  | a, b :: l => a.f0 < b.f0 ∧ Inc b l
/-- The value right of the first knot. -/
def Vr : S37 → List S37 → Int → Int
  | a, [], _ => a.f1
  | a, b :: l, x => if x < b.f0 then ip a b x else Vr b l x
/-- The value. -/
def V : List S37 → Int → Int
  | [], _ => 0
  | a :: l, x => if x ≤ a.f0 then a.f1 else Vr a l x
theorem V_cons (a : S37) (l : List S37) (x : Int) : V (a :: l) x = if x ≤ a.f0 then a.f1 else Vr a l x := rfl
def kn (c : List S37) (i : Nat) : S37 := c.getD i z37
theorem kn_zero (a : S37) (l : List S37) : kn (a :: l) 0 = a := rfl
theorem kn_succ (a : S37) (l : List S37) (i : Nat) : kn (a :: l) (i + 1) = kn l i := by simp [kn]
theorem kn_mem {c : List S37} {i : Nat} (h : i < c.length) : kn c i ∈ c := by
  unfold kn
  rw [List.getD_eq_getElem?_getD, List.getElem?_eq_getElem h]
  exact List.getElem_mem h
theorem inc_of : ∀ (l : List S37) (a : S37), (∀ i, i + 1 < (a :: l).length → (kn (a :: l) i).f0 < (kn (a :: l) (i + 1)).f0) → Inc a l
  | [], _, _ => trivial
  | b :: l, a, h => ⟨by simpa [kn] using h 0 (by simp), inc_of l b (fun i hi => by have := h (i + 1) (by simpa using hi); simpa [kn] using this)⟩
theorem inc_at : ∀ (l : List S37) (a : S37), Inc a l → ∀ i, i < l.length → (kn (a :: l) i).f0 < (kn (a :: l) (i + 1)).f0
  | [], _, _, i, hi => by simp at hi
  | b :: l, a, h, 0, _ => by simpa [kn] using h.1
  | b :: l, a, h, i + 1, hi => by
    rw [kn_succ, kn_succ]
    exact inc_at l b h.2 i (by simpa using hi)
theorem inc_le (l : List S37) (a : S37) (h : Inc a l) (i : Nat) : ∀ j, i + j ≤ l.length → (kn (a :: l) i).f0 + j ≤ (kn (a :: l) (i + j)).f0
  | 0, _ => by simp
  | j + 1, hj => by
    have h1 := inc_le l a h i j (by omega)
    have h2 := inc_at l a h (i + j) (by omega)
    rw [← Nat.add_assoc]
    omega
theorem Vr_at : ∀ (l : List S37) (a : S37) (k : Nat) (x : Int), Inc a l → k < l.length → (kn (a :: l) k).f0 ≤ x → x < (kn (a :: l) (k + 1)).f0 → Vr a l x = ip (kn (a :: l) k) (kn (a :: l) (k + 1)) x
  | [], _, _, _, _, hk, _, _ => by simp at hk
  | b :: l, a, 0, x, h, _, h0, h1 => by
    have : x < b.f0 := by simpa [kn] using h1
    simp [Vr, this, kn]
  | b :: l, a, k + 1, x, h, hk, h0, h1 => by
    rw [kn_succ] at h0 h1 ⊢
    rw [kn_succ a (b :: l) (k + 1)]
    have hb := inc_le l b h.2 0 k (by simp at hk; omega)
    rw [Nat.zero_add] at hb
    have hb0 : kn (b :: l) 0 = b := rfl
    rw [hb0] at hb
    have : ¬ x < b.f0 := by omega
    simp only [Vr, this, if_false]
    exact Vr_at l b k x h.2 (by simpa using hk) h0 h1
theorem Vr_last : ∀ (l : List S37) (a : S37) (x : Int), Inc a l → (kn (a :: l) l.length).f0 ≤ x → Vr a l x = (kn (a :: l) l.length).f1
  | [], a, x, _, _ => rfl
  | b :: l, a, x, h, h0 => by
    rw [List.length_cons, kn_succ] at h0 ⊢
    have hb := inc_le l b h.2 0 l.length (by omega)
    rw [Nat.zero_add] at hb
    have hb0 : kn (b :: l) 0 = b := rfl
    rw [hb0] at hb
    have : ¬ x < b.f0 := by omega
    simp only [Vr, this, if_false]
    exact Vr_last l b x h.2 h0
/-- The Y do not fall, or do not rise. -/
def Up : S37 → List S37 → Prop
  | _, [] => True
  | a, b :: l => a.f1 ≤ b.f1 ∧ Up b l
def Down : S37 → List S37 → Prop
  | _, [] => True
  | a, b :: l => b.f1 ≤ a.f1 ∧ Down b l
theorem Vr_up_left : ∀ (l : List S37) (a : S37) (x : Int), Inc a l → Up a l → a.f0 ≤ x → a.f1 ≤ Vr a l x
  | [], a, x, _, _, _ => Int.le_refl _
  | b :: l, a, x, h, hu, h0 => by
    unfold Vr
    split
    · have := ip_up h.1 hu.1 h0
      rwa [ip_left h.1] at this
    · have := Vr_up_left l b x h.2 hu.2 (by omega)
      have := hu.1
      omega
theorem Vr_up : ∀ (l : List S37) (a : S37) (x y : Int), Inc a l → Up a l → a.f0 ≤ x → x ≤ y → Vr a l x ≤ Vr a l y
  | [], a, x, y, _, _, _, _ => Int.le_refl _
  | b :: l, a, x, y, h, hu, h0, hxy => by
    unfold Vr
    by_cases hy : y < b.f0
    · rw [if_pos hy, if_pos (by omega)]
      exact ip_up h.1 hu.1 hxy
    · rw [if_neg hy]
      split
      · have h1 := ip_up h.1 hu.1 (show x ≤ b.f0 by omega)
        rw [ip_right h.1] at h1
        have h2 := Vr_up_left l b y h.2 hu.2 (by omega)
        omega
      · exact Vr_up l b x y h.2 hu.2 (by omega) hxy
theorem Vr_down_left : ∀ (l : List S37) (a : S37) (x : Int), Inc a l → Down a l → a.f0 ≤ x → Vr a l x ≤ a.f1
  | [], a, x, _, _, _ => Int.le_refl _
  | b :: l, a, x, h, hu, h0 => by
    unfold Vr
    split
    · have := ip_down h.1 hu.1 h0
      rwa [ip_left h.1] at this
    · have := Vr_down_left l b x h.2 hu.2 (by omega)
      have := hu.1
      omega
theorem Vr_down : ∀ (l : List S37) (a : S37) (x y : Int), Inc a l → Down a l → a.f0 ≤ x → x ≤ y → Vr a l y ≤ Vr a l x
  | [], a, x, y, _, _, _, _ => Int.le_refl _
  | b :: l, a, x, y, h, hu, h0, hxy => by
    unfold Vr
    by_cases hy : y < b.f0
    · rw [if_pos hy, if_pos (by omega)]
      exact ip_down h.1 hu.1 hxy
    · rw [if_neg hy]
      split
      · have h1 := ip_down h.1 hu.1 (show x ≤ b.f0 by omega)
        rw [ip_right h.1] at h1
        have h2 := Vr_down_left l b y h.2 hu.2 (by omega)
        omega
      · exact Vr_down l b x y h.2 hu.2 (by omega) hxy
theorem V_up {a : S37} {l : List S37} (h : Inc a l) (hu : Up a l) {x y : Int} (hxy : x ≤ y) : V (a :: l) x ≤ V (a :: l) y := by
  rw [V_cons, V_cons]
  split
  · split
    · exact Int.le_refl _
    · exact Vr_up_left l a y h hu (by omega)
  · rw [if_neg (by omega)]
    exact Vr_up l a x y h hu (by omega) hxy
theorem V_down {a : S37} {l : List S37} (h : Inc a l) (hu : Down a l) {x y : Int} (hxy : x ≤ y) : V (a :: l) y ≤ V (a :: l) x := by
  rw [V_cons, V_cons]
  by_cases h1 : x ≤ a.f0
  · rw [if_pos h1]
    split
    · exact Int.le_refl _
    · exact Vr_down_left l a y h hu (by omega)
  · rw [if_neg h1, if_neg (by omega)]
    exact Vr_down l a x y h hu (by omega) hxy
theorem Vr_self : ∀ (l : List S37) (a : S37), Inc a l → Vr a l a.f0 = a.f1
  | [], a, _ => rfl
  | b :: l, a, h => by
    simp only [Vr]
    rw [if_pos h.1]
    exact ip_left h.1
end Go.Proofs.YtbfcplnaafnlhaaDoor.Pure
