-- Bounds: the least and the greatest of the values at both ends and of the knots between.
import Derived.Test.YtacheoimnckghaaVal
import Derived.Test.YtacheoimnckghaaPTx27
import Derived.Test.YtacheoimnckghaaPTx25
import Derived.Test.YtacheoimnckghaaPTx26
namespace Go.Proofs.Ytacheoimnckghaa.Pure
open Go.RowKit Go.Proofs.Ytacheoimnckghaa.PT Go.Proofs.YtacheoimnckghaaW.PrintWords Go.Proofs.YtacheoimnckghaaW.PrintLast Go.Proofs.YtacheoimnckghaaW.PrintMore
set_option linter.unusedVariables false
set_option linter.unusedSimpArgs false
theorem rd_app (A : List Int) (b : Int) (B : List Int) : rd (A ++ b :: B) (A.length : Int) = b := by simp [rd]
theorem min_loop (l : List Int) (hl : l.length ≤ 1000) : ∀ (B A : List Int) (m : Int), A ++ B = l → Ev (fun k => slices_Min_int64_int64.l0 k l m (A.length : Int)) (B.foldl mn m)
  | [], A, m, h => by
    have hA : A = l := by simpa using h
    subst hA
    refine evs (f := fun k => some m) (fun k => ?_) (Ev.now _)
    simp only [slices_Min_int64_int64.l0]
    rw [if_neg (by omega)]
  | b :: B, A, m, h => by
    have hlen : l.length = A.length + 1 + B.length := by rw [← h]; simp; omega
    have hb : rd l (A.length : Int) = b := by rw [← h]; exact rd_app A b B
    refine evs (fun k => ?_) (min_loop l hl B (A ++ [b]) (mn m b) (by rw [← h]; simp))
    simp only [slices_Min_int64_int64.l0]
    rw [if_pos (by omega), if_pos (by omega), hb, w64s (by omega) (by omega)]
    simp
theorem max_loop (l : List Int) (hl : l.length ≤ 1000) : ∀ (B A : List Int) (m : Int), A ++ B = l → Ev (fun k => slices_Max_int64_int64.l0 k l m (A.length : Int)) (B.foldl mx m)
  | [], A, m, h => by
    have hA : A = l := by simpa using h
    subst hA
    refine evs (f := fun k => some m) (fun k => ?_) (Ev.now _)
    simp only [slices_Max_int64_int64.l0]
    rw [if_neg (by omega)]
  | b :: B, A, m, h => by
    have hlen : l.length = A.length + 1 + B.length := by rw [← h]; simp; omega
    have hb : rd l (A.length : Int) = b := by rw [← h]; exact rd_app A b B
    refine evs (fun k => ?_) (max_loop l hl B (A ++ [b]) (mx m b) (by rw [← h]; simp))
    simp only [slices_Max_int64_int64.l0]
    rw [if_pos (by omega), if_pos (by omega), hb, w64s (by omega) (by omega)]
    simp
theorem min_ev (a : Int) (l : List Int) (hl : l.length ≤ 900) : Ev (fun k => slices_Min_int64_int64.f k (a :: l)) (l.foldl mn a) := by
  refine Ev.congr (fun k => ?_) (min_loop (a :: l) (by simp; omega) l [a] a rfl)
  unfold slices_Min_int64_int64.f
  rw [if_neg (by simp <;> omega), if_pos (by simp <;> omega)]
  rfl
theorem max_ev (a : Int) (l : List Int) (hl : l.length ≤ 900) : Ev (fun k => slices_Max_int64_int64.f k (a :: l)) (l.foldl mx a) := by
  refine Ev.congr (fun k => ?_) (max_loop (a :: l) (by simp; omega) l [a] a rfl)
  unfold slices_Max_int64_int64.f
  rw [if_neg (by simp <;> omega), if_pos (by simp <;> omega)]
  rfl
/-- The Y of the knots within lo and hi. -/
def sel (lo hi : Int) : List S50 → List Int
  | [] => []
  | b :: B => if b.f0 ≥ lo ∧ b.f0 ≤ hi then b.f1 :: sel lo hi B else sel lo hi B
theorem sel_len (lo hi : Int) : ∀ B, (sel lo hi B).length ≤ B.length
  | [] => Nat.le_refl _
  | b :: B => by
    have := sel_len lo hi B
    simp only [sel]
    split <;> simp <;> omega
theorem sel_mem {lo hi : Int} {b : S50} : ∀ {B : List S50}, b ∈ B → lo ≤ b.f0 → b.f0 ≤ hi → b.f1 ∈ sel lo hi B
  | a :: B, h, h0, h1 => by
    simp only [sel]
    rcases List.mem_cons.1 h with rfl | h'
    · rw [if_pos ⟨h0, h1⟩]; simp
    · have := sel_mem h' h0 h1
      split
      · exact List.mem_cons_of_mem _ this
      · exact this
theorem bnd_loop (c : List S50) (lo hi : Int) (hc : c.length ≤ 40) : ∀ (B A : List S50) (a : Int) (vs : List Int), A ++ B = c → vs.length + B.length ≤ 100 →
    Ev (fun k => curve_Bounds.l0 k lo hi (a :: vs) c (c.length : Int) (A.length : Int)) ((vs ++ sel lo hi B).foldl mn a, (vs ++ sel lo hi B).foldl mx a, 0)
  | [], A, a, vs, h, hv => by
    have hA : A = c := by simpa using h
    subst hA
    simp only [sel, List.append_nil]
    refine evs (f := fun k => (slices_Min_int64_int64.f k (a :: vs)).bind fun t210 => ((slices_Max_int64_int64.f k (a :: vs)).bind fun t211 => (some (t210, t211, 0)))) (fun k => ?_) (Ev.bind (min_ev a vs (by simp at hv; omega)) (Ev.bind (max_ev a vs (by simp at hv; omega)) (Ev.now _)))
    simp only [curve_Bounds.l0]
    rw [if_neg (by omega)]
  | b :: B, A, a, vs, h, hv => by
    have hlen : c.length = A.length + 1 + B.length := by rw [← h]; simp; omega
    have hkb : kn c A.length = b := by rw [← h]; exact kn_app A b B
    have hw : wrap64 ((A.length : Int) + 1) = ((A ++ [b]).length : Int) := by rw [w64s (by omega) (by omega)]; simp
    have hAB : (A ++ [b]) ++ B = c := by rw [← h]; simp
    simp only [List.length_cons] at hv
    by_cases h0 : b.f0 ≥ lo
    · by_cases h1 : b.f0 ≤ hi
      · have e : vs ++ sel lo hi (b :: B) = (vs ++ [b.f1]) ++ sel lo hi B := by simp [sel, h0, h1]
        rw [e]
        refine evs (fun k => ?_) (bnd_loop c lo hi hc B (A ++ [b]) a (vs ++ [b.f1]) hAB (by simp; omega))
        simp only [curve_Bounds.l0]
        rw [if_pos (by omega), if_pos (by omega), if_pos (by omega), rd_kn, hkb, if_pos h0, if_pos h1, if_pos (by simp; omega), hw]
        rfl
      · have e : sel lo hi (b :: B) = sel lo hi B := by simp [sel, h1]
        rw [e]
        refine evs (fun k => ?_) (bnd_loop c lo hi hc B (A ++ [b]) a vs hAB (by omega))
        simp only [curve_Bounds.l0]
        rw [if_pos (by omega), if_pos (by omega), if_pos (by omega), rd_kn, hkb, if_pos h0, if_neg h1, hw]
    · have e : sel lo hi (b :: B) = sel lo hi B := by
        simp only [sel]
        rw [if_neg (fun h => h0 h.1)]
      rw [e]
      refine evs (fun k => ?_) (bnd_loop c lo hi hc B (A ++ [b]) a vs hAB (by omega))
      simp only [curve_Bounds.l0]
      rw [if_pos (by omega), if_pos (by omega), if_pos (by omega), rd_kn, hkb, if_neg h0, hw]
theorem bounds_good {c : List S50} (g : Good c) (lo hi : Int) : Ev (fun k => curve_Bounds.f k c lo hi) (if lo > hi then (0, 0, 1) else ((V c hi :: sel lo hi c).foldl mn (V c lo), (V c hi :: sel lo hi c).foldl mx (V c lo), 0)) := by
  have hc := check_ev c
  rw [(chk_good c).2 g] at hc
  have hle := g.le
  unfold curve_Bounds.f
  refine Ev.bind hc ?_
  simp only [if_true]
  by_cases h : lo > hi
  · simp only [h, if_true]
    exact Ev.now _
  · simp only [h, if_false]
    exact Ev.bind (value_ev c g lo) (Ev.bind (value_ev c g hi) (bnd_loop c lo hi (by omega) c [] (V c lo) [V c hi] rfl (by simp; omega)))
theorem bounds_bad {c : List S50} (g : ¬ Good c) (lo hi : Int) : Ev (fun k => curve_Bounds.f k c lo hi) (0, 0, chk c) := by
  unfold curve_Bounds.f
  refine Ev.bind (check_ev c) ?_
  simp only [chk_ne g, if_false]
  exact Ev.now _
theorem foldl_mn_le : ∀ (l : List Int) (a : Int), l.foldl mn a ≤ a ∧ ∀ z ∈ l, l.foldl mn a ≤ z
  | [], a => ⟨Int.le_refl _, fun z h => by simp at h⟩
  | b :: l, a => by
    obtain ⟨h1, h2⟩ := foldl_mn_le l (mn a b)
    have hm : mn a b ≤ a ∧ mn a b ≤ b := by unfold mn; split <;> omega
    simp only [List.foldl_cons]
    refine ⟨by omega, fun z hz => ?_⟩
    rcases List.mem_cons.1 hz with rfl | h
    · omega
    · exact h2 z h
theorem foldl_mx_ge : ∀ (l : List Int) (a : Int), a ≤ l.foldl mx a ∧ ∀ z ∈ l, z ≤ l.foldl mx a
  | [], a => ⟨Int.le_refl _, fun z h => by simp at h⟩
  | b :: l, a => by
    obtain ⟨h1, h2⟩ := foldl_mx_ge l (mx a b)
    have hm : a ≤ mx a b ∧ b ≤ mx a b := by unfold mx; split <;> omega
    simp only [List.foldl_cons]
    refine ⟨by omega, fun z hz => ?_⟩
    rcases List.mem_cons.1 hz with rfl | h
    · omega
    · exact h2 z h
/-- Behind the second knot the first one says nothing. -/
theorem V_tail {a b : S50} {l : List S50} (h : Inc a (b :: l)) {t : Int} (ht : b.f0 ≤ t) : V (a :: b :: l) t = V (b :: l) t := by
  rw [V_cons, V_cons, if_neg (by have := h.1; omega)]
  simp only [Vr]
  rw [if_neg (by omega)]
  by_cases h2 : t ≤ b.f0
  · have : t = b.f0 := by omega
    subst this
    rw [if_pos h2, Vr_self l b h.2]
  · rw [if_neg h2]
/-- A value within a span lies between two of the bounds' candidates. -/
theorem span_cand : ∀ (l : List S50) (a : S50) (lo x hi : Int), Inc a l → lo ≤ x → x ≤ hi →
    (∃ z, (z = V (a :: l) lo ∨ z = V (a :: l) hi ∨ ∃ b ∈ a :: l, lo ≤ b.f0 ∧ b.f0 ≤ hi ∧ z = b.f1) ∧ z ≤ V (a :: l) x) ∧
    (∃ z, (z = V (a :: l) lo ∨ z = V (a :: l) hi ∨ ∃ b ∈ a :: l, lo ≤ b.f0 ∧ b.f0 ≤ hi ∧ z = b.f1) ∧ V (a :: l) x ≤ z)
  | [], a, lo, x, hi, _, _, _ => by
    have hc : ∀ t, V [a] t = a.f1 := fun t => by rw [V_cons]; split <;> rfl
    exact ⟨⟨a.f1, .inl (hc lo).symm, by rw [hc]; exact Int.le_refl _⟩, ⟨a.f1, .inl (hc lo).symm, by rw [hc]; exact Int.le_refl _⟩⟩
  | b :: l, a, lo, x, hi, h, h0, h1 => by
    by_cases hx : b.f0 ≤ x
    · have hVx : V (a :: b :: l) x = V (b :: l) x := V_tail h hx
      have hVh : V (a :: b :: l) hi = V (b :: l) hi := V_tail h (by omega)
      by_cases hlo : b.f0 ≤ lo
      · have hVl : V (a :: b :: l) lo = V (b :: l) lo := V_tail h hlo
        obtain ⟨⟨z, hz, hz'⟩, ⟨y, hy, hy'⟩⟩ := span_cand l b lo x hi h.2 h0 h1
        rw [hVx, hVh, hVl]
        have lift : ∀ z, (z = V (b :: l) lo ∨ z = V (b :: l) hi ∨ ∃ d ∈ b :: l, lo ≤ d.f0 ∧ d.f0 ≤ hi ∧ z = d.f1) → (z = V (b :: l) lo ∨ z = V (b :: l) hi ∨ ∃ d ∈ a :: b :: l, lo ≤ d.f0 ∧ d.f0 ≤ hi ∧ z = d.f1) := fun z hz => by
          rcases hz with h | h | ⟨d, hd, h'⟩
          · exact .inl h
          · exact .inr (.inl h)
          · exact .inr (.inr ⟨d, List.mem_cons_of_mem _ hd, h'⟩)
        exact ⟨⟨z, lift z hz, hz'⟩, ⟨y, lift y hy, hy'⟩⟩
      · obtain ⟨⟨z, hz, hz'⟩, ⟨y, hy, hy'⟩⟩ := span_cand l b b.f0 x hi h.2 hx h1
        have hself : V (b :: l) b.f0 = b.f1 := by rw [V_cons, if_pos (Int.le_refl _)]
        rw [hVx, hVh]
        have lift : ∀ z, (z = V (b :: l) b.f0 ∨ z = V (b :: l) hi ∨ ∃ d ∈ b :: l, b.f0 ≤ d.f0 ∧ d.f0 ≤ hi ∧ z = d.f1) → (z = V (a :: b :: l) lo ∨ z = V (b :: l) hi ∨ ∃ d ∈ a :: b :: l, lo ≤ d.f0 ∧ d.f0 ≤ hi ∧ z = d.f1) := fun z hz => by
          rcases hz with h | h | ⟨d, hd, h', h'', h3⟩
          · exact .inr (.inr ⟨b, by simp, by omega, by omega, by rw [h, hself]⟩)
          · exact .inr (.inl h)
          · exact .inr (.inr ⟨d, List.mem_cons_of_mem _ hd, by omega, h'', h3⟩)
        exact ⟨⟨z, lift z hz, hz'⟩, ⟨y, lift y hy, hy'⟩⟩
    · by_cases hxa : x ≤ a.f0
      · have e1 : V (a :: b :: l) x = a.f1 := by rw [V_cons, if_pos hxa]
        have e2 : V (a :: b :: l) lo = a.f1 := by rw [V_cons, if_pos (by omega)]
        rw [e1, e2]
        exact ⟨⟨a.f1, .inl rfl, Int.le_refl _⟩, ⟨a.f1, .inl rfl, Int.le_refl _⟩⟩
      · have hV : ∀ t, a.f0 ≤ t → t < b.f0 → V (a :: b :: l) t = ip a b t := fun t ht ht' => by
          rw [V_cons]
          by_cases h : t ≤ a.f0
          · have : t = a.f0 := by omega
            subst this
            rw [if_pos h, ip_left (by omega)]
          · rw [if_neg h]
            simp only [Vr]
            rw [if_pos ht']
        have hx' := hV x (by omega) (by omega)
        -- a candidate left of x and one right of it, on the same line
        obtain ⟨s, hs, hsx, hsc⟩ : ∃ s, a.f0 ≤ s ∧ s ≤ x ∧ (ip a b s = V (a :: b :: l) lo ∨ ip a b s = V (a :: b :: l) hi ∨ ∃ d ∈ a :: b :: l, lo ≤ d.f0 ∧ d.f0 ≤ hi ∧ ip a b s = d.f1) := by
          by_cases hl : a.f0 ≤ lo
          · exact ⟨lo, hl, h0, .inl (hV lo hl (by omega)).symm⟩
          · exact ⟨a.f0, Int.le_refl _, by omega, .inr (.inr ⟨a, by simp, by omega, by omega, ip_left h.1⟩)⟩
        obtain ⟨u, hux, hub, huc⟩ : ∃ u, x ≤ u ∧ u ≤ b.f0 ∧ (ip a b u = V (a :: b :: l) lo ∨ ip a b u = V (a :: b :: l) hi ∨ ∃ d ∈ a :: b :: l, lo ≤ d.f0 ∧ d.f0 ≤ hi ∧ ip a b u = d.f1) := by
          by_cases hh : hi < b.f0
          · exact ⟨hi, h1, by omega, .inr (.inl (hV hi (by omega) hh).symm)⟩
          · exact ⟨b.f0, by omega, Int.le_refl _, .inr (.inr ⟨b, by simp, by omega, by omega, ip_right h.1⟩)⟩
        rw [hx']
        rcases Int.le_total a.f1 b.f1 with hy | hy
        · exact ⟨⟨_, hsc, ip_up h.1 hy hsx⟩, ⟨_, huc, ip_up h.1 hy hux⟩⟩
        · exact ⟨⟨_, huc, ip_down h.1 hy hux⟩, ⟨_, hsc, ip_down h.1 hy hsx⟩⟩
theorem bounds_hold {c : List S50} (g : Good c) {lo x hi : Int} (h0 : lo ≤ x) (h1 : x ≤ hi) : (V c hi :: sel lo hi c).foldl mn (V c lo) ≤ V c x ∧ V c x ≤ (V c hi :: sel lo hi c).foldl mx (V c lo) := by
  obtain ⟨a, l, rfl, hinc⟩ := g.chain
  obtain ⟨⟨z, hz, hz'⟩, ⟨y, hy, hy'⟩⟩ := span_cand l a lo x hi hinc h0 h1
  obtain ⟨m1, m2⟩ := foldl_mn_le (V (a :: l) hi :: sel lo hi (a :: l)) (V (a :: l) lo)
  obtain ⟨n1, n2⟩ := foldl_mx_ge (V (a :: l) hi :: sel lo hi (a :: l)) (V (a :: l) lo)
  constructor
  · rcases hz with h | h | ⟨d, hd, d0, d1, h⟩
    · omega
    · have := m2 _ (List.mem_cons_self); omega
    · have := m2 _ (List.mem_cons_of_mem _ (sel_mem hd d0 d1)); omega
  · rcases hy with h | h | ⟨d, hd, d0, d1, h⟩
    · omega
    · have := n2 _ (List.mem_cons_self); omega
    · have := n2 _ (List.mem_cons_of_mem _ (sel_mem hd d0 d1)); omega
theorem V_knot {c : List S50} (g : Good c) (i : Nat) (hi : i < c.length) : V c (kn c i).f0 = (kn c i).f1 := by
  by_cases h0 : i = 0
  · subst h0
    obtain ⟨a, l, rfl, hinc⟩ := g.chain
    rw [kn_zero, V_cons, if_pos (Int.le_refl _)]
  · by_cases hL : i + 1 = c.length
    · obtain ⟨a, l, rfl, hinc⟩ := g.chain
      simp only [List.length_cons] at hL
      have e : i = l.length := by omega
      subst e
      have := inc_le l a hinc 0 l.length (by omega)
      rw [Nat.zero_add, kn_zero] at this
      rw [V_cons, if_neg (by omega)]
      exact Vr_last l a _ hinc (Int.le_refl _)
    · have hab := g.inc i (by omega)
      obtain ⟨a, l, rfl, hinc⟩ := g.chain
      have := inc_le l a hinc 0 i (by simp at hi; omega)
      rw [Nat.zero_add, kn_zero] at this
      rw [V_cons, if_neg (by omega), Vr_at l a i _ hinc (by simp at hi hL; omega) (Int.le_refl _) hab, ip_left hab]
theorem V_seg {c : List S50} (g : Good c) (i : Nat) (hi : i + 1 < c.length) {x : Int} (h0 : (kn c i).f0 ≤ x) (h1 : x ≤ (kn c (i + 1)).f0) : min (kn c i).f1 (kn c (i + 1)).f1 ≤ V c x ∧ V c x ≤ max (kn c i).f1 (kn c (i + 1)).f1 := by
  have hab := g.inc i hi
  by_cases hx : x = (kn c (i + 1)).f0
  · subst hx
    rw [V_knot g (i + 1) hi]
    omega
  · by_cases hx0 : x = (kn c i).f0
    · subst hx0
      rw [V_knot g i (by omega)]
      omega
    · have hb := ip_between hab h0 h1
      obtain ⟨a, l, rfl, hinc⟩ := g.chain
      have := inc_le l a hinc 0 i (by simp at hi; omega)
      rw [Nat.zero_add, kn_zero] at this
      rw [V_cons, if_neg (by omega), Vr_at l a i _ hinc (by simp at hi; omega) h0 (by omega)]
      exact hb
end Go.Proofs.Ytacheoimnckghaa.Pure
