-- The plain sums over the pieces of a span.
import Derived.Test.YtnfcbhoaebcndaaSpC
namespace Go.Proofs.Ytnfcbhoaebcndaa.Pure
open Go.RowKit Go.Proofs.Ytnfcbhoaebcndaa.PT Go.Proofs.YtnfcbhoaebcndaaW.PrintWords Go.Proofs.YtnfcbhoaebcndaaW.PrintLast Go.Proofs.YtnfcbhoaebcndaaW.PrintMore
set_option linter.unusedVariables false
set_option linter.unusedSimpArgs false

theorem ev_some {α : Type} {g : Nat → Option α} {r : α} (h : Ev g r) : ∃ k, g k = some r := by
  obtain ⟨K, hK⟩ := h
  exact ⟨K, hK K (Nat.le_refl _)⟩
theorem evp {α : Type} {c : Prop} [Decidable c] {A B : Nat → Option α} {r : α} (h : c) (g : Ev A r) : Ev (fun k => if c then A k else B k) r := Ev.congr (fun k => if_pos h) g
theorem evn {α : Type} {c : Prop} [Decidable c] {A B : Nat → Option α} {r : α} (h : ¬ c) (g : Ev B r) : Ev (fun k => if c then A k else B k) r := Ev.congr (fun k => if_neg h) g
theorem w64 (x : Int) : wrap64 x = (x + 9223372036854775808) % 18446744073709551616 - 9223372036854775808 := by rw [← i64_w, IntKind.wrap_i64]
theorem wadd (x y : Int) : wrap64 (wrap64 x + y) = wrap64 (x + y) := by simp only [w64]; omega
theorem wadd' (x y : Int) : wrap64 (x + wrap64 y) = wrap64 (x + y) := by simp only [w64]; omega
theorem ww (x : Int) : wrap64 (wrap64 x) = wrap64 x := by simp only [w64]; omega
theorem w0 : wrap64 0 = 0 := by rw [w64]; rfl

/-! ### the pieces without wrapping -/
def pz (te : Int) : S45 → Int → List S57 → List (S45 × Int)
  | v, a, [] => [(v, te - a)]
  | v, a, x :: l => if x.f0 ≥ te then [(v, te - a)] else if x.f0 > a then (v, x.f0 - a) :: pz te x.f1 x.f0 l else pz te x.f1 a l
theorem pcs_pz (te : Int) (h : te ≤ 7000000000) : ∀ (l : List S57) (v : S45) (a : Int), 0 ≤ a → a ≤ te → pcs te v a l = pz te v a l
  | [], v, a, h0, h1 => by unfold pcs pz; rw [w64s (by omega) (by omega)]
  | x :: l, v, a, h0, h1 => by
    unfold pcs pz
    by_cases c1 : x.f0 ≥ te
    · rw [if_pos c1, if_pos c1, w64s (by omega) (by omega)]
    · rw [if_neg c1, if_neg c1]
      by_cases c2 : x.f0 > a
      · have e : mx a x.f0 = x.f0 := by unfold mx; omega
        rw [if_pos c2, if_pos c2, w64s (by omega) (by omega), e, pcs_pz te h l x.f1 x.f0 (by omega) (by omega)]
      · have e : mx a x.f0 = a := by unfold mx; omega
        rw [if_neg c2, if_neg c2, e, pcs_pz te h l x.f1 a (by omega) (by omega)]
theorem P_pz (l : List S57) {a b : Int} (h0 : 0 ≤ a) (hab : a < b) (hb : b ≤ 6311433600) : P l a b = pz b ⟨0, 0⟩ a l := pcs_pz b (by omega) l _ a h0 (by omega)

/-! ### weighed sums -/
def wA (v : S45) : Int := if v.f0 = 1 then v.f1 else 0
def ind (p : S45 → Bool) (v : S45) : Int := if p v = true then 1 else 0
def isA (v : S45) : Bool := decide (v.f0 = 1)
def ws (w : S45 → Int) : List (S45 × Int) → Int
  | [] => 0
  | p :: l => w p.1 * p.2 + ws w l
theorem sum_fold : ∀ (ps : List (S45 × Int)) (s n : Int), ps.foldl sumStep (wrap64 s, wrap64 n) = (wrap64 (s + ws wA ps), wrap64 (n + ws (ind isA) ps))
  | [], s, n => by simp [ws]
  | p :: l, s, n => by
    rw [List.foldl_cons]
    unfold ws
    by_cases h : p.1.f0 = 1
    · have e0 : sumStep (wrap64 s, wrap64 n) p = (wrap64 (s + p.1.f1 * p.2), wrap64 (n + p.2)) := by unfold sumStep; rw [if_pos h]; simp only [wadd, wadd']
      rw [e0, sum_fold l]
      have e1 : wA p.1 = p.1.f1 := if_pos h
      have e2 : ind isA p.1 = 1 := by unfold ind isA; simp [h]
      rw [e1, e2, Int.one_mul, Int.add_assoc, Int.add_assoc]
    · have e0 : sumStep (wrap64 s, wrap64 n) p = (wrap64 s, wrap64 n) := if_neg h
      rw [e0, sum_fold l]
      have e1 : wA p.1 = 0 := if_neg h
      have e2 : ind isA p.1 = 0 := by unfold ind isA; simp [h]
      rw [e1, e2, Int.zero_mul, Int.zero_add, Int.zero_add]
theorem sum_ws (ps : List (S45 × Int)) : sumOf ps = (wrap64 (ws wA ps), wrap64 (ws (ind isA) ps)) := by
  have := sum_fold ps 0 0
  rw [w0, Int.zero_add, Int.zero_add] at this
  exact this
theorem cnt_fold (p : S45 → Bool) : ∀ (ps : List (S45 × Int)) (n : Int), ps.foldl (cntStep p) (wrap64 n) = wrap64 (n + ws (ind p) ps)
  | [], n => by simp [ws]
  | q :: l, n => by
    rw [List.foldl_cons]
    unfold ws
    by_cases h : p q.1 = true
    · have e0 : cntStep p (wrap64 n) q = wrap64 (n + q.2) := by unfold cntStep; rw [if_pos h, wadd]
      rw [e0, cnt_fold p l]
      have e2 : ind p q.1 = 1 := if_pos h
      rw [e2, Int.one_mul, Int.add_assoc]
    · have e0 : cntStep p (wrap64 n) q = wrap64 n := if_neg h
      rw [e0, cnt_fold p l]
      have e2 : ind p q.1 = 0 := if_neg h
      rw [e2, Int.zero_mul, Int.zero_add]
theorem cnt_ws (p : S45 → Bool) (ps : List (S45 × Int)) : cntOf p ps = wrap64 (ws (ind p) ps) := by
  have := cnt_fold p ps 0
  rw [w0, Int.zero_add] at this
  exact this
theorem h_fold (ls : List Int) (j : Nat) : ∀ (ps : List (S45 × Int)) (s : List Int) (n : Int), s.length = ls.length + 1 → j < ls.length + 1 → s.getD j 0 = wrap64 n → (ps.foldl (hStep ls) s).getD j 0 = wrap64 (n + ws (ind fun v => decide (v.f0 = 1 ∧ bk ls v.f1 = j)) ps)
  | [], s, n, _, _, h => by simp [ws]; simpa using h
  | q :: l, s, n, hs, hj, h => by
    rw [List.foldl_cons]
    unfold ws
    rw [h_fold ls j l (hStep ls s q) (n + (ind fun v => decide (v.f0 = 1 ∧ bk ls v.f1 = j)) q.1 * q.2) (by rw [hStep_length, hs]) hj ?_, Int.add_assoc]
    unfold hStep ind
    by_cases c : q.1.f0 = 1
    · rw [if_pos c]
      by_cases d : bk ls q.1.f1 = j
      · rw [if_pos (by simp [c, d]), d, Int.one_mul, h, List.getD_eq_getElem?_getD, List.getElem?_set_self (by omega)]
        simp only [Option.getD_some]
        rw [wadd]
      · rw [if_neg (by simp [c, d]), Int.zero_mul, Int.add_zero, List.getD_eq_getElem?_getD, List.getElem?_set_ne d, ← List.getD_eq_getElem?_getD]
        exact h
    · rw [if_neg c, if_neg (by simp [c]), Int.zero_mul, Int.add_zero]
      exact h
theorem h_ws (ls : List Int) (ps : List (S45 × Int)) (j : Nat) (hj : j < ls.length + 1) : (hOf ls ps).getD j 0 = wrap64 (ws (ind fun v => decide (v.f0 = 1 ∧ bk ls v.f1 = j)) ps) := by
  have := h_fold ls j ps (List.replicate (ls.length + 1) 0) 0 (by simp) hj (by rw [w0, List.getD_eq_getElem?_getD, List.getElem?_replicate, if_pos hj]; rfl)
  rw [Int.zero_add] at this
  exact this
theorem ws_congr {w u : S45 → Int} : ∀ (ps : List (S45 × Int)), (∀ p ∈ ps, w p.1 = u p.1) → ws w ps = ws u ps
  | [], _ => rfl
  | p :: l, h => by
    unfold ws
    rw [h p (by simp), ws_congr l (fun q hq => h q (by simp [hq]))]
theorem ws_add (w u : S45 → Int) : ∀ (ps : List (S45 × Int)), ws (fun v => w v + u v) ps = ws w ps + ws u ps
  | [] => rfl
  | p :: l => by
    unfold ws
    rw [ws_add w u l, Int.add_mul]; omega
theorem ws_mul (c : Int) (w : S45 → Int) : ∀ (ps : List (S45 × Int)), ws (fun v => c * w v) ps = c * ws w ps
  | [] => by simp [ws]
  | p :: l => by
    unfold ws
    rw [ws_mul c w l, Int.mul_add, Int.mul_assoc]
theorem ws_le {w u : S45 → Int} : ∀ (ps : List (S45 × Int)), (∀ p ∈ ps, 0 ≤ p.2 ∧ w p.1 ≤ u p.1) → ws w ps ≤ ws u ps
  | [], _ => Int.le_refl _
  | p :: l, h => by
    unfold ws
    have h1 := ws_le l (fun q hq => h q (by simp [hq]))
    have h2 := Int.mul_le_mul_of_nonneg_right (h p (by simp)).2 (h p (by simp)).1
    omega
theorem ws_pos (q : S45 → Bool) : ∀ (ps : List (S45 × Int)), (∀ p ∈ ps, 0 < p.2) → 0 ≤ ws (ind q) ps ∧ (ws (ind q) ps = 0 → ∀ p ∈ ps, q p.1 = false)
  | [], _ => ⟨Int.le_refl _, fun _ p hp => by cases hp⟩
  | p :: l, h => by
    obtain ⟨h1, h2⟩ := ws_pos q l (fun x hx => h x (by simp [hx]))
    have h3 := h p (by simp)
    unfold ws ind
    unfold ind at h1 h2
    by_cases c : q p.1 = true
    · rw [if_pos c, Int.one_mul]
      exact ⟨by omega, fun hh => by omega⟩
    · rw [if_neg c, Int.zero_mul, Int.zero_add]
      refine ⟨h1, fun hh x hx => ?_⟩
      cases List.mem_cons.1 hx with
      | inl e => rw [e]; simpa using c
      | inr e => exact h2 hh x e

/-! ### the pieces of a span -/
theorem pz_pos (te : Int) : ∀ (l : List S57) (v : S45) (a : Int), a < te → ∀ p ∈ pz te v a l, 0 < p.2
  | [], v, a, h, p, hp => by simp [pz] at hp; subst hp; dsimp only; omega
  | x :: l, v, a, h, p, hp => by
    unfold pz at hp
    by_cases c1 : x.f0 ≥ te
    · rw [if_pos c1] at hp; simp at hp; subst hp; dsimp only; omega
    · rw [if_neg c1] at hp
      by_cases c2 : x.f0 > a
      · rw [if_pos c2] at hp
        cases List.mem_cons.1 hp with
        | inl e => subst e; dsimp only; omega
        | inr e => exact pz_pos te l x.f1 x.f0 (by omega) p e
      · rw [if_neg c2] at hp
        exact pz_pos te l x.f1 a h p hp
theorem pz_val (te : Int) (q : S45 → Prop) : ∀ (l : List S57) (v : S45) (a : Int), q v → (∀ x ∈ l, q x.f1) → ∀ p ∈ pz te v a l, q p.1
  | [], v, a, h, _, p, hp => by simp [pz] at hp; subst hp; exact h
  | x :: l, v, a, h, hl, p, hp => by
    have h1 := hl x (by simp)
    have h2 : ∀ x ∈ l, q x.f1 := fun y hy => hl y (by simp [hy])
    unfold pz at hp
    by_cases c1 : x.f0 ≥ te
    · rw [if_pos c1] at hp; simp at hp; subst hp; exact h
    · rw [if_neg c1] at hp
      by_cases c2 : x.f0 > a
      · rw [if_pos c2] at hp
        cases List.mem_cons.1 hp with
        | inl e => subst e; exact h
        | inr e => exact pz_val te q l x.f1 x.f0 h1 h2 p e
      · rw [if_neg c2] at hp
        exact pz_val te q l x.f1 a h1 h2 p hp
theorem pz_all (te : Int) : ∀ (l : List S57) (v : S45) (a : Int), ws (fun _ => 1) (pz te v a l) = te - a
  | [], v, a => by simp [pz, ws]
  | x :: l, v, a => by
    unfold pz
    by_cases c1 : x.f0 ≥ te
    · rw [if_pos c1]; simp [ws]
    · rw [if_neg c1]
      by_cases c2 : x.f0 > a
      · rw [if_pos c2]; unfold ws; rw [pz_all te l x.f1 x.f0]; dsimp only; omega
      · rw [if_neg c2, pz_all te l x.f1 a]
theorem pz_split (w : S45 → Int) (m te : Int) (hm : m < te) : ∀ (l : List S57) (v : S45) (a : Int), a ≤ m → ws w (pz m v a l) + ws w (pz te v m l) = ws w (pz te v a l)
  | [], v, a, h => by
    simp only [pz, ws]
    rw [Int.add_zero, Int.add_zero, Int.add_zero, ← Int.mul_add]; congr 1; omega
  | x :: l, v, a, h => by
    unfold pz
    by_cases c1 : x.f0 ≥ te
    · rw [if_pos c1, if_pos c1, if_pos (show x.f0 ≥ m by omega)]
      simp only [ws]
      rw [Int.add_zero, Int.add_zero, Int.add_zero, ← Int.mul_add]; congr 1; omega
    · rw [if_neg c1, if_neg c1]
      by_cases c2 : x.f0 ≥ m
      · rw [if_pos c2]
        by_cases c3 : x.f0 > m
        · rw [if_pos c3, if_pos (show x.f0 > a by omega)]
          simp only [ws]
          rw [Int.add_zero, ← Int.add_assoc, ← Int.mul_add, show m - a + (x.f0 - m) = x.f0 - a by omega]
        · have e : x.f0 = m := by omega
          rw [if_neg c3]
          by_cases c4 : x.f0 > a
          · rw [if_pos c4, e]; simp only [ws]; rw [Int.add_zero]
          · have e' : a = m := by omega
            rw [if_neg c4, e']; simp only [ws]; rw [Int.sub_self, Int.mul_zero, Int.zero_add, Int.zero_add]
      · rw [if_neg c2, if_neg (show ¬ x.f0 > m by omega)]
        by_cases c4 : x.f0 > a
        · rw [if_pos c4, if_pos c4]
          simp only [ws]
          have := pz_split w m te hm l x.f1 x.f0 (by omega)
          omega
        · rw [if_neg c4, if_neg c4]
          exact pz_split w m te hm l x.f1 a h

/-! ### the numbers of a span -/
theorem okv_b {v : S45} (h : okV v = true) : -1000000000000 * ind isA v ≤ wA v ∧ wA v ≤ 1000000000000 * ind isA v := by
  unfold okV at h
  unfold ind isA wA
  have h := of_decide_eq_true h
  by_cases c : v.f0 = 1
  · rw [if_pos c, if_pos (by simp [c])]; omega
  · rw [if_neg c, if_neg (by simp [c])]; omega
theorem val_ok {l : List S57} (h : valS l = true) {te a : Int} : ∀ p ∈ pz te ⟨0, 0⟩ a l, okV p.1 = true :=
  pz_val te (fun v => okV v = true) l ⟨0, 0⟩ a (by decide) (by simpa [valS] using h)
/-- The sum and the number of the analog instants of a span, exact. -/
structure Span (l : List S57) (a b s n : Int) : Prop where
  eq : sumOf (P l a b) = (s, n)
  s_ : s = ws wA (pz b ⟨0, 0⟩ a l)
  n_ : n = ws (ind isA) (pz b ⟨0, 0⟩ a l)
  n0 : 0 ≤ n
  n1 : n ≤ 8640000
  lo : -1000000000000 * n ≤ s
  hi : s ≤ 1000000000000 * n
theorem ind_le (q : S45 → Bool) (v : S45) : 0 ≤ ind q v ∧ ind q v ≤ 1 := by unfold ind; split <;> omega
theorem ind_b (q : S45 → Bool) (te : Int) (l : List S57) (v : S45) (a : Int) (h : a < te) : 0 ≤ ws (ind q) (pz te v a l) ∧ ws (ind q) (pz te v a l) ≤ te - a := by
  have h1 := pz_pos te l v a h
  refine ⟨(ws_pos q _ h1).1, ?_⟩
  have := ws_le (w := ind q) (u := fun _ => 1) (pz te v a l) (fun p hp => ⟨by have := h1 p hp; omega, (ind_le q p.1).2⟩)
  rw [pz_all] at this
  exact this
theorem span_of {l : List S57} (hv : valS l = true) {a b : Int} (h0 : 0 ≤ a) (hab : a < b) (hb : b ≤ 6311433600) (hs : b - a ≤ 8640000) : ∃ s n, Span l a b s n := by
  refine ⟨ws wA (pz b ⟨0, 0⟩ a l), ws (ind isA) (pz b ⟨0, 0⟩ a l), ?_⟩
  obtain ⟨b0, b1⟩ := ind_b isA b l ⟨0, 0⟩ a hab
  have hp := pz_pos b l ⟨0, 0⟩ a hab
  have h1 : ws (fun v => -1000000000000 * ind isA v) (pz b ⟨0, 0⟩ a l) ≤ ws wA (pz b ⟨0, 0⟩ a l) := ws_le _ (fun p h => ⟨by have := hp p h; omega, (okv_b (val_ok hv p h)).1⟩)
  have h2 : ws wA (pz b ⟨0, 0⟩ a l) ≤ ws (fun v => 1000000000000 * ind isA v) (pz b ⟨0, 0⟩ a l) := ws_le _ (fun p h => ⟨by have := hp p h; omega, (okv_b (val_ok hv p h)).2⟩)
  rw [ws_mul] at h1 h2
  refine ⟨?_, rfl, rfl, b0, by omega, h1, h2⟩
  rw [P_pz l h0 hab hb, sum_ws, w64s (by omega) (by omega), w64s (by omega) (by omega)]
theorem ex_fold : ∀ (ps : List (S45 × Int)) (s : Int × Int × Bool), (s.2.2 = true → (ps.foldl exStep s).2.2 = true ∧ (ps.foldl exStep s).1 ≤ s.1 ∧ s.2.1 ≤ (ps.foldl exStep s).2.1) ∧
    (∀ p ∈ ps, isA p.1 = true → (ps.foldl exStep s).2.2 = true ∧ (ps.foldl exStep s).1 ≤ p.1.f1 ∧ p.1.f1 ≤ (ps.foldl exStep s).2.1) ∧ ((ps.foldl exStep s).2.2 = true → s.2.2 = true ∨ ∃ p ∈ ps, isA p.1 = true)
  | [], s => ⟨fun h => ⟨h, Int.le_refl _, Int.le_refl _⟩, fun p hp => (by cases hp), fun h => .inl h⟩
  | p :: l, s => by
    rw [List.foldl_cons]
    obtain ⟨i1, i2, i3⟩ := ex_fold l (exStep s p)
    by_cases c : p.1.f0 = 1
    · have hA : isA p.1 = true := by unfold isA; simp [c]
      have e : exStep s p = if s.2.2 = true then (mn s.1 p.1.f1, mx s.2.1 p.1.f1, true) else (p.1.f1, p.1.f1, true) := if_pos c
      have hE : (exStep s p).2.2 = true ∧ (exStep s p).1 ≤ p.1.f1 ∧ p.1.f1 ≤ (exStep s p).2.1 ∧ (s.2.2 = true → (exStep s p).1 ≤ s.1 ∧ s.2.1 ≤ (exStep s p).2.1) := by
        rw [e]
        obtain ⟨m1, m2, _⟩ := mx_ge s.2.1 p.1.f1
        obtain ⟨m3, m4, _⟩ := mn_le s.1 p.1.f1
        by_cases d : s.2.2 = true
        · rw [if_pos d]; exact ⟨rfl, m4, m2, fun _ => ⟨m3, m1⟩⟩
        · rw [if_neg d]; exact ⟨rfl, Int.le_refl _, Int.le_refl _, fun hh => absurd hh d⟩
      obtain ⟨g1, g2, g3, g4⟩ := hE
      obtain ⟨j1, j2, j3⟩ := i1 g1
      refine ⟨fun hs => ⟨j1, Int.le_trans j2 (g4 hs).1, Int.le_trans (g4 hs).2 j3⟩, fun q hq hqA => ?_, fun _ => .inr ⟨p, by simp, hA⟩⟩
      cases List.mem_cons.1 hq with
      | inl e' => rw [e']; exact ⟨j1, Int.le_trans j2 g2, Int.le_trans g3 j3⟩
      | inr e' => exact i2 q e' hqA
    · have e : exStep s p = s := if_neg c
      rw [e] at i1 i2 i3 ⊢
      refine ⟨i1, fun q hq hqA => ?_, fun h => ?_⟩
      · cases List.mem_cons.1 hq with
        | inl e' => rw [e'] at hqA; unfold isA at hqA; simp [c] at hqA
        | inr e' => exact i2 q e' hqA
      · cases i3 h with
        | inl h => exact .inl h
        | inr h => obtain ⟨q, h1, h2⟩ := h; exact .inr ⟨q, by simp [h1], h2⟩
/-- The extremes: there are some exactly if there is an analog instant; the sum lies between. -/
theorem ex_span {l : List S57} {a b s n : Int} (h : Span l a b s n) (h0 : 0 ≤ a) (hab : a < b) (hb : b ≤ 6311433600) : (n = 0 → (exOf (P l a b)).2.2 = false) ∧ (n ≠ 0 → (exOf (P l a b)).2.2 = true ∧ (exOf (P l a b)).1 * n ≤ s ∧ s ≤ (exOf (P l a b)).2.1 * n) := by
  rw [P_pz l h0 hab hb]
  have hp := pz_pos b l ⟨0, 0⟩ a hab
  obtain ⟨i1, i2, i3⟩ := ex_fold (pz b ⟨0, 0⟩ a l) (0, 0, false)
  have hE : exOf (pz b ⟨0, 0⟩ a l) = (pz b ⟨0, 0⟩ a l).foldl exStep (0, 0, false) := rfl
  rw [← hE] at i1 i2 i3
  obtain ⟨p1, p2⟩ := ws_pos isA _ hp
  constructor
  · intro hn
    have p2 := p2 (by rw [← h.n_]; exact hn)
    cases hh : (exOf (pz b ⟨0, 0⟩ a l)).2.2 with
    | false => rfl
    | true =>
      cases i3 hh with
      | inl e => cases e
      | inr e => obtain ⟨q, q1, q2⟩ := e; rw [p2 q q1] at q2; cases q2
  · intro hn
    have hex : ∃ p ∈ pz b ⟨0, 0⟩ a l, isA p.1 = true := by
      refine Classical.byContradiction fun hno => hn ?_
      rw [h.n_, ws_congr (u := fun _ => 0 * 0) _ (fun p hp' => ?_), ws_mul 0 (fun _ => 0)]
      · omega
      · unfold ind
        rw [if_neg (fun hA => hno ⟨p, hp', hA⟩)]; rfl
    obtain ⟨q, q1, q2⟩ := hex
    refine ⟨(i2 q q1 q2).1, ?_, ?_⟩
    · rw [h.n_, h.s_, ← ws_mul]
      refine ws_le _ (fun p hp' => ⟨by have := hp p hp'; omega, ?_⟩)
      unfold ind wA
      by_cases c : isA p.1 = true
      · rw [if_pos c, if_pos (by simpa [isA] using c), Int.mul_one]; exact (i2 p hp' c).2.1
      · rw [if_neg c, if_neg (by simpa [isA] using c)]; omega
    · rw [h.n_, h.s_, ← ws_mul]
      refine ws_le _ (fun p hp' => ⟨by have := hp p hp'; omega, ?_⟩)
      unfold ind wA
      by_cases c : isA p.1 = true
      · rw [if_pos c, if_pos (by simpa [isA] using c), Int.mul_one]; exact (i2 p hp' c).2.2
      · rw [if_neg c, if_neg (by simpa [isA] using c)]; omega

/-! ### division -/
theorem dvd_eq {s n : Int} (hn : 0 < n) (hn1 : n ≤ 8640000) (hs : -9000000000000000000 ≤ s) (hs1 : s ≤ 9000000000000000000) : dvd s n = if Int.tmod s n ≥ n - Int.tmod s n then Int.tdiv s n + 1 else if - Int.tmod s n ≥ n + Int.tmod s n then Int.tdiv s n - 1 else Int.tdiv s n := by
  have h1 := Int.tmod_lt_of_pos s hn
  have h2 : -n < Int.tmod s n := by
    have := Int.lt_tmod_of_pos s hn
    omega
  have h3 : -9000000000000000000 ≤ Int.tdiv s n ∧ Int.tdiv s n ≤ 9000000000000000000 := by
    have e := Int.mul_tdiv_add_tmod s n
    have := Int.natAbs_tdiv_le_natAbs s n
    omega
  unfold dvd
  rw [w64s (x := n - Int.tmod s n) (by omega) (by omega), w64s (x := Int.tdiv s n) (by omega) (by omega), w64s (x := Int.tdiv s n + 1) (by omega) (by omega), w64s (x := -(Int.tmod s n)) (by omega) (by omega), w64s (x := n + Int.tmod s n) (by omega) (by omega), w64s (x := Int.tdiv s n - 1) (by omega) (by omega)]
theorem dvd_near {s n : Int} (hn : 0 < n) (hn1 : n ≤ 8640000) (hs : -9000000000000000000 ≤ s) (hs1 : s ≤ 9000000000000000000) : -n ≤ 2 * (s - n * dvd s n) ∧ 2 * (s - n * dvd s n) ≤ n ∧ -1 ≤ dvd s n - Int.tdiv s n ∧ dvd s n - Int.tdiv s n ≤ 1 := by
  have h1 := Int.tmod_lt_of_pos s hn
  have h2 : -n < Int.tmod s n := by
    have := Int.lt_tmod_of_pos s hn
    omega
  have e := Int.mul_tdiv_add_tmod s n
  rw [dvd_eq hn hn1 hs hs1]
  split
  · rw [show n * (Int.tdiv s n + 1) = n * Int.tdiv s n + n by rw [Int.mul_add, Int.mul_one]]; refine ⟨?_, ?_, ?_, ?_⟩ <;> omega
  · split
    · rw [show n * (Int.tdiv s n - 1) = n * Int.tdiv s n - n by rw [Int.mul_sub, Int.mul_one]]; refine ⟨?_, ?_, ?_, ?_⟩ <;> omega
    · refine ⟨?_, ?_, ?_, ?_⟩ <;> omega
theorem dvd_ge {s n lo : Int} (hn : 0 < n) (hn1 : n ≤ 8640000) (hs : -9000000000000000000 ≤ s) (hs1 : s ≤ 9000000000000000000) (h : lo * n ≤ s) : lo ≤ dvd s n := by
  obtain ⟨_, h2, _, _⟩ := dvd_near hn hn1 hs hs1
  refine Int.not_lt.1 (fun hc => ?_)
  have : n * (dvd s n + 1) ≤ n * lo := Int.mul_le_mul_of_nonneg_left (by omega) (by omega)
  rw [Int.mul_add, Int.mul_one, Int.mul_comm n lo] at this
  omega
theorem dvd_le {s n hi : Int} (hn : 0 < n) (hn1 : n ≤ 8640000) (hs : -9000000000000000000 ≤ s) (hs1 : s ≤ 9000000000000000000) (h : s ≤ hi * n) : dvd s n ≤ hi := by
  obtain ⟨h2, _, _, _⟩ := dvd_near hn hn1 hs hs1
  refine Int.not_lt.1 (fun hc => ?_)
  have : n * (hi + 1) ≤ n * dvd s n := Int.mul_le_mul_of_nonneg_left (by omega) (by omega)
  rw [Int.mul_add, Int.mul_one, Int.mul_comm n hi] at this
  omega
end Go.Proofs.Ytnfcbhoaebcndaa.Pure
