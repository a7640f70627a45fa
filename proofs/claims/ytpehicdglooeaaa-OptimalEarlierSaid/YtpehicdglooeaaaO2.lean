-- optimal: the reference's curve, Reach, Curve, Start in plain words.
import Derived.Test.YtpehicdglooeaaaO
import Derived.Test.YtpehicdglooeaaaCurve
import Derived.Test.YtpehicdglooeaaaPTx34
import Derived.Test.YtpehicdglooeaaaPTx22
import Derived.Test.YtpehicdglooeaaaPTx14
import Derived.Test.YtpehicdglooeaaaPTx15
namespace Go.Proofs.Ytpehicdglooeaaa.M
open Go.RowKit Go.Proofs.Ytpehicdglooeaaa.PT Go.Proofs.YtpehicdglooeaaaW.PrintWords Go.Proofs.YtpehicdglooeaaaW.PrintLast Go.Proofs.YtpehicdglooeaaaW.PrintMore
set_option linter.unusedVariables false
set_option linter.unusedSimpArgs false

theorem rc_loop {z0 z1 t0 t1 t2 t3 on : Int} (t4 : Bool) (hz : Zok z0 z1) (out : List Int) (hl : out.length ≤ 100) (h2 : 0 ≤ t2) (h2' : t3 ≤ 6311433599) (h3 : (out.length : Int) = t3 - t2) (ho : ∀ x ∈ out, Tok x) : ∀ (B A C : List Int) (t : Int), A ++ B = out → C.length = A.length → Tok t →
    Ev (fun k => plenumref36_Curve.l0 k out on (C ++ [t]) (t2 + A.length) z0 z1 t0 t1 t2 t3 t4) (C ++ cl z0 z1 (cvHeat t4) on (t2 + A.length) t B)
  | [], A, C, t, h, hC, ht => by
    have hA : A = out := by simpa using h
    subst hA
    refine evu ?_
    simp only [plenumref36_Curve.l0]
    exact evn (by omega) (Ev.now _)
  | x :: B, A, C, t, h, hC, ht => by
    have hlen : out.length = A.length + 1 + B.length := by rw [← h]; simp; omega
    have hx : rd out (A.length : Int) = x := by rw [← h]; exact rd_app A x B
    have hxo : Tok x := ho x (by rw [← h]; simp)
    have ih := rc_loop (t0 := t0) (t1 := t1) (on := on) t4 hz out hl h2 h2' h3 ho B (A ++ [x]) (C ++ [t]) (nx z0 z1 x (if t2 + A.length ≥ on then cvHeat t4 else 0) 60 t) (by rw [← h]; simp) (by simp [hC]) (nx_Tok _ _ _ _ _ _)
    have e2 : t2 + ((A ++ [x]).length : Int) = t2 + A.length + 1 := by simp; omega
    rw [e2] at ih
    have eL : ((C ++ [t]).length : Int) = C.length + 1 := by simp
    have eR : rd (C ++ [t]) (C.length : Int) = t := rd_app C t []
    have eW : wrap64 (((C ++ [t]).length : Int) - 1) = C.length := by rw [eL, w64 (by omega) (by omega)]; omega
    have eX : wrap64 (t2 + (A.length : Int) - t2) = A.length := by rw [w64 (by omega) (by omega)]; omega
    have eM : wrap64 (t2 + (A.length : Int) + 1) = t2 + A.length + 1 := w64 (by omega) (by omega)
    have eC : C ++ cl z0 z1 (cvHeat t4) on (t2 + A.length) t (x :: B) = C ++ [t] ++ cl z0 z1 (cvHeat t4) on (t2 + A.length + 1) (nx z0 z1 x (if t2 + A.length ≥ on then cvHeat t4 else 0) 60 t) B := by simp [cl]
    rw [eC]
    have blk : ∀ hh : Int, hh = (if t2 + (A.length : Int) ≥ on then cvHeat t4 else 0) → Ev (fun k => if 0 ≤ (wrap64 (((C ++ [t]).length : Int) - 1)) then (if (wrap64 (((C ++ [t]).length : Int) - 1)) < ((C ++ [t]).length : Int) then (if 0 ≤ (wrap64 (t2 + (A.length : Int) - t2)) then (if (wrap64 (t2 + (A.length : Int) - t2)) < (out.length : Int) then ((plenumref35_Next.f z0 z1 (rd (C ++ [t]) (wrap64 (((C ++ [t]).length : Int) - 1))) (rd out (wrap64 (t2 + (A.length : Int) - t2))) hh 60).bind fun t261 => (if (C ++ [t]).length < 17592186044416 then (plenumref36_Curve.l0 k out on ((C ++ [t]) ++ [t261]) (wrap64 (t2 + (A.length : Int) + 1)) z0 z1 t0 t1 t2 t3 t4) else (none))) else (none)) else (none)) else (none)) else (none)) (C ++ [t] ++ cl z0 z1 (cvHeat t4) on (t2 + A.length + 1) (nx z0 z1 x (if t2 + A.length ≥ on then cvHeat t4 else 0) 60 t) B) := fun hh e => by
      rw [eW, eX, eR, hx, eM, next_f hz hxo (by rw [e]; exact hok t4 _ _) ⟨by omega, by omega⟩ ht, e]
      refine evp (by omega) (evp (by rw [eL]; omega) (evp (by omega) (evp (by omega) ?_)))
      simp only [Option.bind_some]
      exact evp (by simp; omega) ih
    refine evu ?_
    simp only [plenumref36_Curve.l0]
    refine evp (by omega) ?_
    by_cases c1 : t2 + (A.length : Int) ≥ on
    · refine evp c1 ?_
      by_cases c2 : t4 = true
      · exact evp c2 (blk _ (by rw [if_pos c1, c2]; rfl))
      · exact evn c2 (blk _ (by rw [if_pos c1]; simp [cvHeat, c2]))
    · refine evn c1 ?_
      by_cases c2 : t4 = true
      · exact evp c2 (blk _ (by rw [if_neg c1]; rfl))
      · exact evn c2 (blk _ (by rw [if_neg c1]))
theorem rcurve_ev {z0 z1 t0 t1 t2 t3 on : Int} (t4 : Bool) {out : List Int} (hl : out.length ≤ 100) (T : Tsk z0 z1 t0 t1 t2 t3 out) : Ev (fun k => plenumref36_Curve.f k z0 z1 t0 t1 t2 t3 t4 out on) (cl z0 z1 (cvHeat t4) on t2 t0 out) := by
  have := rc_loop (t0 := t0) (t1 := t1) (on := on) t4 T.z out hl T.k.1 T.k.2.2.1 T.k.2.2.2.2 T.o out [] [] t0 rfl rfl T.a
  simp only [List.length_nil, Int.natCast_zero, Int.add_zero, List.nil_append] at this
  exact Ev.congr (fun k => rfl) this
theorem same_loop (L : List Int) (hl : L.length ≤ 200) : ∀ (B A : List Int), A ++ B = L → Ev (fun k => plenumref36_Same.l0 k L L (A.length : Int)) true
  | [], A, h => by
    have hA : A = L := by simpa using h
    subst hA
    refine evu ?_
    simp only [plenumref36_Same.l0]
    exact evn (by omega) (Ev.now _)
  | x :: B, A, h => by
    have hlen : L.length = A.length + 1 + B.length := by rw [← h]; simp; omega
    have ih := same_loop L hl B (A ++ [x]) (by rw [← h]; simp)
    have e2 : ((A ++ [x]).length : Int) = (A.length : Int) + 1 := by simp
    rw [e2] at ih
    refine evu ?_
    simp only [plenumref36_Same.l0]
    rw [w64 (x := (A.length : Int) + 1) (by omega) (by omega)]
    exact evp (by omega) (evp (by omega) (evp (by omega) (evp (by simp) ih)))
theorem same_ev (L : List Int) (hl : L.length ≤ 200) : Ev (fun k => plenumref36_Same.f k L L) true := by
  unfold plenumref36_Same.f
  exact evp rfl (same_loop L hl L [] rfl)

/-- The last temperature of a curve. -/
def lc (z0 z1 H on : Int) : Int → Int → List Int → Int
  | m, t, [] => t
  | m, t, o :: os => lc z0 z1 H on (m + 1) (nx z0 z1 o (if m ≥ on then H else 0) 60 t) os
theorem lastOf_cons (a b : Int) (l : List Int) : lastOf a (b :: l) = lastOf b l := rfl
theorem lastOf_cl (z0 z1 H on : Int) : ∀ (os : List Int) (m t a : Int), lastOf a (cl z0 z1 H on m t os) = lc z0 z1 H on m t os
  | [], _, _, _ => rfl
  | o :: os, m, t, a => by
    unfold cl lc
    rw [lastOf_cons, lastOf_cl z0 z1 H on os]
theorem lastOf_rd : ∀ (l : List Int) (a : Int), l ≠ [] → lastOf a l = rd l ((l.length : Int) - 1)
  | [], _, h => absurd rfl h
  | [x], a, _ => by simp [lastOf, rd]
  | x :: y :: l, a, _ => by
    rw [lastOf_cons, lastOf_rd (y :: l) x (by simp)]
    simp only [List.length_cons]
    have e1 : (((l.length + 1 : Nat) : Int) - 1).toNat = l.length := by omega
    have e2 : (((l.length + 1 + 1 : Nat) : Int) - 1).toNat = l.length + 1 := by omega
    unfold rd
    rw [e1, e2]
    simp
theorem reach_ev {z0 z1 t0 t1 t2 t3 on : Int} (t4 : Bool) {out : List Int} (hl : out.length ≤ 100) (T : Tsk z0 z1 t0 t1 t2 t3 out) : Ev (fun k => optimal_reach.f k z0 z1 t0 t1 t2 t3 t4 out on) (lc z0 z1 (cvHeat t4) on t2 t0 out) := by
  have hk := T.k
  unfold tskB at hk
  unfold optimal_reach.f
  refine evp ⟨by omega, by omega, by omega⟩ (Ev.bind (cv_ev t4 T) ?_)
  rw [lastOf_cl]
  exact Ev.now _
/-- What Curve and Reach return. -/
theorem Curve_ev {z0 z1 t0 t1 t2 t3 on : Int} (t4 : Bool) {out : List Int} (hl : out.length ≤ 100) (b2 : -9223372036854775808 ≤ t2) (b3 : t3 ≤ 9223372036854775807) : Ev (fun k => optimal_Curve.f k z0 z1 t0 t1 t2 t3 t4 out on) (if tE z0 z1 t0 t1 t2 t3 out = 0 then (if on < t2 ∨ on > t3 then ([], 1) else (cl z0 z1 (cvHeat t4) on t2 t0 out, 0)) else ([], tE z0 z1 t0 t1 t2 t3 out)) := by
  unfold optimal_Curve.f
  refine evp ⟨b2, b3, by omega⟩ (Ev.bind (check_ev t4 hl) ?_)
  by_cases h : tE z0 z1 t0 t1 t2 t3 out = 0
  · rw [if_pos h]
    refine evp h ?_
    by_cases c : on < t2 ∨ on > t3
    · rw [if_pos c]
      exact evp c (Ev.now _)
    · rw [if_neg c]
      refine evn c (Ev.bind (cv_ev t4 (tE_zero h)) ?_)
      exact evp (by rw [cl_length]; omega) (Ev.now _)
  · rw [if_neg h]
    exact evn h (Ev.now _)
theorem Reach_ev {z0 z1 t0 t1 t2 t3 on : Int} (t4 : Bool) {out : List Int} (hl : out.length ≤ 100) : Ev (fun k => optimal_Reach.f k z0 z1 t0 t1 t2 t3 t4 out on) (if tE z0 z1 t0 t1 t2 t3 out = 0 then (if on < t2 ∨ on > t3 then (0, 1) else (lc z0 z1 (cvHeat t4) on t2 t0 out, 0)) else (0, tE z0 z1 t0 t1 t2 t3 out)) := by
  unfold optimal_Reach.f
  refine Ev.bind (check_ev t4 hl) ?_
  by_cases h : tE z0 z1 t0 t1 t2 t3 out = 0
  · rw [if_pos h]
    refine evp h ?_
    by_cases c1 : on < t2
    · rw [if_pos (.inl c1)]
      exact evp c1 (Ev.now _)
    · refine evn c1 ?_
      by_cases c2 : on > t3
      · rw [if_pos (.inr c2)]
        exact evp c2 (Ev.now _)
      · rw [if_neg (by omega)]
        exact evn c2 (Ev.bind (reach_ev t4 hl (tE_zero h)) (Ev.now _))
  · rw [if_neg h]
    exact evn h (Ev.now _)

/-! ### the earlier the further -/
theorem lc_mono {z0 z1 H on on' : Int} (hz : Zok z0 z1) (hh : ∀ m : Int, (if m ≥ on then H else 0) ≤ (if m ≥ on' then H else 0)) : ∀ (os : List Int) (m t u : Int), t ≤ u → lc z0 z1 H on m t os ≤ lc z0 z1 H on' m u os
  | [], m, t, u, h => h
  | o :: os, m, t, u, h => by
    unfold lc
    exact lc_mono hz hh os (m + 1) _ _ (nx_mono hz ⟨by omega, by omega⟩ h (Int.le_refl _) (hh m))
theorem cl_mono {z0 z1 H on on' : Int} (hz : Zok z0 z1) (hh : ∀ m : Int, (if m ≥ on then H else 0) ≤ (if m ≥ on' then H else 0)) : ∀ (os : List Int) (m t u : Int) (i : Nat), t ≤ u → (cl z0 z1 H on m t os).getD i 0 ≤ (cl z0 z1 H on' m u os).getD i 0
  | [], m, t, u, 0, h => h
  | [], m, t, u, i + 1, h => Int.le_refl _
  | o :: os, m, t, u, 0, h => h
  | o :: os, m, t, u, i + 1, h => by
    unfold cl
    exact cl_mono hz hh os (m + 1) _ _ i (nx_mono hz ⟨by omega, by omega⟩ h (Int.le_refl _) (hh m))
/-- Beyond, as the task has it. -/
def bey (t4 : Bool) (x y : Int) : Bool := if t4 = true then decide (x ≤ y) else decide (x ≥ y)
theorem reached_f (t0 t1 t2 t3 : Int) (t4 : Bool) (x y : Int) : plenumref36_Reached.f t0 t1 t2 t3 t4 x y = some (bey t4 x y) := by
  unfold plenumref36_Reached.f bey; split <;> rfl
theorem enough_f (t0 t1 t2 t3 : Int) (t4 : Bool) (x y : Int) : optimal_Task_enough.f t0 t1 t2 t3 t4 x y = some (bey t4 x y) := by
  unfold optimal_Task_enough.f bey; split <;> rfl
theorem heat_le {on on' : Int} (h : on ≤ on') (m : Int) : (if m ≥ on' then (1000 : Int) else 0) ≤ (if m ≥ on then 1000 else 0) := by
  split <;> split <;> omega
theorem cool_le {on on' : Int} (h : on ≤ on') (m : Int) : (if m ≥ on then (-1000 : Int) else 0) ≤ (if m ≥ on' then -1000 else 0) := by
  split <;> split <;> omega
theorem bey_trans {t4 : Bool} {x y z : Int} (h : bey t4 x y = true) (k : bey t4 y z = true) : bey t4 x z = true := by
  cases t4
  · simp [bey] at *; omega
  · simp [bey] at *; omega
theorem lc_bey {z0 z1 : Int} (hz : Zok z0 z1) (t4 : Bool) {on on' : Int} (h : on ≤ on') (os : List Int) (m t : Int) : bey t4 (lc z0 z1 (cvHeat t4) on m t os) (lc z0 z1 (cvHeat t4) on' m t os) = true := by
  cases t4
  · simp only [bey, Bool.false_eq_true, if_false, decide_eq_true_eq]
    exact lc_mono hz (heat_le h) os m t t (Int.le_refl _)
  · simp only [bey, if_true, decide_eq_true_eq]
    exact lc_mono hz (cool_le h) os m t t (Int.le_refl _)
theorem cl_bey {z0 z1 : Int} (hz : Zok z0 z1) (t4 : Bool) {on on' : Int} (h : on ≤ on') (os : List Int) (m t : Int) (i : Nat) : bey t4 ((cl z0 z1 (cvHeat t4) on m t os).getD i 0) ((cl z0 z1 (cvHeat t4) on' m t os).getD i 0) = true := by
  cases t4
  · simp only [bey, Bool.false_eq_true, if_false, decide_eq_true_eq]
    exact cl_mono hz (heat_le h) os m t t i (Int.le_refl _)
  · simp only [bey, if_true, decide_eq_true_eq]
    exact cl_mono hz (cool_le h) os m t t i (Int.le_refl _)

/-! ### Start -/
def qS (z0 z1 t0 t1 t2 : Int) (t4 : Bool) (out : List Int) (n : Int) : Bool := bey t4 (lc z0 z1 (cvHeat t4) (t2 + n) t2 t0 out) t1
theorem qS_mono {z0 z1 t0 t1 t2 : Int} (t4 : Bool) {out : List Int} (hz : Zok z0 z1) {n n' : Int} (h : n ≤ n') (hq : qS z0 z1 t0 t1 t2 t4 out n' = true) : qS z0 z1 t0 t1 t2 t4 out n = true :=
  bey_trans (lc_bey hz t4 (by omega) out t2 t0) hq
theorem start1_ev {z0 z1 t0 t1 t2 t3 : Int} (t4 : Bool) {out : List Int} (hl : out.length ≤ 100) (T : Tsk z0 z1 t0 t1 t2 t3 out) {n : Int} (h0 : 0 ≤ n) (h1 : n ≤ 10000) : Ev (fun k => optimal_Start_1.f k n t0 t1 t2 t3 t4 z0 z1 out) (!qS z0 z1 t0 t1 t2 t4 out n) := by
  have hk := T.k
  unfold tskB at hk
  unfold optimal_Start_1.f
  rw [w64 (x := t2 + n) (by omega) (by omega)]
  refine Ev.bind (reach_ev t4 hl T) ?_
  rw [enough_f]
  exact Ev.now _
theorem search_ev {z0 z1 t0 t1 t2 t3 : Int} (t4 : Bool) {out : List Int} (hl : out.length ≤ 100) (T : Tsk z0 z1 t0 t1 t2 t3 out) (N : Int) : ∀ (d : Nat) (i j : Int), (j - i).toNat ≤ d → 0 ≤ i → i ≤ j → j ≤ N → N ≤ 5000 →
    (∀ n, 0 ≤ n → n < i → qS z0 z1 t0 t1 t2 t4 out n = true) → (∀ n, j ≤ n → n < N → qS z0 z1 t0 t1 t2 t4 out n = false) →
    ∃ r, 0 ≤ r ∧ r ≤ N ∧ (∀ n, 0 ≤ n → n < r → qS z0 z1 t0 t1 t2 t4 out n = true) ∧ (∀ n, r ≤ n → n < N → qS z0 z1 t0 t1 t2 t4 out n = false) ∧ Ev (fun k => sort_Search_26.l0 k i j t0 t1 t2 t3 t4 z0 z1 out) r
  | d, i, j, hd, h0, hij, hjN, hN, hlo, hhi => by
    by_cases c : i < j
    · cases d with
      | zero => omega
      | succ d =>
        have eh : wrap64 ((IntKind.u64.wrap (wrap64 (i + j))) / 2) = (i + j) / 2 := by
          rw [w64 (x := i + j) (by omega) (by omega), IntKind.wrap_u64, w64 (by omega) (by omega)]
          congr 1; omega
        have e1 : wrap64 ((i + j) / 2 + 1) = (i + j) / 2 + 1 := w64 (by omega) (by omega)
        have hs := start1_ev (t1 := t1) t4 hl T (n := (i + j) / 2) (by omega) (by omega)
        cases hq : qS z0 z1 t0 t1 t2 t4 out ((i + j) / 2) with
        | true =>
          obtain ⟨r, r0, r1, r2, r3, r4⟩ := search_ev t4 hl T N d ((i + j) / 2 + 1) j (by omega) (by omega) (by omega) hjN hN (fun n n0 n1 => qS_mono t4 T.z (show n ≤ (i + j) / 2 by omega) hq) hhi
          refine ⟨r, r0, r1, r2, r3, evu ?_⟩
          rw [hq] at hs
          simp only [sort_Search_26.l0]
          refine evp c ?_
          rw [eh]
          refine Ev.bind hs ?_
          rw [e1]
          exact evn (by simp) r4
        | false =>
          obtain ⟨r, r0, r1, r2, r3, r4⟩ := search_ev t4 hl T N d i ((i + j) / 2) (by omega) (by omega) (by omega) (by omega) hN hlo (fun n n0 n1 => by
            cases hq' : qS z0 z1 t0 t1 t2 t4 out n with
            | false => rfl
            | true => rw [qS_mono t4 T.z n0 hq'] at hq; cases hq)
          refine ⟨r, r0, r1, r2, r3, evu ?_⟩
          rw [hq] at hs
          simp only [sort_Search_26.l0]
          refine evp c ?_
          rw [eh]
          refine Ev.bind hs ?_
          exact evp (by simp) r4
    · obtain rfl : i = j := by omega
      refine ⟨i, h0, hjN, hlo, hhi, evu ?_⟩
      simp only [sort_Search_26.l0]
      exact evn c (Ev.now _)
theorem Start_ev {z0 z1 t0 t1 t2 t3 : Int} (t4 : Bool) {out : List Int} (hl : out.length ≤ 100) (h : tE z0 z1 t0 t1 t2 t3 out = 0) : ∃ r, 0 ≤ r ∧ r ≤ t3 - t2 + 1 ∧ (∀ n, 0 ≤ n → n < r → qS z0 z1 t0 t1 t2 t4 out n = true) ∧ (∀ n, r ≤ n → n < t3 - t2 + 1 → qS z0 z1 t0 t1 t2 t4 out n = false) ∧
    Ev (fun k => optimal_Start.f k z0 z1 t0 t1 t2 t3 t4 out) (if r = 0 then (0, 9) else (t2 + r - 1, 0)) := by
  have T := tE_zero h
  have hk := T.k
  unfold tskB at hk
  obtain ⟨r, r0, r1, r2, r3, r4⟩ := search_ev t4 hl T (t3 - t2 + 1) (t3 - t2 + 1).toNat 0 (t3 - t2 + 1) (by omega) (by omega) (by omega) (by omega) (by omega) (fun n n0 n1 => by omega) (fun n n0 n1 => by omega)
  refine ⟨r, r0, r1, r2, r3, ?_⟩
  have hc : Ev (fun k => optimal_check.f k z0 z1 t0 t1 t2 t3 t4 out) 0 := by
    have := check_ev (z0 := z0) (z1 := z1) (t0 := t0) (t1 := t1) (t2 := t2) (t3 := t3) t4 hl
    rw [h] at this
    exact this
  unfold optimal_Start.f
  refine Ev.bind hc ?_
  simp only [if_true]
  rw [w64 (x := t3 - t2) (by omega) (by omega), w64 (x := t3 - t2 + 1) (by omega) (by omega)]
  refine Ev.bind (Ev.congr (fun k => rfl) r4) ?_
  by_cases c : r = 0
  · simp only [if_pos c]
    exact Ev.now _
  · simp only [if_neg c]
    rw [w64 (x := t2 + r) (by omega) (by omega), w64 (x := t2 + r - 1) (by omega) (by omega)]
    exact Ev.now _
theorem Start_err {z0 z1 t0 t1 t2 t3 : Int} (t4 : Bool) {out : List Int} (hl : out.length ≤ 100) (h : tE z0 z1 t0 t1 t2 t3 out ≠ 0) : Ev (fun k => optimal_Start.f k z0 z1 t0 t1 t2 t3 t4 out) (0, tE z0 z1 t0 t1 t2 t3 out) := by
  unfold optimal_Start.f
  exact Ev.bind (check_ev t4 hl) (evn h (Ev.now _))
theorem tE_ne9 {z0 z1 t0 t1 t2 t3 : Int} {out : List Int} : tE z0 z1 t0 t1 t2 t3 out ≠ 9 := by
  unfold tE
  split
  · split
    · split
      · split <;> omega
      · omega
    · omega
  · omega
end Go.Proofs.Ytpehicdglooeaaa.M
