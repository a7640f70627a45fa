-- Exceeded and Histogram return the specified numbers.
import Derived.Test.YtnfcbhoaebcndaaSpE
import Derived.Test.YtnfcbhoaebcndaaPTx29
namespace Go.Proofs.Ytnfcbhoaebcndaa.Pure
open Go.RowKit Go.Proofs.Ytnfcbhoaebcndaa.PT Go.Proofs.YtnfcbhoaebcndaaW.PrintWords Go.Proofs.YtnfcbhoaebcndaaW.PrintLast Go.Proofs.YtnfcbhoaebcndaaW.PrintMore
set_option linter.unusedVariables false
set_option linter.unusedSimpArgs false
theorem ind_eqh {q q' : S45 → Bool} {v : S45} (h : q v = q' v) : ind q v = ind q' v := by unfold ind; rw [h]
theorem okv_n {v : S45} (h : okV v = true) (c : v.f0 = 1) : -1000000000000 ≤ v.f1 ∧ v.f1 ≤ 1000000000000 := by
  unfold okV at h
  have h := of_decide_eq_true h
  omega
/-- Two counts over the pieces are equal if the valid values are told alike. -/
theorem cnt_congr {l : List S57} (h : chk l = 0) {a b : Int} (h0 : 0 ≤ a) (hab : a < b) (hb : b ≤ 6311433600) {q q' : S45 → Bool} (hq : ∀ v, okV v = true → q v = q' v) : ws (ind q) (P l a b) = ws (ind q') (P l a b) := by
  rw [P_pz l h0 hab hb]
  exact ws_congr _ (fun p hp => ind_eqh (hq p.1 (val_ok (chk_zero h).2.2 p hp)))
theorem rexc_ev {l : List S57} (hl : l.length ≤ 60) (h : chk l = 0) {a b : Int} (lim : Int) (h0 : 0 ≤ a) (hab : a < b) (hb : b ≤ 6311433600) : Ev (fun k => plenumref44_Exceeded.f k l lim a b) (cntOf (over lim) (P l a b)) := by
  unfold plenumref44_Exceeded.f
  by_cases c : lim ≥ 2000000000000
  · refine evp c ?_
    have e : cntOf (over lim) (P l a b) = 0 := by
      rw [cnt_ws, cnt_congr h h0 hab hb (q' := fun _ => false) (fun v hv => ?_), ws_congr (u := fun _ => 0 * 0) _ (fun p _ => rfl), ws_mul 0 (fun _ => 0), Int.zero_mul, w0]
      refine decide_eq_false (fun hh => ?_)
      have := okv_n hv hh.1
      omega
    rw [e]
    exact Ev.now _
  · refine evn c ?_
    have e1 : -2000000000000 ≤ mx lim (-2000000000000) ∧ mx lim (-2000000000000) < 2000000000000 ∧ lim ≤ mx lim (-2000000000000) ∧ (mx lim (-2000000000000) = lim ∨ mx lim (-2000000000000) = -2000000000000) := by unfold mx; split <;> omega
    have e : cntOf (over lim) (P l a b) = cntOf (btw (wrap64 ((mx lim (-2000000000000)) + 1)) 2000000000000) (P l a b) := by
      rw [w64s (by omega) (by omega), cnt_ws, cnt_ws]
      refine congrArg wrap64 (cnt_congr h h0 hab hb (fun v hv => ?_))
      refine decide_eq_decide.2 ⟨fun hh => ?_, fun hh => ?_⟩
      · have := okv_n hv hh.1
        exact ⟨hh.1, by omega, by omega⟩
      · have := okv_n hv hh.1
        exact ⟨hh.1, by omega⟩
    rw [e]
    exact Ev.bind (rbet_ev hl h _ _ h0 hab hb) (Ev.now _)

/-! ### the limits -/
theorem rlim_loop (l : List Int) (hl : l.length ≤ 100) : ∀ (B A : List Int) (b : Int), A ++ b :: B = l → Ev (fun k => plenumref44_Limits.l0 k l ((A.length : Int) + 1)) (if incB (b :: B) = true then 0 else 5)
  | [], A, b, h => by
    have hlen : l.length = A.length + 1 := by rw [← h]; simp
    rw [if_pos (show incB [b] = true from rfl)]
    refine evs (f := fun k => some 0) (fun k => ?_) (Ev.now _)
    simp only [plenumref44_Limits.l0]
    rw [if_neg (by omega)]
  | c :: B, A, b, h => by
    have hlen : l.length = A.length + 2 + B.length := by rw [← h]; simp; omega
    have h0 : rd l (A.length : Int) = b := by rw [← h]; exact rd_app A b (c :: B)
    have h1 : rd l ((A.length : Int) + 1) = c := by
      have := rd_app (A ++ [b]) c B
      rw [List.append_assoc] at this
      simp only [List.length_append, List.length_singleton, List.singleton_append] at this
      rw [h] at this
      simpa using this
    have ih := rlim_loop l hl B (A ++ [b]) c (by rw [← h]; simp)
    have e2 : ((A ++ [b]).length : Int) = (A.length : Int) + 1 := by simp
    rw [e2] at ih
    refine evu ?_
    simp only [plenumref44_Limits.l0]
    rw [w64s (x := (A.length : Int) + 1 - 1) (by omega) (by omega), show (A.length : Int) + 1 - 1 = A.length by omega, h0, h1, w64s (by omega) (by omega)]
    refine evp (by omega) (evp (by omega) (evp (by omega) (evp (by omega) ?_)))
    by_cases d : b ≥ c
    · rw [if_neg (by simp [incB]; omega)]
      exact evp d (Ev.now _)
    · refine evn d ?_
      have e : incB (b :: c :: B) = incB (c :: B) := by
        show (decide (b < c) && incB (c :: B)) = _
        rw [decide_eq_true (by omega), Bool.true_and]
      rw [e]
      exact ih
theorem rlim_ev {l : List Int} (hl : l.length ≤ 100) : Ev (fun k => plenumref44_Limits.f k l) (if 64 < l.length then 7 else if incB l = true then 0 else 5) := by
  unfold plenumref44_Limits.f
  by_cases c : 64 < l.length
  · rw [if_pos c]
    exact evp (by omega) (Ev.now _)
  · rw [if_neg c]
    refine evn (by omega) ?_
    cases l with
    | nil =>
      rw [if_pos (show incB [] = true from rfl)]
      refine evs (f := fun k => some 0) (fun k => ?_) (Ev.now _)
      simp only [plenumref44_Limits.l0]
      rw [if_neg (by simp)]
    | cons b B => exact rlim_loop (b :: B) hl B [] b rfl

/-! ### the histogram of the reference -/
theorem bk_iff (n : Int) : ∀ (A B : List Int), bk (A ++ B) n = A.length ↔ (∀ x ∈ A, x ≤ n) ∧ (∀ y, B.head? = some y → n < y)
  | [], [] => by simp [bk]
  | [], y :: B => by
    have e : bk ([] ++ y :: B) n = if n ≥ y then bk B n + 1 else 0 := rfl
    rw [e]
    by_cases c : n ≥ y
    · rw [if_pos c]
      refine ⟨fun h => by simp at h, fun h => ?_⟩
      have := h.2 y rfl
      omega
    · rw [if_neg c]
      exact ⟨fun _ => ⟨by simp, fun z hz => by simp at hz; omega⟩, fun _ => rfl⟩
  | x :: A, B => by
    have e : bk (x :: A ++ B) n = if n ≥ x then bk (A ++ B) n + 1 else 0 := rfl
    have ih := bk_iff n A B
    rw [e]
    by_cases c : n ≥ x
    · rw [if_pos c]
      constructor
      · intro h
        obtain ⟨i1, i2⟩ := ih.1 (by simpa using h)
        refine ⟨fun z hz => ?_, i2⟩
        cases List.mem_cons.1 hz with
        | inl e => rw [e]; exact c
        | inr e => exact i1 z e
      · intro h
        have := ih.2 ⟨fun z hz => h.1 z (by simp [hz]), h.2⟩
        simp [this]
    · rw [if_neg c]
      refine ⟨fun h => by simp at h, fun h => ?_⟩
      have := h.1 x (by simp)
      omega
theorem take_snoc (L : List Int) (i : Nat) (h : i < L.length) : L.take i ++ [L.getD i 0] = L.take (i + 1) := by
  rw [List.take_succ_eq_append_getElem h, List.getD_eq_getElem?_getD, List.getElem?_eq_getElem h]; rfl
theorem rhist_loop {l : List S57} (hl : l.length ≤ 60) (h : chk l = 0) {a b : Int} (h0 : 0 ≤ a) (hab : a < b) (hb : b ≤ 6311433600) (ls : List Int) (hls : ls.length ≤ 100) : ∀ (B A : List Int) (lo : Int), A ++ B = ls →
    (∀ n : Int, -1000000000000 ≤ n → n ≤ 1000000000000 → (lo ≤ n ↔ ∀ x ∈ A, x ≤ n)) → Ev (fun k => plenumref44_Histogram.l0 k l ls a b ((hOf ls (P l a b)).take A.length) lo (A.length : Int)) (hOf ls (P l a b))
  | [], A, lo, hA, hlo => by
    have hA : A = ls := by simpa using hA
    subst hA
    have hL := hOf_length A (P l a b)
    have ht : ((hOf A (P l a b)).take A.length).length = A.length := by simp; omega
    refine evu ?_
    simp only [plenumref44_Histogram.l0]
    refine evp (by omega) (evn (by omega) (Ev.bind (rbet_ev hl h _ _ h0 hab hb) ?_))
    refine evp (by omega) ?_
    have e : cntOf (btw lo 2000000000000) (P l a b) = (hOf A (P l a b)).getD A.length 0 := by
      rw [h_ws A _ A.length (by omega), cnt_ws]
      refine congrArg wrap64 (cnt_congr h h0 hab hb (fun v hv => ?_))
      refine decide_eq_decide.2 ?_
      have hk := bk_iff v.f1 A []
      rw [List.append_nil] at hk
      constructor
      · intro hh
        have ho := okv_n hv hh.1
        exact ⟨hh.1, hk.2 ⟨(hlo v.f1 ho.1 ho.2).1 hh.2.1, fun y hy => by cases hy⟩⟩
      · intro hh
        have ho := okv_n hv hh.1
        exact ⟨hh.1, (hlo v.f1 ho.1 ho.2).2 (hk.1 hh.2).1, by omega⟩
    rw [e, take_snoc _ _ (by omega), List.take_of_length_le (by omega), w64s (by omega) (by omega)]
    refine evu ?_
    simp only [plenumref44_Histogram.l0]
    exact evn (by omega) (Ev.now _)
  | x :: B, A, lo, hA, hlo => by
    have hlen : ls.length = A.length + 1 + B.length := by rw [← hA]; simp; omega
    have hx : rd ls (A.length : Int) = x := by rw [← hA]; exact rd_app A x B
    have hL := hOf_length ls (P l a b)
    have ht : ((hOf ls (P l a b)).take A.length).length = A.length := by simp; omega
    obtain ⟨c, hc⟩ : ∃ c, mx (-2000000000000) (mn 2000000000000 x) = c := ⟨_, rfl⟩
    have hcx : ∀ n : Int, -1000000000000 ≤ n → n ≤ 1000000000000 → (c ≤ n ↔ x ≤ n) := fun n n0 n1 => by
      rw [← hc]; unfold mx mn; split <;> split at * <;> omega
    obtain ⟨m1, m2, m3⟩ := mx_ge lo (c - 1 + 1)
    have ih := rhist_loop hl h h0 hab hb ls hls B (A ++ [x]) (mx lo (c - 1 + 1)) (by rw [← hA]; simp) (fun n n0 n1 => by
      have g1 := hlo n n0 n1
      have g2 := hcx n n0 n1
      constructor
      · intro hh z hz
        cases List.mem_append.1 hz with
        | inl e => exact g1.1 (by omega) z e
        | inr e => rw [List.mem_singleton.1 e]; exact g2.1 (by omega)
      · intro hh
        have k1 := g1.2 (fun z hz => hh z (by simp [hz]))
        have k2 := g2.2 (hh x (by simp))
        omega)
    have e2 : ((A ++ [x]).length : Int) = (A.length : Int) + 1 := by simp
    have e3 : (A ++ [x]).length = A.length + 1 := by simp
    rw [e2, e3] at ih
    refine evu ?_
    simp only [plenumref44_Histogram.l0]
    rw [hx, hc]
    refine evp (by omega) (evp (by omega) (evp (by omega) (Ev.bind (rbet_ev hl h _ _ h0 hab hb) ?_)))
    refine evp (by omega) ?_
    have e : cntOf (btw lo (c - 1)) (P l a b) = (hOf ls (P l a b)).getD A.length 0 := by
      rw [h_ws ls _ A.length (by omega), cnt_ws]
      refine congrArg wrap64 (cnt_congr h h0 hab hb (fun v hv => ?_))
      refine decide_eq_decide.2 ?_
      have hk := bk_iff v.f1 A (x :: B)
      rw [hA] at hk
      constructor
      · intro hh
        have ho := okv_n hv hh.1
        have := hcx v.f1 ho.1 ho.2
        exact ⟨hh.1, hk.2 ⟨(hlo v.f1 ho.1 ho.2).1 hh.2.1, fun y hy => by simp at hy; omega⟩⟩
      · intro hh
        have ho := okv_n hv hh.1
        have := hcx v.f1 ho.1 ho.2
        have g := hk.1 hh.2
        have g2 := g.2 x rfl
        exact ⟨hh.1, (hlo v.f1 ho.1 ho.2).2 g.1, by omega⟩
    rw [e, take_snoc _ _ (by omega), w64s (by omega) (by omega)]
    exact ih
theorem rhist_ev {l : List S57} (hl : l.length ≤ 60) (h : chk l = 0) {a b : Int} (h0 : 0 ≤ a) (hab : a < b) (hb : b ≤ 6311433600) {ls : List Int} (hls : ls.length ≤ 100) : Ev (fun k => plenumref44_Histogram.f k l ls a b) (hOf ls (P l a b)) :=
  Ev.congr (fun k => rfl) (rhist_loop hl h h0 hab hb ls hls ls [] (-2000000000000) rfl (fun n n0 n1 => ⟨fun _ x hx => (by cases hx), fun _ => (by omega)⟩))
theorem same_loop (L : List Int) (hl : L.length ≤ 200) : ∀ (B A : List Int), A ++ B = L → Ev (fun k => plenumref44_Same.l0 k L L (A.length : Int)) true
  | [], A, h => by
    have hA : A = L := by simpa using h
    subst hA
    refine evu ?_
    simp only [plenumref44_Same.l0]
    exact evn (by omega) (Ev.now _)
  | x :: B, A, h => by
    have hlen : L.length = A.length + 1 + B.length := by rw [← h]; simp; omega
    have ih := same_loop L hl B (A ++ [x]) (by rw [← h]; simp)
    have e2 : ((A ++ [x]).length : Int) = (A.length : Int) + 1 := by simp
    rw [e2] at ih
    refine evu ?_
    simp only [plenumref44_Same.l0]
    rw [w64s (by omega) (by omega)]
    exact evp (by omega) (evp (by omega) (evp (by omega) (evp (by simp) ih)))
theorem same_ev (L : List Int) (hl : L.length ≤ 200) : Ev (fun k => plenumref44_Same.f k L L) true := by
  unfold plenumref44_Same.f
  exact evp rfl (same_loop L hl L [] rfl)
/-- The first error of a histogram. -/
def hfst (l : List S57) (ls : List Int) (a b : Int) : Int := if chk l = 0 then (if (if 64 < ls.length then (7 : Int) else if incB ls = true then 0 else 5) = 0 then spn a b else (if 64 < ls.length then (7 : Int) else if incB ls = true then 0 else 5)) else chk l
theorem hres_fst (l : List S57) (ls : List Int) (a b : Int) : hres l ls a b = if hfst l ls a b = 0 then (hOf ls (P l a b), 0) else ([], hfst l ls a b) := by
  unfold hres hfst
  by_cases c1 : chk l = 0
  · rw [if_neg (by simp [c1]), if_pos c1]
    by_cases c2 : 64 < ls.length
    · simp [c2]
    · by_cases c3 : incB ls = true
      · simp [c2, c3]
      · simp [c2, c3]
  · simp [c1]
theorem hfst_zero {l : List S57} {ls : List Int} {a b : Int} (h : hfst l ls a b = 0) : chk l = 0 ∧ spn a b = 0 := by
  unfold hfst at h
  by_cases c1 : chk l = 0
  · rw [if_pos c1] at h
    by_cases c2 : (if 64 < ls.length then (7 : Int) else if incB ls = true then 0 else 5) = 0
    · rw [if_pos c2] at h; exact ⟨c1, h⟩
    · rw [if_neg c2] at h; exact absurd h c2
  · rw [if_neg c1] at h; exact absurd h c1
theorem StatsHistograms : plenumlaw44_StatsHistograms.Pure := by
  intro l lim ls a b _ _ _ _ _ _ _ _ _
  refine Ev.rounds ?_
  have jt : Ev (fun k => plenumlaw44_StatsHistograms.j0 k l lim ls a b true) true := by
    refine evu ?_
    simp only [plenumlaw44_StatsHistograms.j0, if_true, awk, Option.bind_some]
    exact Ev.now _
  unfold plenumlaw44_StatsHistograms.f
  by_cases hl : (l.length : Int) > 60
  · exact evp hl jt
  · refine evn hl ?_
    by_cases hls : (ls.length : Int) > 80
    · rw [decide_eq_true hls]; exact jt
    · rw [decide_eq_false hls]
      refine evu ?_
      simp only [plenumlaw44_StatsHistograms.j0]
      refine evn (by simp) (Ev.bind (exceeded_ev (by omega) lim a b) (Ev.bind (hist_ev (by omega) (ls := ls) (by omega) a b) (Ev.bind (rfst l (by omega) a b) (Ev.bind (rchk l (by omega)) ?_))))
      rw [hres_fst]
      have hj3 : Ev (fun k => plenumlaw44_StatsHistograms.j3 k l ls a b (if hfst l ls a b = 0 then (hOf ls (P l a b), 0) else ([], hfst l ls a b)).1 (hfst l ls a b) false) true := by
        refine evu ?_
        simp only [plenumlaw44_StatsHistograms.j3]
        rw [awk]
        refine evn (by simp) ?_
        by_cases g : hfst l ls a b = 0
        · obtain ⟨h1, h2⟩ := hfst_zero g
          obtain ⟨s0, s1, s2, s3⟩ := spn_zero h2
          refine evp g ?_
          simp only [Option.bind_some, if_true, if_pos g]
          refine Ev.bind (rhist_ev (by omega) h1 s0 s1 (by omega) (by omega)) (Ev.bind (same_ev _ (by rw [hOf_length]; omega)) (Ev.now _))
        · refine evn g ?_
          simp only [Option.bind_some, if_true, if_neg g]
          exact Ev.now _
      have hj2 : Ev (fun k => plenumlaw44_StatsHistograms.j2 k l lim ls a b (if fst_ l a b = 0 then (cntOf (over lim) (P l a b), 0) else (0, fst_ l a b)).1 (if fst_ l a b = 0 then (cntOf (over lim) (P l a b), 0) else (0, fst_ l a b)).2 (if hfst l ls a b = 0 then (hOf ls (P l a b), 0) else ([], hfst l ls a b)).1 (if hfst l ls a b = 0 then (hOf ls (P l a b), 0) else ([], hfst l ls a b)).2 (fst_ l a b) (hfst l ls a b)) true := by
        refine evu ?_
        simp only [plenumlaw44_StatsHistograms.j2]
        refine evp (by split <;> simp_all) (evp (by split <;> simp_all) ?_)
        by_cases g : fst_ l a b = 0
        · obtain ⟨h1, h2⟩ := fst_zero g
          obtain ⟨s0, s1, s2, s3⟩ := spn_zero h2
          refine evp g (Ev.bind (rexc_ev (by omega) h1 lim s0 s1 (by omega)) ?_)
          exact evp (by rw [if_pos g]) hj3
        · refine evn g ?_
          have e : ((if fst_ l a b = 0 then (cntOf (over lim) (P l a b), (0 : Int)) else (0, fst_ l a b)).1 != 0) = false := by rw [if_neg g]; rfl
          rw [e]
          exact hj3
      have hd : hfst l ls a b = if chk l = 0 then (if (if 64 < ls.length then (7 : Int) else if incB ls = true then 0 else 5) = 0 then spn a b else (if 64 < ls.length then (7 : Int) else if incB ls = true then 0 else 5)) else chk l := rfl
      by_cases g : chk l = 0
      · refine evp g (Ev.bind (rlim_ev (by omega)) ?_)
        refine evu ?_
        simp only [plenumlaw44_StatsHistograms.j1]
        rw [if_pos g] at hd
        by_cases g2 : (if 64 < ls.length then (7 : Int) else if incB ls = true then 0 else 5) = 0
        · refine evp g2 (Ev.bind (rspn a b) ?_)
          rw [if_pos g2] at hd
          rw [hd] at hj2 ⊢
          exact hj2
        · refine evn g2 ?_
          rw [if_neg g2] at hd
          rw [hd] at hj2 ⊢
          exact hj2
      · refine evn g (evu ?_)
        simp only [plenumlaw44_StatsHistograms.j1]
        rw [if_neg g] at hd
        refine evn g ?_
        rw [hd] at hj2 ⊢
        exact hj2
end Go.Proofs.Ytnfcbhoaebcndaa.Pure
