-- What the program's statistics and the reference's loops over the parts compute: folds over the pieces.
import Derived.Test.YtnfcbhoaebcndaaSpB
import Derived.Test.YtnfcbhoaebcndaaSums
import Derived.Test.YtnfcbhoaebcndaaCount
import Derived.Test.YtnfcbhoaebcndaaExtr
import Derived.Test.YtnfcbhoaebcndaaHist
import Derived.Test.YtnfcbhoaebcndaaPTx14
import Derived.Test.YtnfcbhoaebcndaaPTx12
import Derived.Test.YtnfcbhoaebcndaaPTx40
import Derived.Test.YtnfcbhoaebcndaaPTx32
import Derived.Test.YtnfcbhoaebcndaaPTx26
import Derived.Test.YtnfcbhoaebcndaaPTx45
import Derived.Test.YtnfcbhoaebcndaaPTx33
import Derived.Test.YtnfcbhoaebcndaaPTx31
namespace Go.Proofs.Ytnfcbhoaebcndaa.Pure
open Go.RowKit Go.Proofs.Ytnfcbhoaebcndaa.PT Go.Proofs.YtnfcbhoaebcndaaW.PrintWords Go.Proofs.YtnfcbhoaebcndaaW.PrintLast Go.Proofs.YtnfcbhoaebcndaaW.PrintMore
set_option linter.unusedVariables false
set_option linter.unusedSimpArgs false

/-! ### the program -/
theorem sums_at {l : List S57} (hl : l.length ≤ 100) (a b : Int) : stats_sums.f l a b = some (sumOf (P l a b)) := by
  unfold stats_sums.f; rw [if_pos (by omega)]; rfl
theorem integral_ev {l : List S57} (hl : l.length ≤ 100) (a b : Int) : Ev (fun k => stats_Integral.f k l a b) (if fst_ l a b = 0 then ((sumOf (P l a b)).1, 0) else (0, fst_ l a b)) := by
  refine Ev.congr (fun k => rfl) (Ev.bind (pfst l hl a b) ?_)
  rw [sums_at hl]
  simp only [Option.bind_some]
  split <;> exact Ev.now _
theorem exceeded_ev {l : List S57} (hl : l.length ≤ 100) (lim a b : Int) : Ev (fun k => stats_Exceeded.f k l lim a b) (if fst_ l a b = 0 then (cntOf (over lim) (P l a b), 0) else (0, fst_ l a b)) := by
  refine Ev.congr (f := fun k => (stats_checked.f k l a b).bind fun e => if e = 0 then some (cntOf (over lim) (P l a b), 0) else some (0, e)) (fun k => ?_) (Ev.bind (pfst l hl a b) ?_)
  · unfold stats_Exceeded.f; rw [if_pos (by omega)]; rfl
  · split <;> exact Ev.now _
theorem seconds_ev {l : List S57} (hl : l.length ≤ 100) (v : S45) (a b : Int) : Ev (fun k => stats_Seconds.f k l v.f0 v.f1 a b) (if abt l v a b = 0 then (cntOf (same v) (P l a b), 0) else (0, abt l v a b)) := by
  refine Ev.congr (f := fun k => (stats_about.f k l v.f0 v.f1 a b).bind fun e => if e = 0 then some (cntOf (same v) (P l a b), 0) else some (0, e)) (fun k => ?_) (Ev.bind (abt_ev l hl v a b) ?_)
  · unfold stats_Seconds.f; rw [if_pos (by omega)]; rfl
  · split <;> exact Ev.now _
theorem extremes_ev {l : List S57} (hl : l.length ≤ 100) (a b : Int) : Ev (fun k => stats_Extremes.f k l a b) (if fst_ l a b = 0 then exRes (exOf (P l a b)) else (0, 0, fst_ l a b)) := by
  refine Ev.congr (f := fun k => (stats_checked.f k l a b).bind fun e => if e = 0 then some (exRes (exOf (P l a b))) else some (0, 0, e)) (fun k => ?_) (Ev.bind (pfst l hl a b) ?_)
  · unfold stats_Extremes.f; rw [if_pos (by omega)]; rfl
  · split <;> exact Ev.now _
def hres (l : List S57) (ls : List Int) (a b : Int) : List Int × Int := if chk l ≠ 0 then ([], chk l) else if 64 < ls.length then ([], 7) else if incB ls = true then (if spn a b = 0 then (hOf ls (P l a b), 0) else ([], spn a b)) else ([], 5)
theorem hist_ev {l : List S57} (hl : l.length ≤ 100) {ls : List Int} (hls : ls.length ≤ 100) (a b : Int) : Ev (fun k => stats_Histogram.f k l ls a b) (hres l ls a b) := by
  refine Ev.congr (f := fun k => (stats_Check.f k l).bind fun e => if e ≠ 0 then some ([], e) else if 64 < ls.length then some ([], 7) else (stats_span.f k a b).bind fun s => if incB ls = true then (if s = 0 then some (hOf ls (P l a b), 0) else some ([], s)) else some ([], 5)) (fun k => ?_) (Ev.bind (pchk l hl) ?_)
  · unfold stats_Histogram.f; rw [if_pos ⟨by omega, by omega⟩]; rfl
  · unfold hres
    by_cases h1 : chk l ≠ 0
    · simp only [if_pos h1]; exact Ev.now _
    · simp only [if_neg h1]
      by_cases h2 : 64 < ls.length
      · simp only [h2, if_true]; exact Ev.now _
      · simp only [h2, if_false]
        refine Ev.bind (pspn a b) ?_
        split
        · split <;> exact Ev.now _
        · exact Ev.now _
def dvd (s n : Int) : Int := if (Int.tmod s n) ≥ (wrap64 (n - (Int.tmod s n))) then wrap64 ((wrap64 (Int.tdiv s n)) + 1) else if (wrap64 (-(Int.tmod s n))) ≥ (wrap64 (n + (Int.tmod s n))) then wrap64 ((wrap64 (Int.tdiv s n)) - 1) else wrap64 (Int.tdiv s n)
theorem divided_at {s n : Int} (hn : n ≠ 0) : stats_divided.f s n = some (dvd s n) := by
  unfold stats_divided.f dvd
  rw [if_neg hn]
  split
  · rfl
  · split <;> rfl
def mres (s : Int × Int) : Int × Int := if s.2 = 0 then (0, 9) else (dvd s.1 s.2, 0)
theorem mean_ev {l : List S57} (hl : l.length ≤ 100) (a b : Int) : Ev (fun k => stats_Mean.f k l a b) (if fst_ l a b = 0 then mres (sumOf (P l a b)) else (0, fst_ l a b)) := by
  refine Ev.congr (fun k => rfl) (Ev.bind (pfst l hl a b) ?_)
  rw [sums_at hl]
  simp only [Option.bind_some]
  split
  · unfold mres
    by_cases h : (sumOf (P l a b)).2 = 0
    · simp only [h, if_true]; exact Ev.now _
    · simp only [h, if_false]
      rw [divided_at h]
      exact Ev.now _
  · exact Ev.now _

/-! ### the reference -/
theorem rd_tp (A : List (S45 × Int)) (p : S45 × Int) (B : List (S45 × Int)) : rd_T81 ((A ++ p :: B).map tp) (A.length : Int) = tp p := by
  simp [rd_T81]
theorem rint_loop (ps : List (S45 × Int)) (hl : ps.length ≤ 200) : ∀ (B A : List (S45 × Int)) (s : Int × Int), A ++ B = ps → Ev (fun k => plenumref44_Integral.l0 k s.1 s.2 (ps.map tp) (A.length : Int)) (B.foldl sumStep s)
  | [], A, s, h => by
    have hA : A = ps := by simpa using h
    subst hA
    refine evs (f := fun k => some s) (fun k => ?_) (Ev.now _)
    simp only [plenumref44_Integral.l0]
    rw [if_neg (by simp)]
  | p :: B, A, s, h => by
    have hlen : ps.length = A.length + 1 + B.length := by rw [← h]; simp; omega
    have hp : rd_T81 (ps.map tp) (A.length : Int) = tp p := by rw [← h]; exact rd_tp A p B
    have ih := rint_loop ps hl B (A ++ [p]) (sumStep s p) (by rw [← h]; simp)
    refine evs (fun k => ?_) ih
    simp only [plenumref44_Integral.l0]
    rw [if_pos (by simp; omega), if_pos (by omega), hp, w64s (x := (A.length : Int) + 1) (by omega) (by omega)]
    unfold sumStep
    by_cases hk : p.1.f0 = 1
    · rw [if_pos hk, if_pos (show (tp p).f0.f0 = 1 from hk)]; simp [tp]
    · rw [if_neg hk, if_neg (show ¬ (tp p).f0.f0 = 1 from hk)]; simp
theorem rint_ev {l : List S57} (hl : l.length ≤ 60) (h : chk l = 0) {a b : Int} (h0 : 0 ≤ a) (hab : a < b) (hb : b ≤ 6311433600) : Ev (fun k => plenumref44_Integral.f k l a b) (sumOf (P l a b)) := by
  have hP := P_len l a b
  exact Ev.congr (fun k => rfl) (Ev.bind (parts_ev hl h h0 hab hb) (rint_loop (P l a b) (by omega) (P l a b) [] (0, 0) rfl))
theorem rsec_loop (ps : List (S45 × Int)) (hl : ps.length ≤ 200) (v : S45) : ∀ (B A : List (S45 × Int)) (n : Int), A ++ B = ps → Ev (fun k => plenumref44_Seconds.l0 k n (ps.map tp) (A.length : Int) v.f0 v.f1) (B.foldl (cntStep (same v)) n)
  | [], A, n, h => by
    have hA : A = ps := by simpa using h
    subst hA
    refine evs (f := fun k => some n) (fun k => ?_) (Ev.now _)
    simp only [plenumref44_Seconds.l0]
    rw [if_neg (by simp)]
  | p :: B, A, n, h => by
    have hlen : ps.length = A.length + 1 + B.length := by rw [← h]; simp; omega
    have hp : rd_T81 (ps.map tp) (A.length : Int) = tp p := by rw [← h]; exact rd_tp A p B
    have ih := rsec_loop ps hl v B (A ++ [p]) (cntStep (same v) n p) (by rw [← h]; simp)
    refine evs (fun k => ?_) ih
    simp only [plenumref44_Seconds.l0]
    rw [if_pos (by simp; omega), if_pos (by omega), hp, w64s (x := (A.length : Int) + 1) (by omega) (by omega)]
    have e : ((tp p).f0.f0 == v.f0 && ((tp p).f0.f1 == v.f1)) = same v p.1 := by
      unfold same tp
      rw [Bool.eq_iff_iff]; simp
    rw [e]
    unfold cntStep
    by_cases hk : same v p.1 = true
    · rw [if_pos hk, if_pos hk]; simp [tp]
    · rw [if_neg hk, if_neg hk]; simp
theorem rsec_ev {l : List S57} (hl : l.length ≤ 60) (h : chk l = 0) (v : S45) {a b : Int} (h0 : 0 ≤ a) (hab : a < b) (hb : b ≤ 6311433600) : Ev (fun k => plenumref44_Seconds.f k l v.f0 v.f1 a b) (cntOf (same v) (P l a b)) := by
  have hP := P_len l a b
  exact Ev.congr (fun k => rfl) (Ev.bind (parts_ev hl h h0 hab hb) (rsec_loop (P l a b) (by omega) v (P l a b) [] 0 rfl))
def btw (lo hi : Int) (v : S45) : Bool := decide (v.f0 = 1 ∧ v.f1 ≥ lo ∧ v.f1 ≤ hi)
theorem rbet_loop (ps : List (S45 × Int)) (hl : ps.length ≤ 200) (lo hi : Int) : ∀ (B A : List (S45 × Int)) (n : Int), A ++ B = ps → Ev (fun k => plenumref44_Between.l0 k lo hi n (ps.map tp) (A.length : Int)) (B.foldl (cntStep (btw lo hi)) n)
  | [], A, n, h => by
    have hA : A = ps := by simpa using h
    subst hA
    refine evs (f := fun k => some n) (fun k => ?_) (Ev.now _)
    simp only [plenumref44_Between.l0]
    rw [if_neg (by simp)]
  | p :: B, A, n, h => by
    have hlen : ps.length = A.length + 1 + B.length := by rw [← h]; simp; omega
    have hp : rd_T81 (ps.map tp) (A.length : Int) = tp p := by rw [← h]; exact rd_tp A p B
    have ih := rbet_loop ps hl lo hi B (A ++ [p]) (cntStep (btw lo hi) n p) (by rw [← h]; simp)
    refine evs (fun k => ?_) ih
    simp only [plenumref44_Between.l0]
    rw [if_pos (by simp; omega), if_pos (by omega), hp, w64s (x := (A.length : Int) + 1) (by omega) (by omega)]
    unfold cntStep
    by_cases h1 : p.1.f0 = 1
    · rw [if_pos (show (tp p).f0.f0 = 1 from h1)]
      by_cases h2 : p.1.f1 ≥ lo
      · rw [if_pos (show (tp p).f0.f1 ≥ lo from h2)]
        by_cases h3 : p.1.f1 ≤ hi
        · rw [if_pos (show (tp p).f0.f1 ≤ hi from h3), if_pos (by simp [btw, h1, h2, h3])]; simp [tp]
        · rw [if_neg (show ¬ (tp p).f0.f1 ≤ hi from h3), if_neg (by simp [btw, h3])]; simp
      · rw [if_neg (show ¬ (tp p).f0.f1 ≥ lo from h2), if_neg (by simp [btw, h2] <;> omega)]; simp
    · rw [if_neg (show ¬ (tp p).f0.f0 = 1 from h1), if_neg (by simp [btw, h1])]; simp
theorem rbet_ev {l : List S57} (hl : l.length ≤ 60) (h : chk l = 0) (lo hi : Int) {a b : Int} (h0 : 0 ≤ a) (hab : a < b) (hb : b ≤ 6311433600) : Ev (fun k => plenumref44_Between.f k l lo hi a b) (cntOf (btw lo hi) (P l a b)) := by
  have hP := P_len l a b
  exact Ev.congr (fun k => rfl) (Ev.bind (parts_ev hl h h0 hab hb) (rbet_loop (P l a b) (by omega) lo hi (P l a b) [] 0 rfl))
theorem rext_loop (ps : List (S45 × Int)) (hl : ps.length ≤ 200) : ∀ (B A : List (S45 × Int)) (s : Int × Int × Bool), A ++ B = ps → Ev (fun k => plenumref44_Extremes.l0 k s.1 s.2.1 s.2.2 (ps.map tp) (A.length : Int)) (B.foldl exStep s)
  | [], A, s, h => by
    have hA : A = ps := by simpa using h
    subst hA
    refine evs (f := fun k => some s) (fun k => ?_) (Ev.now _)
    simp only [plenumref44_Extremes.l0]
    rw [if_neg (by simp)]
  | p :: B, A, s, h => by
    have hlen : ps.length = A.length + 1 + B.length := by rw [← h]; simp; omega
    have hp : rd_T81 (ps.map tp) (A.length : Int) = tp p := by rw [← h]; exact rd_tp A p B
    have ih := rext_loop ps hl B (A ++ [p]) (exStep s p) (by rw [← h]; simp)
    refine evs (fun k => ?_) ih
    simp only [plenumref44_Extremes.l0]
    rw [if_pos (by simp; omega), if_pos (by omega), hp, w64s (x := (A.length : Int) + 1) (by omega) (by omega)]
    unfold exStep
    by_cases h1 : p.1.f0 = 1
    · rw [if_pos (show (tp p).f0.f0 = 1 from h1), if_pos h1]
      by_cases h2 : s.2.2 = true
      · rw [if_pos h2, if_pos h2]; simp [tp, h2]
      · rw [if_neg h2, if_neg h2]; simp [tp]
    · rw [if_neg (show ¬ (tp p).f0.f0 = 1 from h1), if_neg h1]; simp
theorem rext_ev {l : List S57} (hl : l.length ≤ 60) (h : chk l = 0) {a b : Int} (h0 : 0 ≤ a) (hab : a < b) (hb : b ≤ 6311433600) : Ev (fun k => plenumref44_Extremes.f k l a b) (exOf (P l a b)) := by
  have hP := P_len l a b
  exact Ev.congr (fun k => rfl) (Ev.bind (parts_ev hl h h0 hab hb) (rext_loop (P l a b) (by omega) (P l a b) [] (0, 0, false) rfl))

/-! ### starts -/
def isV (v x : S45) : Bool := x.f0 == v.f0 && (x.f1 == v.f1)
def strF (v : S45) (a b : Int) : Option S45 → Int → List S57 → Int
  | _, n, [] => n
  | p, n, x :: l => strF v a b (some x.f1) (if isV v x.f1 = true ∧ a ≤ x.f0 ∧ x.f0 < b ∧ (∀ q, p = some q → isV v q = false) then wrap64 (n + 1) else n) l
theorem last_of (A : List S57) (x : S57) (B : List S57) : rd_T57 (A ++ [x] ++ B) (A.length : Int) = x := by simp [rd_T57]
theorem not_isV (v q : S45) : (!(q.f0 == v.f0) || (!(q.f1 == v.f1))) = !isV v q := by unfold isV; rw [Bool.not_and]
theorem rstr_loop (l : List S57) (hl : l.length ≤ 200) (v : S45) (a b : Int) : ∀ (B A : List S57) (n : Int), A ++ B = l → Ev (fun k => plenumref44_Starts.l0 k l a b n (A.length : Int) v.f0 v.f1) (strF v a b (A.getLast?.map (·.f1)) n B)
  | [], A, n, h => by
    have hA : A = l := by simpa using h
    subst hA
    refine evs (f := fun k => some n) (fun k => ?_) (Ev.now _)
    simp only [plenumref44_Starts.l0]
    rw [if_neg (by omega)]
  | x :: B, A, n, h => by
    have hlen : l.length = A.length + 1 + B.length := by rw [← h]; simp; omega
    have hx : rd_T57 l (A.length : Int) = x := by rw [← h]; exact rd_app57 A x B
    have ih := fun m => rstr_loop l hl v a b B (A ++ [x]) m (by rw [← h]; simp)
    have e1 : (A ++ [x]).getLast?.map (·.f1) = some x.f1 := by simp
    rw [e1] at ih
    have e2 : ((A ++ [x]).length : Int) = (A.length : Int) + 1 := by simp
    have e3 : (x.f1.f0 == v.f0 && (x.f1.f1 == v.f1)) = isV v x.f1 := rfl
    by_cases hA : A = []
    · subst hA
      have g := ih (if isV v x.f1 = true ∧ a ≤ x.f0 ∧ x.f0 < b ∧ (∀ q, (none : Option S45) = some q → isV v q = false) then wrap64 (n + 1) else n)
      refine evs (fun k => ?_) g
      simp only [plenumref44_Starts.l0]
      rw [if_pos (by omega), if_pos (by omega), hx, e3, e2]
      rw [w64s (x := ((([] : List S57).length : Nat) : Int) + 1) (by simp) (by simp)]
      by_cases h1 : x.f0 ≥ a
      · rw [if_pos h1]
        by_cases h2 : x.f0 < b
        · rw [if_pos h2]
          by_cases h3 : isV v x.f1 = true
          · rw [if_pos h3, if_pos (by simp), if_pos ⟨h3, h1, h2, fun q hq => by cases hq⟩]
          · rw [if_neg h3, if_neg (fun hh => h3 hh.1)]
        · rw [if_neg h2, if_neg (fun hh => h2 hh.2.2.1)]
      · rw [if_neg h1, if_neg (fun hh => h1 hh.2.1)]
    · obtain ⟨A', y, rfl⟩ : ∃ A' y, A = A' ++ [y] := ⟨A.dropLast, A.getLast hA, (List.dropLast_concat_getLast hA).symm⟩
      have hy : rd_T57 l (A'.length : Int) = y := by rw [← h]; exact last_of A' y (x :: B)
      have e4 : (((A' ++ [y]).length : Nat) : Int) = (A'.length : Int) + 1 := by simp
      have e5 : (A' ++ [y]).getLast?.map (·.f1) = some y.f1 := by simp
      rw [e5]
      have g := ih (if isV v x.f1 = true ∧ a ≤ x.f0 ∧ x.f0 < b ∧ (∀ q, (some y.f1 : Option S45) = some q → isV v q = false) then wrap64 (n + 1) else n)
      refine evs (fun k => ?_) g
      simp only [plenumref44_Starts.l0]
      rw [if_pos (by omega), if_pos (by omega), hx, e3, w64s (x := (((A' ++ [y]).length : Nat) : Int) + 1) (by omega) (by omega), e2, e4, w64s (x := (A'.length : Int) + 1 - 1) (by omega) (by omega), show (A'.length : Int) + 1 - 1 = A'.length by omega, hy, not_isV]
      by_cases h1 : x.f0 ≥ a
      · rw [if_pos h1]
        by_cases h2 : x.f0 < b
        · rw [if_pos h2]
          by_cases h3 : isV v x.f1 = true
          · rw [if_pos h3, if_neg (by omega), if_pos (by omega), if_pos (by rw [List.length_append, List.length_singleton] at hlen; omega)]
            by_cases h4 : isV v y.f1 = true
            · rw [if_neg (by simp [h4]), if_neg (fun hh => by have := hh.2.2.2 _ rfl; rw [h4] at this; cases this)]
            · have h4' : isV v y.f1 = false := by simpa using h4
              rw [if_pos (by simp [h4']), if_pos ⟨h3, h1, h2, fun q hq => by cases hq; exact h4'⟩]
          · rw [if_neg h3, if_neg (fun hh => h3 hh.1)]
        · rw [if_neg h2, if_neg (fun hh => h2 hh.2.2.1)]
      · rw [if_neg h1, if_neg (fun hh => h1 hh.2.1)]
theorem rstr_ev {l : List S57} (hl : l.length ≤ 200) (v : S45) (a b : Int) : Ev (fun k => plenumref44_Starts.f k l v.f0 v.f1 a b) (strF v a b none 0 l) :=
  Ev.congr (fun k => rfl) (rstr_loop l hl v a b l [] 0 rfl)
theorem str_loop (l : List S57) (hl : l.length ≤ 200) (v : S45) (a b : Int) : ∀ (B A : List S57) (n : Int), A ++ B = l → Ev (fun k => stats_Starts.l0 k l a b n l (l.length : Int) (A.length : Int) v.f0 v.f1) (strF v a b (A.getLast?.map (·.f1)) n B, 0)
  | [], A, n, h => by
    have hA : A = l := by simpa using h
    subst hA
    refine evs (f := fun k => some (n, 0)) (fun k => ?_) (Ev.now _)
    simp only [stats_Starts.l0]
    rw [if_neg (by omega)]
  | x :: B, A, n, h => by
    have hlen : l.length = A.length + 1 + B.length := by rw [← h]; simp; omega
    have hx : rd_T57 l (A.length : Int) = x := by rw [← h]; exact rd_app57 A x B
    have ih := fun m => str_loop l hl v a b B (A ++ [x]) m (by rw [← h]; simp)
    have e1 : (A ++ [x]).getLast?.map (·.f1) = some x.f1 := by simp
    rw [e1] at ih
    have e2 : ((A ++ [x]).length : Int) = (A.length : Int) + 1 := by simp
    have e3 : (x.f1.f0 == v.f0 && (x.f1.f1 == v.f1)) = isV v x.f1 := rfl
    by_cases hA : A = []
    · subst hA
      have g := ih (if isV v x.f1 = true ∧ a ≤ x.f0 ∧ x.f0 < b ∧ (∀ q, (none : Option S45) = some q → isV v q = false) then wrap64 (n + 1) else n)
      refine evs (fun k => ?_) g
      simp only [stats_Starts.l0]
      rw [if_pos (by omega), if_pos (by omega), if_pos (by omega), hx, e3, e2]
      rw [w64s (x := ((([] : List S57).length : Nat) : Int) + 1) (by simp) (by simp)]
      by_cases h3 : isV v x.f1 = true
      · rw [if_pos h3]
        by_cases h1 : x.f0 ≥ a
        · rw [if_pos h1]
          by_cases h2 : x.f0 < b
          · rw [if_pos h2, if_pos (by simp), if_pos ⟨h3, h1, h2, fun q hq => by cases hq⟩]
          · rw [if_neg h2, if_neg (fun hh => h2 hh.2.2.1)]
        · rw [if_neg h1, if_neg (fun hh => h1 hh.2.1)]
      · rw [if_neg h3, if_neg (fun hh => h3 hh.1)]
    · obtain ⟨A', y, rfl⟩ : ∃ A' y, A = A' ++ [y] := ⟨A.dropLast, A.getLast hA, (List.dropLast_concat_getLast hA).symm⟩
      have hy : rd_T57 l (A'.length : Int) = y := by rw [← h]; exact last_of A' y (x :: B)
      have e4 : (((A' ++ [y]).length : Nat) : Int) = (A'.length : Int) + 1 := by simp
      have e5 : (A' ++ [y]).getLast?.map (·.f1) = some y.f1 := by simp
      rw [e5]
      have g := ih (if isV v x.f1 = true ∧ a ≤ x.f0 ∧ x.f0 < b ∧ (∀ q, (some y.f1 : Option S45) = some q → isV v q = false) then wrap64 (n + 1) else n)
      refine evs (fun k => ?_) g
      simp only [stats_Starts.l0]
      rw [if_pos (by omega), if_pos (by omega), if_pos (by omega), hx, e3, w64s (x := (((A' ++ [y]).length : Nat) : Int) + 1) (by omega) (by omega), e2, e4, w64s (x := (A'.length : Int) + 1 - 1) (by omega) (by omega), show (A'.length : Int) + 1 - 1 = A'.length by omega, hy, not_isV]
      by_cases h3 : isV v x.f1 = true
      · rw [if_pos h3]
        by_cases h1 : x.f0 ≥ a
        · rw [if_pos h1]
          by_cases h2 : x.f0 < b
          · rw [if_pos h2, if_neg (by omega), if_pos (by omega), if_pos (by rw [List.length_append, List.length_singleton] at hlen; omega)]
            by_cases h4 : isV v y.f1 = true
            · rw [if_neg (by simp [h4]), if_neg (fun hh => by have := hh.2.2.2 _ rfl; rw [h4] at this; cases this)]
            · have h4' : isV v y.f1 = false := by simpa using h4
              rw [if_pos (by simp [h4']), if_pos ⟨h3, h1, h2, fun q hq => by cases hq; exact h4'⟩]
          · rw [if_neg h2, if_neg (fun hh => h2 hh.2.2.1)]
        · rw [if_neg h1, if_neg (fun hh => h1 hh.2.1)]
      · rw [if_neg h3, if_neg (fun hh => h3 hh.1)]
theorem str_ev {l : List S57} (hl : l.length ≤ 100) (v : S45) (a b : Int) : Ev (fun k => stats_Starts.f k l v.f0 v.f1 a b) (if abt l v a b = 0 then (strF v a b none 0 l, 0) else (0, abt l v a b)) := by
  refine Ev.congr (fun k => rfl) (Ev.bind (abt_ev l hl v a b) ?_)
  by_cases h : abt l v a b = 0
  · simp only [h, if_true]
    exact str_loop l (by omega) v a b l [] 0 rfl
  · simp only [h, if_false]
    exact Ev.now _
end Go.Proofs.Ytnfcbhoaebcndaa.Pure
