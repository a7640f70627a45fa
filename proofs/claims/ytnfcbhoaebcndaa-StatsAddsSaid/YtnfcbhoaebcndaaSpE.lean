-- The mean of the reference.
import Derived.Test.YtnfcbhoaebcndaaSpD
import Derived.Test.YtnfcbhoaebcndaaPTx44
import Derived.Test.YtnfcbhoaebcndaaPTx43
import Derived.Test.YtnfcbhoaebcndaaPTx18
namespace Go.Proofs.Ytnfcbhoaebcndaa.Pure
open Go.RowKit Go.Proofs.Ytnfcbhoaebcndaa.PT Go.Proofs.YtnfcbhoaebcndaaW.PrintWords Go.Proofs.YtnfcbhoaebcndaaW.PrintLast Go.Proofs.YtnfcbhoaebcndaaW.PrintMore
set_option linter.unusedVariables false
set_option linter.unusedSimpArgs false

theorem evu {α : Type} {g : Nat → Option α} {r : α} (h : Ev (fun k => g (k + 1)) r) : Ev g r := Ev.step (fun _ => rfl) h
theorem wu (x : Int) : IntKind.u64.wrap x = x % 18446744073709551616 := by simp [IntKind.wrap, IntKind.bits, IntKind.signed]
theorem wu_id {x : Int} (h0 : 0 ≤ x) (h1 : x < 18446744073709551616) : IntKind.u64.wrap x = x := by rw [wu]; omega
theorem div0 (k : Nat) (x y : Int) (hy : 0 < y) : bits_Div64.f k 0 x y = some (IntKind.u64.wrap (Int.tdiv x y), Int.tmod x y) := by
  unfold bits_Div64.f
  rw [if_neg (by omega), if_neg (by omega), if_pos rfl]
theorem rmean_core {s n m : Int} (hn : 0 < n) (hn1 : n ≤ 8640000) (hm : 0 ≤ m) (hm1 : m ≤ 9000000000000000000) (hs : s < 0 ∧ s = -m ∨ 0 ≤ s ∧ s = m) : Ev (fun k => plenumref44_Mean.j0 k s n m) (dvd s n, true) := by
  refine evs (f := fun k => some (dvd s n, true)) (fun k => ?_) (Ev.now _)
  simp only [plenumref44_Mean.j0]
  rw [wu_id (x := n) (by omega) (by omega), div0 _ _ _ hn]
  simp only [Option.bind_some]
  have e := Int.mul_tdiv_add_tmod m n
  have hr := Int.tmod_lt_of_pos m hn
  have hr0 : 0 ≤ Int.tmod m n := Int.tmod_nonneg n hm
  have hq0 : 0 ≤ Int.tdiv m n := Int.tdiv_nonneg hm (by omega)
  have hq1 : Int.tdiv m n ≤ 9000000000000000000 := by
    have := Int.natAbs_tdiv_le_natAbs m n
    omega
  rw [wu_id (x := Int.tdiv m n) (by omega) (by omega), wu_id (x := 2 * Int.tmod m n) (by omega) (by omega), wu_id (x := Int.tdiv m n + 1) (by omega) (by omega), w64s (x := Int.tdiv m n + 1) (by omega) (by omega), w64s (x := Int.tdiv m n) (by omega) (by omega), w64s (x := -(Int.tdiv m n + 1)) (by omega) (by omega), w64s (x := -(Int.tdiv m n)) (by omega) (by omega), dvd_eq hn hn1 (by omega) (by omega)]
  rcases hs with ⟨c, rfl⟩ | ⟨c, rfl⟩
  · rw [Int.neg_tdiv, Int.neg_tmod, if_pos c, if_pos c]
    by_cases d : 2 * Int.tmod m n ≥ n
    · rw [if_pos d, if_neg (by omega), if_pos (by omega), show -(Int.tdiv m n + 1) = -(Int.tdiv m n) - 1 by omega]
    · rw [if_neg d, if_neg (by omega), if_neg (by omega)]
  · rw [if_neg (show ¬ s < 0 by omega), if_neg (show ¬ s < 0 by omega)]
    by_cases d : 2 * Int.tmod s n ≥ n
    · rw [if_pos d, if_pos (by omega)]
    · rw [if_neg d, if_neg (by omega), if_neg (by omega)]
theorem rmean_ev {l : List S57} (hl : l.length ≤ 60) (h : chk l = 0) {a b s n : Int} (h0 : 0 ≤ a) (hab : a < b) (hb : b ≤ 6311433600) (S : Span l a b s n) : Ev (fun k => plenumref44_Mean.f k l a b) (if n = 0 then (0, false) else (dvd s n, true)) := by
  have hi := rint_ev hl h h0 hab hb
  rw [S.eq] at hi
  have n0 := S.n0
  have n1 := S.n1
  have lo := S.lo
  have hI := S.hi
  refine Ev.congr (fun k => rfl) (Ev.bind hi ?_)
  dsimp only
  by_cases c : n = 0
  · rw [if_pos c]
    exact evp c (Ev.now _)
  · rw [if_neg c]
    refine evn c ?_
    by_cases d : s < 0
    · refine evp d ?_
      rw [w64s (x := -s) (by omega) (by omega), wu_id (x := -s) (by omega) (by omega)]
      exact rmean_core (by omega) n1 (by omega) (by omega) (.inl ⟨d, by omega⟩)
    · refine evn d ?_
      rw [wu_id (x := s) (by omega) (by omega)]
      exact rmean_core (by omega) n1 (by omega) (by omega) (.inr ⟨by omega, rfl⟩)
theorem fst_zero {l : List S57} {a b : Int} (h : fst_ l a b = 0) : chk l = 0 ∧ spn a b = 0 := by
  unfold fst_ at h
  by_cases c : chk l = 0
  · rw [if_pos c] at h; exact ⟨c, h⟩
  · rw [if_neg c] at h; exact absurd h c
theorem abt_zero {l : List S57} {v : S45} {a b : Int} (h : abt l v a b = 0) : chk l = 0 ∧ okV v = true ∧ spn a b = 0 := by
  unfold abt at h
  by_cases c : chk l = 0
  · rw [if_pos c] at h
    by_cases d : okV v = true
    · rw [if_pos d] at h; exact ⟨c, d, h⟩
    · rw [if_neg d] at h; omega
  · rw [if_neg c] at h; exact absurd h c
theorem awk : plenumlaw44_awake.f = some true := rfl
end Go.Proofs.Ytnfcbhoaebcndaa.Pure
