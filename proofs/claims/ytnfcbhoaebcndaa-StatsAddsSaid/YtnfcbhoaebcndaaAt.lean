-- The value at an instant.
import Derived.Test.YtnfcbhoaebcndaaSpE
import Derived.Test.YtnfcbhoaebcndaaPTx36
import Derived.Test.YtnfcbhoaebcndaaPTx37
namespace Go.Proofs.Ytnfcbhoaebcndaa.Pure
open Go.RowKit Go.Proofs.Ytnfcbhoaebcndaa.PT Go.Proofs.YtnfcbhoaebcndaaW.PrintWords Go.Proofs.YtnfcbhoaebcndaaW.PrintLast Go.Proofs.YtnfcbhoaebcndaaW.PrintMore
set_option linter.unusedVariables false
set_option linter.unusedSimpArgs false
def atF (a : Int) : S45 → List S57 → S45
  | v, [] => v
  | v, x :: l => if x.f0 ≤ a then atF a x.f1 l else atF a v l
def atR (l : List S57) (a : Int) : Int × Int × Int := if chk l = 0 then (if okAt a = true then ((atF a ⟨0, 0⟩ l).f0, (atF a ⟨0, 0⟩ l).f1, 0) else (0, 0, 1)) else (0, 0, chk l)
theorem at_loop (l : List S57) (hl : l.length ≤ 200) (a : Int) : ∀ (B A : List S57) (v : S45), A ++ B = l → Ev (fun k => stats_At.l0 k a l (l.length : Int) (A.length : Int) v.f0 v.f1) ((atF a v B).f0, (atF a v B).f1, 0)
  | [], A, v, h => by
    have hA : A = l := by simpa using h
    subst hA
    refine evs (f := fun k => some (v.f0, v.f1, 0)) (fun k => ?_) (Ev.now _)
    simp only [stats_At.l0]
    rw [if_neg (by omega)]
  | x :: B, A, v, h => by
    have hlen : l.length = A.length + 1 + B.length := by rw [← h]; simp; omega
    have hx : rd_T57 l (A.length : Int) = x := by rw [← h]; exact rd_app57 A x B
    have ih := fun m => at_loop l hl a B (A ++ [x]) m (by rw [← h]; simp)
    have e2 : ((A ++ [x]).length : Int) = (A.length : Int) + 1 := by simp
    rw [e2] at ih
    by_cases c : x.f0 ≤ a
    · have g := ih x.f1
      rw [show atF a x.f1 B = atF a v (x :: B) from (if_pos c).symm] at g
      refine evs (fun k => ?_) g
      simp only [stats_At.l0]
      rw [if_pos (by omega), if_pos (by omega), if_pos (by omega), hx, if_pos c, w64s (by omega) (by omega)]
    · have g := ih v
      rw [show atF a v B = atF a v (x :: B) from (if_neg c).symm] at g
      refine evs (fun k => ?_) g
      simp only [stats_At.l0]
      rw [if_pos (by omega), if_pos (by omega), if_pos (by omega), hx, if_neg c, w64s (by omega) (by omega)]
theorem at_ev {l : List S57} (hl : l.length ≤ 100) (a : Int) : Ev (fun k => stats_At.f k l a) (atR l a) := by
  refine Ev.congr (fun k => rfl) (Ev.bind (pchk l hl) ?_)
  unfold atR
  rw [inst_of]
  simp only [Option.bind_some]
  by_cases h : chk l = 0
  · rw [if_pos h]
    refine evp h ?_
    by_cases g : okAt a = true
    · rw [if_pos g]
      exact evp g (at_loop l (by omega) a l [] ⟨0, 0⟩ rfl)
    · rw [if_neg g]
      exact evn g (Ev.now _)
  · rw [if_neg h]
    exact evn h (Ev.now _)
theorem atF_asc (a : Int) : ∀ (l : List S57) (b : Int) (v : S45), Asc b l → a < b → atF a v l = v
  | [], _, _, _, _ => rfl
  | x :: l, b, v, h, hb => by
    obtain ⟨h1, h2, h3⟩ := h
    unfold atF
    rw [if_neg (by omega)]
    exact atF_asc a l x.f0 v h3 (by omega)
theorem rat_loop (l : List S57) (hl : l.length ≤ 200) (a : Int) : ∀ (B A : List S57) (b : Int) (v : S45), A ++ B = l → Asc b B → Ev (fun k => plenumref44_At.l0 k l a (A.length : Int) v.f0 v.f1) ((atF a v B).f0, (atF a v B).f1)
  | [], A, b, v, h, _ => by
    have hA : A = l := by simpa using h
    subst hA
    refine evs (f := fun k => some (v.f0, v.f1)) (fun k => ?_) (Ev.now _)
    simp only [plenumref44_At.l0]
    rw [if_neg (by omega)]
  | x :: B, A, b, v, h, hs => by
    have hlen : l.length = A.length + 1 + B.length := by rw [← h]; simp; omega
    have hx : rd_T57 l (A.length : Int) = x := by rw [← h]; exact rd_app57 A x B
    obtain ⟨h1, h2, h3⟩ := hs
    have e2 : ((A ++ [x]).length : Int) = (A.length : Int) + 1 := by simp
    by_cases c : x.f0 ≤ a
    · have g := rat_loop l hl a B (A ++ [x]) x.f0 x.f1 (by rw [← h]; simp) h3
      rw [e2, show atF a x.f1 B = atF a v (x :: B) from (if_pos c).symm] at g
      refine evs (fun k => ?_) g
      simp only [plenumref44_At.l0]
      rw [if_pos (by omega), if_pos (by omega), hx, if_pos c, w64s (by omega) (by omega)]
    · have g : atF a v (x :: B) = v := (if_neg c).trans (atF_asc a B x.f0 v h3 (by omega))
      rw [g]
      refine evs (f := fun k => some (v.f0, v.f1)) (fun k => ?_) (Ev.now _)
      simp only [plenumref44_At.l0]
      rw [if_pos (by omega), if_pos (by omega), hx, if_neg c]
theorem rat_ev {l : List S57} (hl : l.length ≤ 100) (a : Int) (h : chk l = 0) : Ev (fun k => plenumref44_At.f k l a) ((atF a ⟨0, 0⟩ l).f0, (atF a ⟨0, 0⟩ l).f1) :=
  Ev.congr (fun k => rfl) (rat_loop l (by omega) a l [] 0 ⟨0, 0⟩ rfl (asc0 h))
end Go.Proofs.Ytnfcbhoaebcndaa.Pure
