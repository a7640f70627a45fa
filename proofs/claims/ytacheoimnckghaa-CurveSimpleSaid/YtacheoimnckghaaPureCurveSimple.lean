-- Simplify changes no value; its knots are knots of the curve; simplifying again changes nothing.
import Derived.Test.YtacheoimnckghaaSimp
import Derived.Test.YtacheoimnckghaaPTx32
namespace Go.Proofs.Ytacheoimnckghaa.Pure
open Go.RowKit Go.Proofs.Ytacheoimnckghaa.PT Go.Proofs.YtacheoimnckghaaW.PrintWords Go.Proofs.YtacheoimnckghaaW.PrintLast
theorem kn_drop {c : List S50} {i : Nat} (h : i < c.length) : c.drop i = kn c i :: c.drop (i + 1) := by
  rw [List.drop_eq_getElem_cons h]
  congr 1
  simp [kn, h]
theorem sub_ne {a b : S50} {l m : List S50} (h : (a :: l).Sublist (b :: m)) (hne : ¬ b = a) : (a :: l).Sublist m := by
  cases h with
  | cons _ h' => exact h'
  | cons_cons _ _ => exact absurd rfl hne
theorem sub_loop (c s t : List S50) (x9 x13 : Int) (hc : c.length ≤ 1000) (hs : s.length ≤ 1000) (hpos : 0 < s.length) (hsame : Ev (fun k => plenumref03_Same.f k s t) true) :
    Ev (fun k => plenumlaw03_CurveSimple.l0 k c s t 0 x9 0 x9 0 x13 x13 0 0) true ∨ ¬ s.Sublist c := by
  have fin : ∀ a i : Nat, ¬ i < s.length → Ev (fun k => plenumlaw03_CurveSimple.l0 k c s t 0 x9 0 x9 0 x13 x13 (a : Int) (i : Int)) true := fun a i h => by
    refine evs (f := fun k => (plenumref03_Same.f k s t).bind fun b => if b = true then some (decide ((s.length : Int) > 0)) else some false) (fun k => ?_) (Ev.bind hsame ?_)
    · simp only [plenumlaw03_CurveSimple.l0]
      rw [if_neg (by omega)]
      simp only [if_true]
    · simp only [if_true, decide_eq_true (show (s.length : Int) > 0 by omega)]
      exact Ev.now _
  have on0 : ∀ a i : Nat, (i < s.length → Ev (fun k => plenumlaw03_CurveSimple.l1 k c s t 0 x9 0 x9 0 x13 x13 (a : Int) (i : Int)) true) → Ev (fun k => plenumlaw03_CurveSimple.l0 k c s t 0 x9 0 x9 0 x13 x13 (a : Int) (i : Int)) true := fun a i h => by
    by_cases hi : i < s.length
    · refine evs (fun k => ?_) (h hi)
      simp only [plenumlaw03_CurveSimple.l0]
      rw [if_pos (by omega)]
    · exact fin a i hi
  have key : ∀ (n a i : Nat), (s.length - i) + (c.length - a) ≤ n → i < s.length → (s.drop i).Sublist (c.drop a) → Ev (fun k => plenumlaw03_CurveSimple.l1 k c s t 0 x9 0 x9 0 x13 x13 (a : Int) (i : Int)) true := by
    intro n
    induction n with
    | zero => intro a i hn hi hsub; omega
    | succ n ih =>
      intro a i hn h hsub
      have ha : a < c.length := by
        rcases Nat.lt_or_ge a c.length with h' | h'
        · exact h'
        · rw [List.drop_eq_nil_of_le h', kn_drop h] at hsub
          cases hsub
      rw [kn_drop h, kn_drop ha] at hsub
      by_cases he : kn c a = kn s i
      · have hsub' : (s.drop (i + 1)).Sublist (c.drop a) := by
          rw [kn_drop ha]
          exact (List.sublist_cons_self _ _).trans hsub
        refine evs (fun k => ?_) (on0 a (i + 1) (fun hi => ih a (i + 1) (by omega) hi hsub'))
        simp only [plenumlaw03_CurveSimple.l1]
        rw [if_pos (by omega), if_pos (by omega), if_pos (by omega), if_pos (by omega), rd_kn, rd_kn, he, w64s (x := (i : Int) + 1) (by omega) (by omega)]
        rw [if_neg (by simp), if_neg (by omega)]
        rfl
      · have hsub' : (s.drop i).Sublist (c.drop (a + 1)) := by
          rw [kn_drop h]
          exact sub_ne hsub he
        refine evs (fun k => ?_) (ih (a + 1) i (by omega) h hsub')
        simp only [plenumlaw03_CurveSimple.l1]
        rw [if_pos (by omega), if_pos (by omega), if_pos (by omega), if_pos (by omega), rd_kn, rd_kn, w64s (x := (a : Int) + 1) (by omega) (by omega)]
        have hne : (!((kn c a).f0 == (kn s i).f0) || (!((kn c a).f1 == (kn s i).f1))) = true := by
          by_cases h0 : (kn c a).f0 = (kn s i).f0
          · have h1 : ¬ (kn c a).f1 = (kn s i).f1 := fun h1 => he (s50_ext h0 h1)
            simp [h1]
          · simp [h0]
        rw [if_pos hne]
        rfl
  by_cases hsub : s.Sublist c
  · exact .inl (on0 0 0 (fun hi => key _ 0 0 (Nat.le_refl _) hi (by simpa using hsub)))
  · exact .inr hsub
theorem CurveSimple : plenumlaw03_CurveSimple.Pure := by
  intro c x _ _ _ _
  refine Ev.rounds ?_
  unfold plenumlaw03_CurveSimple.f plenumlaw03_awake.f
  simp only [Option.bind_some, if_true]
  by_cases g : Good c
  · obtain ⟨s, hs, hl⟩ := simplify_good g
    have gs := hl.good
    have hle := g.le
    have hle2 := gs.le
    refine Ev.bind hs ?_
    simp only [if_true]
    refine Ev.bind (simp_f gs s (simp_still gs hl.none s.length 0 (by omega))) (Ev.bind (eval_good g x) (Ev.bind (eval_good gs x) (Ev.bind (dirn_good g) (Ev.bind (dirn_good gs) ?_))))
    rw [hl.val, hl.dir]
    exact (sub_loop c s s _ _ (by omega) (by omega) gs.pos (same_refl s (by omega))).resolve_right (fun h => h hl.sub)
  · refine Ev.bind (simplify_bad g) ?_
    simp only [chk_ne g, if_false]
    exact Ev.now _
end Go.Proofs.Ytacheoimnckghaa.Pure
