-- A sample that repeats the value before it changes nothing.
import Derived.Test.YtnfcbhoaebcndaaIns
import Derived.Test.YtnfcbhoaebcndaaPTx39
namespace Go.Proofs.Ytnfcbhoaebcndaa.Pure
open Go.RowKit Go.Proofs.Ytnfcbhoaebcndaa.PT Go.Proofs.YtnfcbhoaebcndaaW.PrintWords Go.Proofs.YtnfcbhoaebcndaaW.PrintLast Go.Proofs.YtnfcbhoaebcndaaW.PrintMore
set_option linter.unusedVariables false
theorem jt2 (l : List S57) (t a b e : Int) (more : List S57) (put : Bool) (i : Int) (v w : S45) : Ev (fun k => plenumlaw44_StatsRepeats.j2 k l t a b e more put i true v.f0 v.f1 w.f0 w.f1) true := by
  refine evu ?_
  simp only [plenumlaw44_StatsRepeats.j2, if_true, awk, Option.bind_some]
  exact Ev.now _
theorem rep_put (l : List S57) (hl : l.length ≤ 60) (t a b e : Int) (v w : S45) : ∀ (B A more : List S57), A ++ B = l → more.length ≤ A.length + 1 → ((∀ y ∈ B, y.f0 ≠ t) → Ev (fun k => plenumlaw44_StatsRepeats.j3 k l a b e (more ++ B) v.f0 v.f1) true) →
    Ev (fun k => plenumlaw44_StatsRepeats.l0 k l t a b e more true (A.length : Int) v.f0 v.f1 w.f0 w.f1) true
  | [], A, more, h, hm, g => by
    have hA : A = l := by simpa using h
    subst hA
    have g := g (by simp)
    rw [List.append_nil] at g
    refine evu ?_
    simp only [plenumlaw44_StatsRepeats.l0]
    exact evn (by omega) (evp (by simp) g)
  | x :: B, A, more, h, hm, g => by
    have hlen : l.length = A.length + 1 + B.length := by rw [← h]; simp; omega
    have hx : rd_T57 l (A.length : Int) = x := by rw [← h]; exact rd_app57 A x B
    have e2 : ((A ++ [x]).length : Int) = (A.length : Int) + 1 := by simp
    have ih := rep_put l hl t a b e v w B (A ++ [x]) (more ++ [x]) (by rw [← h]; simp) (by simp; omega)
    rw [e2] at ih
    refine evu ?_
    simp only [plenumlaw44_StatsRepeats.l0]
    refine evp (by omega) (evp (by omega) ?_)
    rw [hx]
    by_cases c : x.f0 = t
    · exact evp c (jt2 l t a b e more true _ v w)
    · refine evn c (evp (by omega) ?_)
      by_cases d : (rd_T57 l 0).f0 > t
      · rw [decide_eq_true d]
        exact jt2 l t a b e more true _ v w
      · rw [decide_eq_false d]
        have ih := ih (fun hB => by
          have := g (fun y hy => by
            cases List.mem_cons.1 hy with
            | inl e => rw [e]; exact c
            | inr e => exact hB y e)
          rw [List.append_assoc]; exact this)
        refine evu ?_
        simp only [plenumlaw44_StatsRepeats.j2]
        refine evn (by simp) (evp (by omega) (evp (by omega) ?_))
        rw [hx, w64s (by omega) (by omega)]
        by_cases f : x.f0 > t
        · exact evp f (evp (by simp) (evp (by omega) ih))
        · exact evn f (evp (by omega) ih)
theorem rep_not (l : List S57) (hl : l.length ≤ 60) (t a b e : Int) (v w : S45) : ∀ (B A : List S57), A ++ B = l → ((∀ y ∈ B, y.f0 ≠ t) → Ev (fun k => plenumlaw44_StatsRepeats.j3 k l a b e (A ++ ins t w B) v.f0 v.f1) true) →
    Ev (fun k => plenumlaw44_StatsRepeats.l0 k l t a b e A false (A.length : Int) v.f0 v.f1 w.f0 w.f1) true
  | [], A, h, g => by
    have hA : A = l := by simpa using h
    subst hA
    have g := g (by simp)
    refine evu ?_
    simp only [plenumlaw44_StatsRepeats.l0]
    exact evn (by omega) (evn (by simp) (evp (by omega) g))
  | x :: B, A, h, g => by
    have hlen : l.length = A.length + 1 + B.length := by rw [← h]; simp; omega
    have hx : rd_T57 l (A.length : Int) = x := by rw [← h]; exact rd_app57 A x B
    have e2 : ((A ++ [x]).length : Int) = (A.length : Int) + 1 := by simp
    refine evu ?_
    simp only [plenumlaw44_StatsRepeats.l0]
    refine evp (by omega) (evp (by omega) ?_)
    rw [hx]
    by_cases c : x.f0 = t
    · exact evp c (jt2 l t a b e A false _ v w)
    · refine evn c (evp (by omega) ?_)
      by_cases d : (rd_T57 l 0).f0 > t
      · rw [decide_eq_true d]
        exact jt2 l t a b e A false _ v w
      · rw [decide_eq_false d]
        have g' : (∀ y ∈ B, y.f0 ≠ t) → Ev (fun k => plenumlaw44_StatsRepeats.j3 k l a b e (A ++ ins t w (x :: B)) v.f0 v.f1) true := fun hB => g (fun y hy => by
          cases List.mem_cons.1 hy with
          | inl e => rw [e]; exact c
          | inr e => exact hB y e)
        refine evu ?_
        simp only [plenumlaw44_StatsRepeats.j2]
        refine evn (by simp) (evp (by omega) (evp (by omega) ?_))
        rw [hx, w64s (by omega) (by omega)]
        by_cases f : x.f0 > t
        · have ei : ins t w (x :: B) = ⟨t, w⟩ :: x :: B := if_pos f
          rw [ei] at g'
          have ih := rep_put l hl t a b e v w B (A ++ [x]) (A ++ [⟨t, w⟩] ++ [x]) (by rw [← h]; simp) (by simp) (fun hB => by
            have := g' hB
            rw [List.append_assoc, List.append_assoc]; exact this)
          rw [e2] at ih
          refine evp f (evn (by simp) (evp (by omega) ?_))
          simp only [Option.bind_some]
          exact evp (by simp; omega) ih
        · have ei : ins t w (x :: B) = x :: ins t w B := if_neg f
          rw [ei] at g'
          have ih := rep_not l hl t a b e v w B (A ++ [x]) (by rw [← h]; simp) (fun hB => by
            have := g' hB
            rw [List.append_assoc]; exact this)
          rw [e2] at ih
          exact evn f (evp (by omega) ih)
theorem rep_end {l : List S57} (hl : l.length ≤ 60) (h : chk l = 0) {t a b : Int} (v : S45) (hv : okV v = true) (hs : spn a b = 0) (ht : okAt t = true) (hn : ∀ y ∈ l, y.f0 ≠ t) (hh : ∀ x, l.head? = some x → x.f0 ≤ t) :
    Ev (fun k => plenumlaw44_StatsRepeats.j3 k l a b 0 (ins t (atF t ⟨0, 0⟩ l) l) v.f0 v.f1) true := by
  obtain ⟨a0, a1, a2, a3⟩ := spn_zero hs
  have hc := chk_ins h ht (atF_ok t l ⟨0, 0⟩ (by decide) (chk_zero h).2.2) hn hh
  have hL : (ins t (atF t ⟨0, 0⟩ l) l).length ≤ 61 := by rw [ins_length]; omega
  generalize hM : ins t (atF t ⟨0, 0⟩ l) l = M at hc hL
  have f1 : fst_ l a b = 0 := by unfold fst_; rw [if_pos h, hs]
  have f2 : fst_ M a b = 0 := by unfold fst_; rw [if_pos hc, hs]
  have g1 : abt l v a b = 0 := by unfold abt; rw [if_pos h, if_pos hv, hs]
  have g2 : abt M v a b = 0 := by unfold abt; rw [if_pos hc, if_pos hv, hs]
  have eP : ∀ w, ws w (P M a b) = ws w (P l a b) := fun w => by
    rw [P_pz l a0 a1 (by omega), P_pz M a0 a1 (by omega), ← hM, pz_ins w b t l ⟨0, 0⟩ a 0 (asc0 h)]
  have q1 : sumOf (P M a b) = sumOf (P l a b) := by rw [sum_ws, sum_ws, eP, eP]
  have q2 : cntOf (same v) (P M a b) = cntOf (same v) (P l a b) := by rw [cnt_ws, cnt_ws, eP]
  refine evu ?_
  simp only [plenumlaw44_StatsRepeats.j3]
  rw [awk]
  refine Ev.bind (integral_ev (by omega) a b) (Ev.bind (integral_ev (by omega) a b) (Ev.bind (seconds_ev (by omega) v a b) (Ev.bind (seconds_ev (by omega) v a b) (Ev.bind (str_ev (by omega) v a b) (Ev.bind (str_ev (by omega) v a b) ?_)))))
  simp only [if_pos f1, if_pos f2, if_pos g1, if_pos g2, if_true, Option.bind_some, q1, q2]
  cases l with
  | nil => 
    by_cases c : strF v a b none 0 [] = strF v a b none 0 M
    · exact evp c (Ev.now _)
    · exact evn c (Ev.now _)
  | cons x l =>
    refine evp ?_ (Ev.now _)
    rw [str0, str0, ← hM]
    have hx := hh x rfl
    have e1 : atF t ⟨0, 0⟩ (x :: l) = atF t x.f1 l := if_pos hx
    have e2 : ∀ u, ins t u (x :: l) = x :: ins t u l := fun u => if_neg (by omega)
    rw [e1, e2]
    unfold cs
    obtain ⟨_, _, h3⟩ := asc0 h
    rw [cs_ins v a b t l x.f1 x.f0 h3]
theorem StatsRepeats : plenumlaw44_StatsRepeats.Pure := by
  intro l t v0 v1 a b _ _ _ _ _ _ _ _
  refine Ev.rounds ?_
  have jt : Ev (fun k => plenumlaw44_StatsRepeats.j0 k l t a b true v0 v1) true := by
    refine evu ?_
    simp only [plenumlaw44_StatsRepeats.j0, if_true, awk, Option.bind_some]
    exact Ev.now _
  unfold plenumlaw44_StatsRepeats.f
  rw [rvalid_of ⟨v0, v1⟩]
  simp only [Option.bind_some]
  by_cases hl : (l.length : Int) > 60
  · exact evp hl jt
  · refine evn hl ?_
    by_cases hv : okV ⟨v0, v1⟩ = true
    · refine evp hv (Ev.bind (rfst l (by omega) a b) ?_)
      by_cases h : fst_ l a b = 0
      · refine evp h ?_
        obtain ⟨h0, h3⟩ := fst_zero h
        by_cases c1 : t < 0
        · exact evp c1 jt
        · refine evn c1 ?_
          by_cases c2 : t > 6311433599
          · rw [decide_eq_true c2]; exact jt
          · rw [decide_eq_false c2]
            have ht : okAt t = true := by unfold okAt; simp; omega
            refine evu ?_
            simp only [plenumlaw44_StatsRepeats.j0]
            refine evn (by simp) (Ev.bind (at_ev (by omega) t) ?_)
            have er : atR l t = ((atF t ⟨0, 0⟩ l).f0, (atF t ⟨0, 0⟩ l).f1, 0) := by unfold atR; rw [if_pos h0, if_pos ht]
            rw [er]
            by_cases hh : ∀ x, l.head? = some x → x.f0 ≤ t
            · exact rep_not l (by omega) t a b 0 ⟨v0, v1⟩ (atF t ⟨0, 0⟩ l) l [] rfl (fun hn => rep_end (by omega) h0 ⟨v0, v1⟩ hv h3 ht hn hh)
            · cases l with
              | nil => exact absurd (fun x hx => by cases hx) hh
              | cons x l =>
                have hx : x.f0 > t := by
                  refine Int.not_le.1 (fun hc => hh (fun y hy => ?_))
                  simp only [List.head?_cons, Option.some.injEq] at hy
                  rw [← hy]; exact hc
                have hr : rd_T57 (x :: l) 0 = x := rfl
                refine evu ?_
                simp only [plenumlaw44_StatsRepeats.l0]
                rw [hr, decide_eq_true hx]
                refine evp (by simp <;> omega) (evp (by omega) (evn (by omega) (evp (by simp <;> omega) ?_)))
                exact jt2 _ t a b 0 [] false 0 ⟨v0, v1⟩ (atF t ⟨0, 0⟩ (x :: l))
      · exact evn h jt
    · exact evn hv jt
end Go.Proofs.Ytnfcbhoaebcndaa.Pure
