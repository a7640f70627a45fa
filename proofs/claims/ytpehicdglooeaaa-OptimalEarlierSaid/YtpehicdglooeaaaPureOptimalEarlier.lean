-- The earlier the plant is switched on, the further are all temperatures of the curve.
import Derived.Test.YtpehicdglooeaaaO2
import Derived.Test.YtpehicdglooeaaaPTx36
namespace Go.Proofs.Ytpehicdglooeaaa.Pure
open Go.RowKit Go.Proofs.Ytpehicdglooeaaa.PT Go.Proofs.Ytpehicdglooeaaa.M Go.Proofs.YtpehicdglooeaaaW.PrintWords Go.Proofs.YtpehicdglooeaaaW.PrintLast Go.Proofs.YtpehicdglooeaaaW.PrintMore
set_option linter.unusedVariables false
theorem earl_end {z0 z1 t0 t1 t2 t3 tg : Int} (t4 : Bool) {out : List Int} (hl : out.length ≤ 40) (h : tE z0 z1 t0 t1 t2 t3 out = 0) (a b : List Int) (i : Int) (hi : ¬ i < a.length) : Ev (fun k => plenumlaw36_OptimalEarlier.l0 k out tg a b i z0 z1 t0 t1 t2 t3 t4) true := by
  have jt : ∀ x y z, Ev (fun k => plenumlaw36_OptimalEarlier.j3 k x y z true) true := fun x y z => by
    refine evu ?_
    simp only [plenumlaw36_OptimalEarlier.j3, if_true, awk, Option.bind_some]
    exact Ev.now _
  obtain ⟨r, r0, r1, r2, r3, r4⟩ := Start_ev t4 (by omega) h
  refine evu ?_
  simp only [plenumlaw36_OptimalEarlier.l0]
  refine evn hi (Ev.bind r4 ?_)
  have T := tE_zero h
  have hk := T.k
  unfold tskB at hk
  by_cases h' : tE z0 z1 t0 tg t2 t3 out = 0
  · obtain ⟨s, s0, s1, s2, s3, s4⟩ := Start_ev t4 (by omega) h'
    refine Ev.bind s4 ?_
    rw [reached_f]
    simp only [Option.bind_some]
    by_cases c : bey t4 tg t1 = true
    · refine evp c ?_
      by_cases hs : s = 0
      · simp only [if_pos hs]
        exact jt _ _ _
      · simp only [if_neg hs]
        refine evu ?_
        simp only [plenumlaw36_OptimalEarlier.j3, awk, Option.bind_some, if_true]
        refine evn (by simp) ?_
        have hsr : s ≤ r := by
          refine Int.not_lt.1 (fun hc => ?_)
          have q1 := s2 (s - 1) (by omega) (by omega)
          have q2 := r3 (s - 1) (by omega) (by omega)
          have q3 : qS z0 z1 t0 t1 t2 t4 out (s - 1) = true := bey_trans q1 c
          rw [q2] at q3
          cases q3
        have hr : r ≠ 0 := by omega
        simp only [if_neg hr]
        refine evp (by trivial) ?_
        rw [decide_eq_true (show t2 + s - 1 ≤ t2 + r - 1 by omega)]
        exact Ev.now _
    · exact evn c (jt _ _ _)
  · refine Ev.bind (Start_err t4 (by omega) h') ?_
    rw [reached_f]
    simp only [Option.bind_some]
    by_cases c : bey t4 tg t1 = true
    · refine evp c ?_
      rw [bne_iff_ne.2 h']
      exact jt _ _ _
    · exact evn c (jt _ _ _)
theorem earl_loop {z0 z1 t0 t1 t2 t3 tg : Int} (t4 : Bool) {out : List Int} (hl : out.length ≤ 40) (h : tE z0 z1 t0 t1 t2 t3 out = 0) (a b : List Int) (ha : a.length ≤ 100) (hab : a.length = b.length) (hb : ∀ i : Nat, bey t4 (a.getD i 0) (b.getD i 0) = true) :
    ∀ (n : Nat) (i : Nat), a.length - i = n → Ev (fun k => plenumlaw36_OptimalEarlier.l0 k out tg a b (i : Int) z0 z1 t0 t1 t2 t3 t4) true
  | 0, i, hn => earl_end t4 hl h a b i (by omega)
  | n + 1, i, hn => by
    have ih := earl_loop (tg := tg) t4 hl h a b ha hab hb n (i + 1) (by omega)
    refine evu ?_
    simp only [plenumlaw36_OptimalEarlier.l0]
    have e : bey t4 (rd a (i : Int)) (rd b (i : Int)) = true := hb i
    rw [reached_f, e, w64 (x := (i : Int) + 1) (by omega) (by omega)]
    refine evp (by omega) (evp (by omega) (evp (by omega) ?_))
    simp only [Option.bind_some, if_true]
    exact ih
theorem OptimalEarlier : plenumlaw36_OptimalEarlier.Pure := by
  intro z0 z1 t0 t1 t2 t3 t4 out on la tg _ _ _ _ w2 w3 _ _ _ _ _ _
  have b2 := wfb w2
  have b3 := wfb w3
  refine Ev.rounds ?_
  have jt : Ev (fun k => plenumlaw36_OptimalEarlier.j0 k out on la tg true z0 z1 t0 t1 t2 t3 t4) true := by
    refine evu ?_
    simp only [plenumlaw36_OptimalEarlier.j0, if_true, awk, Option.bind_some]
    exact Ev.now _
  unfold plenumlaw36_OptimalEarlier.f plenumlaw36_few.f
  simp only [Option.bind_some]
  by_cases hl : (out.length : Int) ≤ 40
  · rw [decide_eq_true hl]
    simp only [if_true]
    by_cases c0 : on > la
    · rw [decide_eq_true c0]; exact jt
    · rw [decide_eq_false c0]
      refine evu ?_
      simp only [plenumlaw36_OptimalEarlier.j0]
      refine evn (by simp) (Ev.bind (Curve_ev t4 (by omega) b2.1 b3.2) (Ev.bind (Curve_ev t4 (by omega) b2.1 b3.2) ?_))
      have bad : ∀ (x : List Int) (e1 : Int) (y : List Int) (e2 : Int), (e1 ≠ 0 ∨ e2 ≠ 0) → Ev (fun k => plenumlaw36_OptimalEarlier.j1 k out tg x e1 y e2 true z0 z1 t0 t1 t2 t3 t4) true := fun x e1 y e2 he => by
        refine evu ?_
        simp only [plenumlaw36_OptimalEarlier.j1, if_true, awk, Option.bind_some]
        by_cases g : e1 = 0
        · refine evp g ?_
          rw [bne_iff_ne.2 (he.resolve_left (fun hh => hh g))]
          exact Ev.now _
        · exact evn g (Ev.now _)
      by_cases h : tE z0 z1 t0 t1 t2 t3 out = 0
      · have T := tE_zero h
        simp only [if_pos h]
        by_cases c1 : on < t2 ∨ on > t3
        · simp only [if_pos c1]
          refine evn (by decide) (bad _ _ _ _ (.inl (by decide)))
        · simp only [if_neg c1]
          refine evp (by trivial) ?_
          by_cases c2 : la < t2 ∨ la > t3
          · simp only [if_pos c2]
            refine evn (by decide) (bad _ _ _ _ (.inr (by decide)))
          · simp only [if_neg c2]
            refine evp (by trivial) ?_
            rw [cl_length, cl_length, bne_self_eq_false]
            refine evu ?_
            simp only [plenumlaw36_OptimalEarlier.j1]
            refine evn (by simp) ?_
            exact earl_loop t4 (by omega) h _ _ (by rw [cl_length]; omega) (by rw [cl_length, cl_length]) (fun i => cl_bey T.z t4 (by omega) out t2 t0 i) _ 0 rfl
      · simp only [if_neg h]
        exact bad _ _ _ _ (.inl h)
  · rw [decide_eq_false hl]
    exact evn (by simp) jt
end Go.Proofs.Ytpehicdglooeaaa.Pure
