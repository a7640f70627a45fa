-- A moved curve has the moved values.
import Derived.Test.YtacheoimnckghaaShift
import Derived.Test.YtacheoimnckghaaPTx22
namespace Go.Proofs.Ytacheoimnckghaa.Pure
open Go.RowKit Go.Proofs.Ytacheoimnckghaa.PT Go.Proofs.YtacheoimnckghaaW.PrintWords Go.Proofs.YtacheoimnckghaaW.PrintLast
theorem shifts_true (c s : List S50) (dx dy x : Int) : Ev (fun k => plenumlaw03_CurveShifts.j0 k c dx dy x s true) true :=
  evs (f := fun k => some true) (fun k => by simp [plenumlaw03_CurveShifts.j0]) (Ev.now _)
theorem CurveShifts : plenumlaw03_CurveShifts.Pure := by
  intro c dx dy x _ _ _ _ _ _
  refine Ev.rounds ?_
  unfold plenumlaw03_CurveShifts.f plenumlaw03_awake.f
  simp only [Option.bind_some, if_true]
  by_cases g : Good c
  · refine Ev.bind (shift_good g dx dy) ?_
    by_cases hs : ∀ b ∈ c, okI (sh (cl dx) (cl dy) b)
    · rw [if_pos hs]
      simp only [if_true]
      obtain ⟨e1, e2, dx0, dx1, dy0, dy1⟩ := shift_small g hs
      rw [e1, e2] at hs ⊢
      by_cases hx0 : x < -1000000000000
      · simp only [hx0, if_true]
        exact shifts_true _ _ _ _ _
      · simp only [hx0, if_false]
        by_cases hx1 : x > 1000000000000
        · rw [decide_eq_true hx1]
          exact shifts_true _ _ _ _ _
        · rw [decide_eq_false hx1]
          have hle := g.le
          have gs := good_shift g hs
          have hok : ∀ b ∈ c, okI b := fun b hb => by
            obtain ⟨j, hj, rfl⟩ := List.getElem_of_mem hb
            have := g.ok j hj
            simpa [kn, hj] using this
          have wx : wrap64 (-dx) = -dx := w64s (by omega) (by omega)
          have wy : wrap64 (-dy) = -dy := w64s (by omega) (by omega)
          have cx : cl (-dx) = -dx := cl_small (by omega) (by omega)
          have cy : cl (-dy) = -dy := cl_small (by omega) (by omega)
          have back1 : ∀ b : S50, sh (-dx) (-dy) (sh dx dy b) = b := fun b => by
            apply s50_ext <;> simp only [sh] <;> omega
          have hback := shift_good gs (-dx) (-dy)
          rw [cx, cy, if_pos (by
            intro b hb
            obtain ⟨b', hb', rfl⟩ := List.mem_map.1 hb
            rw [back1]
            exact hok b' hb')] at hback
          have hid : (c.map (sh dx dy)).map (sh (-dx) (-dy)) = c := by
            rw [List.map_map]
            have : sh (-dx) (-dy) ∘ sh dx dy = id := funext back1
            rw [this, List.map_id]
          rw [hid] at hback
          have ht := shift_good g dx 0
          have h0ok : ∀ b ∈ c, okI (sh dx 0 b) := fun b hb => by
            obtain ⟨p0, p1, p2, p3⟩ := hs b hb
            obtain ⟨q0, q1, q2, q3⟩ := hok b hb
            refine ⟨p0, p1, ?_, ?_⟩ <;> simp only [sh] <;> omega
          rw [e1, show cl 0 = 0 by decide, if_pos h0ok] at ht
          have gt := good_shift g h0ok
          have wxx : wrap64 (x + dx) = x + dx := w64s (by omega) (by omega)
          refine evs (fun k => by simp only [plenumlaw03_CurveShifts.j0]; rw [if_neg (by decide), wx, wy]) (Ev.bind hback ?_)
          simp only [if_true]
          refine Ev.bind (same_refl c (by omega)) ?_
          refine evs (fun k => by simp only [plenumlaw03_CurveShifts.j1]; rw [if_neg (by decide)]) (Ev.bind ht ?_)
          simp only [if_true, wxx]
          refine Ev.bind (eval_good g x) (Ev.bind (eval_good gt (x + dx)) (Ev.bind (area_good g) (Ev.bind (area_good gt) (Ev.bind (dirn_good g) (Ev.bind (dirn_good gs) ?_)))))
          rw [V_shift, area_shift, dir_shift]
          have ha : (area c).2.2 = 0 := rfl
          simp only [ha, if_true, beq_self_eq_true]
          exact evs (f := fun k => some true) (fun k => rfl) (Ev.now _)
    · rw [if_neg hs]
      simp only [show ¬ ((6 : Int) = 0) by decide, if_false]
      exact shifts_true _ _ _ _ _
  · refine Ev.bind (shift_bad g dx dy) ?_
    simp only [chk_ne g, if_false]
    exact shifts_true _ _ _ _ _
end Go.Proofs.Ytacheoimnckghaa.Pure
