-- psychro.Saturation.
import Derived.Test.YtbfcplnaafnlhaaDoorLine
import Derived.Test.YtbfcplnaafnlhaaDoorPTx3
namespace Go.Proofs.YtbfcplnaafnlhaaDoor.PT
open Go.RowKit Go.Shelf Go.Proofs Go.Proofs.YtbfcplnaafnlhaaDoorW.PrintWords Go.Proofs.YtbfcplnaafnlhaaDoorW.PrintLast Go.Proofs.YtbfcplnaafnlhaaDoorW.PrintMore
attribute [local go_sem] Oper.semAt_some max2_int min2_int max_two min_two
set_option linter.unusedVariables false
set_option linter.unusedSimpArgs false
theorem limit_f (a lo hi : Int) : psychro_limit.f a lo hi = some (mx lo (mn hi a)) := rfl
def lim (lo hi a : Int) : Int := mx lo (mn hi a)
theorem lim_bd {lo hi a : Int} (h : lo ≤ hi) : lo ≤ lim lo hi a ∧ lim lo hi a ≤ hi := by unfold lim mx mn; split <;> split at * <;> omega
/-- The step of the table in which a temperature lies. -/
def stp (t : Int) : Int := (t + 20000) / 5000
def psychro_Saturation.f (k : Nat) (a0 : Int) : Option Int :=
  if lim (-100000) 200000 a0 ≤ -20000 then some 637 else if lim (-100000) 200000 a0 ≥ 60000 then some 153540 else
    fixed_Line.f k (lim (-100000) 200000 a0) (-20000 + 5000 * stp (lim (-100000) 200000 a0)) (rd tbl (stp (lim (-100000) 200000 a0))) (-20000 + 5000 * stp (lim (-100000) 200000 a0) + 5000) (rd tbl (stp (lim (-100000) 200000 a0) + 1))
theorem psychro_Saturation.mono : ∀ a0 k, LeO (psychro_Saturation.f k a0) (psychro_Saturation.f (k + 1) a0) := by
  intro a0 k
  unfold psychro_Saturation.f
  exact LeO.ite (fun _ h => h) (LeO.ite (fun _ h => h) (fixed_Line.mono _ _ _ _ _ _))
set_option maxRecDepth 100000 in
set_option maxHeartbeats 2000000 in
theorem sat_in (k : Nat) (a0 r : Int) (w : World) (hL : LaidT w) (h : psychro_Saturation.f k a0 = some r) :
    CallsIn Fence.wide 9 Tryd.prog 15 #[.int .i64 a0] w fun e w' => e = .returned (.int .i64 r) ∧ Below w.heap.size w w' := by
  have HB := Below.refl w.heap.size w
  obtain ⟨t, ht⟩ : ∃ t, lim (-100000) 200000 a0 = t := ⟨_, rfl⟩
  have hb := lim_bd (lo := -100000) (hi := 200000) (a := a0) (by omega)
  have hlf : psychro_limit.f a0 (-100000) 200000 = some t := by rw [limit_f, ← ht]; rfl
  unfold psychro_Saturation.f at h
  rw [ht] at h hb
  clear ht
  refine callsIn_of_wp Tryd.func15 rfl trivial ?_ rfl
  simp only [Tryd.ntmps15, List.size_toArray, List.length_cons, List.length_nil, Nat.reduceAdd, Nat.reduceSub, Array.replicate_succ, Array.replicate_zero, List.push_toArray, List.append_toArray, List.nil_append, List.cons_append]
  by_cases c1 : t ≤ -20000
  · rw [if_pos c1] at h
    cases h
    gi_wp2_with (first
      | (gi_at_call 29; refine ((callsIn_wide).2 (psychro_limit.calls _ _ _ _ _ hlf)).mono ?_; rintro e w' ⟨rfl, hb⟩; replace HB := HB.trans (hb.mono HB.size); clear hb; have HT := hL.below HB; have x0 := HT 0 (by omega))
      | refine ⟨trivial, ?_⟩)
    exact bodyPost_ret (v := .int .i64 637) (by simp [results, Tryd.f15, go_sem, tbl]) rfl ⟨rfl, HB⟩
  · rw [if_neg c1] at h
    by_cases c2 : t ≥ 60000
    · rw [if_pos c2] at h
      cases h
      gi_wp2_with (first
        | (gi_at_call 29; refine ((callsIn_wide).2 (psychro_limit.calls _ _ _ _ _ hlf)).mono ?_; rintro e w' ⟨rfl, hb⟩; replace HB := HB.trans (hb.mono HB.size); clear hb; have HT := hL.below HB; have x0 := HT 16 (by omega))
        | refine ⟨trivial, ?_⟩)
      exact bodyPost_ret (v := .int .i64 153540) (by simp [results, Tryd.f15, go_sem, tbl]) rfl ⟨rfl, HB⟩
    · rw [if_neg c2] at h
      have hs : 0 ≤ stp t ∧ stp t ≤ 15 := by unfold stp; omega
      obtain ⟨j, hj⟩ : ∃ j, stp t + 1 = j := ⟨_, rfl⟩
      rw [hj] at h
      have HQ := Lib.hid h
      clear h
      have e1 : Int.tdiv (t + 20000) 5000 = stp t := Int.tdiv_eq_ediv_of_nonneg (by omega)
      gi_wp2_with (first
        | (gi_at_call 29; refine ((callsIn_wide).2 (psychro_limit.calls _ _ _ _ _ hlf)).mono ?_; rintro e w' ⟨rfl, hb⟩; replace HB := HB.trans (hb.mono HB.size); clear hb; have HT := hL.below HB; have x0 := HT.at (stp t) hs.1 (by omega); have x1 := HT.at j (by omega) (by omega); have x2 : w'.cell? ⟨0, (stp t).toNat, none⟩ = some (.int .i64 (rd tbl (stp t))) := HT (stp t).toNat (by omega); have x3 : w'.cell? ⟨0, j.toNat, none⟩ = some (.int .i64 (rd tbl j)) := HT j.toNat (by omega))
        | (gi_at_call 36; refine ((callsIn_wide).2 (fixed_Line.calls k _ _ _ _ _ r _ HQ.out)).mono ?_; rintro e w' ⟨rfl, hb⟩; replace HB := HB.trans (hb.mono HB.size); clear hb)
        | refine ⟨trivial, ?_⟩)
      have p0 := hs.1
      have p1 : stp t < 17 := by omega
      have p2 : ¬ (stp t < 0) := by omega
      have p3 : ¬ (17 ≤ stp t) := by omega
      have p4 : 0 ≤ j := by omega
      have p5 : j < 17 := by omega
      have p6 : ¬ (j < 0) := by omega
      have p7 : ¬ (17 ≤ j) := by omega
      have hwj : IntKind.i64.wrap j = j := by rw [IntKind.wrap_i64]; omega
      have hwx : IntKind.i64.wrap (-20000 + 5000 * stp t + 5000) = -20000 + 5000 * stp t + 5000 := by rw [IntKind.wrap_i64]; omega
      have hmx : Tryd.prog.follows .mixedOrders = true := by kernel_rfl
      gi_region_with_o (first
        | (gi_at_call 36; refine ((callsIn_wide).2 (fixed_Line.calls k _ _ _ _ _ r _ HQ.out)).mono ?_; rintro e w' ⟨rfl, hb⟩)
        | refine ⟨trivial, ?_⟩)
      all_goals (
        gi_wp2
        exact bodyPost_ret (v := .int .i64 r) (by simp [results, Tryd.f15, go_sem]) rfl ⟨rfl, HB.drew.trans (hb.mono HB.size)⟩)
theorem psychro_Saturation.calls (k : Nat) (a0 : Int) (r : Int) (w : World) (hL : LaidT w) (h : psychro_Saturation.f k a0 = some r) :
    Calls Tryd.prog 15 #[.int .i64 a0] w fun e w' => e = .returned (.int .i64 r) ∧ Below w.heap.size w w' := (callsIn_wide (n := 9)).1 (sat_in k a0 r w hL h)
end Go.Proofs.YtbfcplnaafnlhaaDoor.PT
