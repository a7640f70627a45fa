-- psychro.Dew.
import Derived.Test.YtbfcplnaafnlhaaDoorSat
import Derived.LoopNIn
import Derived.LoopIn
namespace Go.Proofs.YtbfcplnaafnlhaaDoor.PT
open Go.RowKit Go.Shelf Go.Proofs Go.Proofs.YtbfcplnaafnlhaaDoorW.PrintWords Go.Proofs.YtbfcplnaafnlhaaDoorW.PrintLast Go.Proofs.YtbfcplnaafnlhaaDoorW.PrintMore
attribute [local go_sem] Oper.semAt_some max2_int min2_int max_two min_two
set_option linter.unusedVariables false
set_option linter.unusedSimpArgs false
/-- From the place i of the table on. -/
def dwGo (k : Nat) (t : Int) : Nat → Int → Option Int
  | 0, _ => some 60000
  | n + 1, i => if t < rd tbl i then fixed_Line.f k t (rd tbl (i - 1)) (-20000 + 5000 * (i - 1)) (rd tbl i) (-20000 + 5000 * (i - 1) + 5000) else dwGo k t n (i + 1)
theorem dwGo_mono (k : Nat) (t : Int) : ∀ n i, LeO (dwGo k t n i) (dwGo (k + 1) t n i)
  | 0, i => fun _ h => h
  | n + 1, i => by
    unfold dwGo
    exact LeO.ite (fixed_Line.mono _ _ _ _ _ _) (dwGo_mono k t n (i + 1))
def psychro_Dew.f (k : Nat) (a0 : Int) : Option Int := if lim 0 1000000 a0 ≤ 637 then some (-20000) else dwGo k (lim 0 1000000 a0) 16 1
theorem psychro_Dew.mono : ∀ a0 k, LeO (psychro_Dew.f k a0) (psychro_Dew.f (k + 1) a0) := by
  intro a0 k
  unfold psychro_Dew.f
  exact LeO.ite (fun _ h => h) (dwGo_mono _ _ _ _)
set_option maxRecDepth 100000 in
set_option maxHeartbeats 2000000 in
theorem dew_in (k : Nat) (a0 r : Int) (w : World) (hL : LaidT w) (h : psychro_Dew.f k a0 = some r) :
    CallsIn Fence.wide 9 Tryd.prog 13 #[.int .i64 a0] w fun e w' => e = .returned (.int .i64 r) ∧ Below w.heap.size w w' := by
  have HB := Below.refl w.heap.size w
  obtain ⟨t, ht⟩ : ∃ t, lim 0 1000000 a0 = t := ⟨_, rfl⟩
  have hb := lim_bd (lo := 0) (hi := 1000000) (a := a0) (by omega)
  have hlf : psychro_limit.f a0 0 1000000 = some t := by rw [limit_f, ← ht]; rfl
  unfold psychro_Dew.f at h
  rw [ht] at h hb
  clear ht
  have hmx : Tryd.prog.follows .mixedOrders = true := by kernel_rfl
  refine callsIn_of_wp Tryd.func13 rfl trivial ?_ rfl
  simp only [Tryd.ntmps13, List.size_toArray, List.length_cons, List.length_nil, Nat.reduceAdd, Nat.reduceSub, Array.replicate_succ, Array.replicate_zero, List.push_toArray, List.append_toArray, List.nil_append, List.cons_append]
  by_cases c1 : t ≤ 637
  · rw [if_pos c1] at h
    cases h
    gi_wp2_with (first
      | (gi_at_call 29; refine ((callsIn_wide).2 (psychro_limit.calls _ _ _ _ _ hlf)).mono ?_; rintro e w' ⟨rfl, hb⟩; replace HB := HB.trans (hb.mono HB.size); clear hb; have HT := hL.below HB; have x0 : w'.cell? ⟨0, 0, none⟩ = some (.int .i64 637) := HT 0 (by omega))
      | refine ⟨trivial, ?_⟩)
    exact bodyPost_ret (v := .int .i64 (-20000)) (by simp [results, Tryd.f13, go_sem]) rfl ⟨rfl, HB⟩
  · rw [if_neg c1] at h
    have HQ := Lib.hid h
    clear h
    gi_wp2_with (first
      | (gi_at_call 29; refine ((callsIn_wide).2 (psychro_limit.calls _ _ _ _ _ hlf)).mono ?_; rintro e w' ⟨rfl, hb⟩; replace HB := HB.trans (hb.mono HB.size); clear hb; have HT := hL.below HB; have x0 : w'.cell? ⟨0, 0, none⟩ = some (.int .i64 637) := HT 0 (by omega))
      | refine ⟨trivial, ?_⟩)
    gi_loopw [4] (fun i wr => ∃ (n : Nat) (j : Int), i = .int .i64 j ∧ j + n = 17 ∧ 1 ≤ j ∧ dwGo k t n j = some r ∧ Below w.heap.size w wr) (fun i _ => (17 - (match i with | .int _ x => x | _ => 0)).toNat)
    case atStart => exact ⟨16, 1, rfl, by omega, by omega, HQ.out, HB⟩
    case round =>
      clear x0 HT HB
      obtain ⟨n, j, rfl, hn, hj, hgo, HB⟩ := hrel
      have HT := hL.below HB
      cases n with
      | zero =>
        have e : j = 17 := by omega
        subst e
        cases hgo
        gi_wp2
        exact bodyPost_ret (v := .int .i64 60000) (by simp [results, Tryd.f13, go_sem]) rfl ⟨rfl, HB⟩
      | succ n =>
        have x1 : wr.cell? ⟨0, j.toNat, none⟩ = some (.int .i64 (rd tbl j)) := HT j.toNat (by omega)
        have p0 : 0 ≤ j := by omega
        have p1 : j < 17 := by omega
        unfold dwGo at hgo
        by_cases c2 : t < rd tbl j
        · rw [if_pos c2] at hgo
          obtain ⟨m, hm⟩ : ∃ m, j - 1 = m := ⟨_, rfl⟩
          rw [hm] at hgo
          have x2 : wr.cell? ⟨0, m.toNat, none⟩ = some (.int .i64 (rd tbl m)) := HT m.toNat (by omega)
          have p4 : 0 ≤ m := by omega
          have p5 : m < 17 := by omega
          have hwm : IntKind.i64.wrap m = m := by rw [IntKind.wrap_i64]; omega
          have hw5 : IntKind.i64.wrap (5000 * m) = 5000 * m := by rw [IntKind.wrap_i64]; omega
          have hwx : IntKind.i64.wrap (-20000 + 5000 * m) = -20000 + 5000 * m := by rw [IntKind.wrap_i64]; omega
          have hwy : IntKind.i64.wrap (-20000 + 5000 * m + 5000) = -20000 + 5000 * m + 5000 := by rw [IntKind.wrap_i64]; omega
          have HG := Lib.hid hgo
          clear hgo
          gi_wp2
          gi_region_with_o (first
            | (gi_at_call 36; refine ((callsIn_wide).2 (fixed_Line.calls k _ _ _ _ _ r _ HG.out)).mono ?_; rintro e w' ⟨rfl, hb⟩)
            | refine ⟨trivial, ?_⟩)
          all_goals (
            gi_wp2
            exact bodyPost_ret (v := .int .i64 r) (by simp [results, Tryd.f13, go_sem]) rfl ⟨rfl, HB.drew.trans (hb.mono HB.size)⟩)
        · rw [if_neg c2] at hgo
          gi_wp2
          go_roundw
          case rel => exact ⟨n, j + 1, by go_num, by omega, by omega, hgo, HB⟩
          case measure => simp; omega
theorem psychro_Dew.calls (k : Nat) (a0 : Int) (r : Int) (w : World) (hL : LaidT w) (h : psychro_Dew.f k a0 = some r) :
    Calls Tryd.prog 13 #[.int .i64 a0] w fun e w' => e = .returned (.int .i64 r) ∧ Below w.heap.size w w' := (callsIn_wide (n := 9)).1 (dew_in k a0 r w hL h)
end Go.Proofs.YtbfcplnaafnlhaaDoor.PT
