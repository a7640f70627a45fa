-- fixed.Line, for small numbers.
import Derived.Test.YtbfcplnaafnlhaaDoorLaid
import Derived.Laws.BitsLemmas
import Derived.Laws.Externs
import Derived.Shelf.Spec.BitsCarry
import Derived.WalkKit
import Derived.OwnWalkIn
import Derived.Sort.QuietIn
import Derived.Shelf.RegionOpen
import Derived.TacticsInMore
import Derived.Lib.Hide
import Derived.Test.YtbfcplnaafnlhaaDoorPTx3
import Derived.Test.YtbfcplnaafnlhaaDoorPTx7
namespace Go.Proofs.YtbfcplnaafnlhaaDoor.PT
open Go.RowKit Go.Shelf Go.Proofs Go.Proofs.YtbfcplnaafnlhaaDoorW.PrintWords Go.Proofs.YtbfcplnaafnlhaaDoorW.PrintLast Go.Proofs.YtbfcplnaafnlhaaDoorW.PrintMore
attribute [local go_sem] Oper.semAt_some max2_int min2_int max_two min_two
set_option linter.unusedVariables false
set_option linter.unusedSimpArgs false

theorem wu (x : Int) : IntKind.u64.wrap x = x % 18446744073709551616 := by simp [IntKind.wrap, IntKind.bits, IntKind.signed]
theorem wu_id {x : Int} (h0 : 0 ≤ x) (h1 : x < 18446744073709551616) : IntKind.u64.wrap x = x := by rw [wu]; omega
theorem wu_pow (n : Int) (h0 : 0 ≤ n) (h1 : n < 2 ^ 64) : IntKind.u64.wrap n = n := wu_id h0 h1
theorem w64s {x : Int} (h0 : -9223372036854775808 ≤ x) (h1 : x < 9223372036854775808) : wrap64 x = x := by rw [← i64_w, IntKind.wrap_i64]; omega
theorem and32 (x : Int) (hx0 : 0 ≤ x) (hx1 : x < 18446744073709551616) : Go.bits .and .u64 x 4294967295 = x % 4294967296 := by
  have := bits_mask .u64 64 (by decide) wu_pow 32 (by decide) x hx0 hx1
  simpa using this
/-- A product below 2^62 of numbers below 2^32 .. or of greater ones: here both factors fit in 42 bits. -/
theorem mul64s {a b : Int} (a0 : 0 ≤ a) (a1 : a < 4294967296) (b0 : 0 ≤ b) (b1 : b < 4294967296) : bits_Mul64.f a b = some (0, a * b) := by
  have h0 : 0 ≤ a * b := Int.mul_nonneg a0 b0
  have h1 : a * b ≤ 18446744065119617025 := by
    have : a * b ≤ 4294967295 * b := Int.mul_le_mul_of_nonneg_right (by omega) b0
    omega
  unfold bits_Mul64.f
  rw [and32 a a0 (by omega), and32 b b0 (by omega), show a / 4294967296 = 0 by omega, show b / 4294967296 = 0 by omega, show a % 4294967296 = a by omega, show b % 4294967296 = b by omega]
  have hq : 0 ≤ a * b / 4294967296 ∧ a * b / 4294967296 < 4294967296 := by omega
  simp only [Int.zero_mul, Int.mul_zero]
  rw [wu_id (x := a * b) h0 (by omega), wu_id (x := 0) (by omega) (by omega)]
  simp only [Int.zero_add, Int.add_zero]
  rw [wu_id (x := a * b / 4294967296) hq.1 (by omega), and32 (a * b / 4294967296) hq.1 (by omega), show a * b / 4294967296 % 4294967296 = a * b / 4294967296 by omega, wu_id (x := a * b / 4294967296) hq.1 (by omega)]
  rw [show a * b / 4294967296 / 4294967296 = 0 by omega]
  simp only [wu]
  rfl
theorem cl_id {x : Int} (h0 : -1000000000000 ≤ x) (h1 : x ≤ 1000000000000) : fixed_Clamp.f x = some x := by
  unfold fixed_Clamp.f mx mn
  congr 1
  split <;> split at * <;> omega
theorem size_id {x : Int} (h0 : -1000000000000 ≤ x) (h1 : x ≤ 1000000000000) : fixed_size.f x = some (if x < 0 then -x else x, decide (x < 0)) := by
  unfold fixed_size.f
  by_cases c : x < 0
  · rw [if_pos c, if_pos c, decide_eq_true c, w64s (by omega) (by omega), wu_id (by omega) (by omega)]
  · rw [if_neg c, if_neg c, decide_eq_false c, wu_id (by omega) (by omega)]
/-- The sign of a line's numerator. -/
def lnS (x x1 y1 x2 y2 : Int) : Bool := if decide (y2 - y1 < 0) = decide (y1 < 0) then decide (y1 < 0) else if (x - x1) * (if y2 - y1 < 0 then -(y2 - y1) else y2 - y1) ≤ (if y1 < 0 then -y1 else y1) * (x2 - x1) then decide (y1 < 0) else decide (y2 - y1 < 0)
def lnN (x x1 y1 x2 y2 : Int) : Int := if decide (y2 - y1 < 0) = decide (y1 < 0) then (x - x1) * (if y2 - y1 < 0 then -(y2 - y1) else y2 - y1) + (if y1 < 0 then -y1 else y1) * (x2 - x1) else
  if (x - x1) * (if y2 - y1 < 0 then -(y2 - y1) else y2 - y1) ≤ (if y1 < 0 then -y1 else y1) * (x2 - x1) then (if y1 < 0 then -y1 else y1) * (x2 - x1) - (x - x1) * (if y2 - y1 < 0 then -(y2 - y1) else y2 - y1) else (x - x1) * (if y2 - y1 < 0 then -(y2 - y1) else y2 - y1) - (if y1 < 0 then -y1 else y1) * (x2 - x1)
def sml (x : Int) : Prop := -1000000 ≤ x ∧ x ≤ 1000000
instance (x : Int) : Decidable (sml x) := inferInstanceAs (Decidable (_ ∧ _))
def fixed_Line.f (k : Nat) (x x1 y1 x2 y2 : Int) : Option Int :=
  if sml x ∧ sml x1 ∧ sml y1 ∧ sml x2 ∧ sml y2 ∧ x1 < x2 then (if x ≤ x1 then some y1 else if x ≥ x2 then some y2 else fixed_quotient.f k 0 (lnN x x1 y1 x2 y2) (x2 - x1) (lnS x x1 y1 x2 y2)) else none
theorem fixed_Line.mono : ∀ a0 a1 a2 a3 a4 k, LeO (fixed_Line.f k a0 a1 a2 a3 a4) (fixed_Line.f (k + 1) a0 a1 a2 a3 a4) := by
  intro a0 a1 a2 a3 a4 k
  unfold fixed_Line.f
  refine LeO.ite (LeO.ite (fun _ h => h) (LeO.ite (fun _ h => h) (fixed_quotient.mono _ _ _ _ _))) (fun _ h => h)
theorem add_run (x y : Nat) (w : World) : (callFunc 50 #[.int .u64 x, .int .u64 y, .int .u64 0]).run Tryd.prog w = .ok (.value (.tuple #[.int .u64 (((x + y) % 18446744073709551616 : Nat) : Int), .int .u64 (((x + y) / 18446744073709551616 : Nat) : Int)])) w := by
  have h := run_add64 (P := Tryd.prog) x y 0 (by omega) (by omega) (by omega) (by omega) w
  rw [run_callFunc_extern Tryd.func50 (by kernel_rfl) (by kernel_rfl) (by kernel_rfl) (e := add64Entry) (by kernel_rfl), h]
  simp only [Result.andThen]
  congr 5 <;> omega
theorem sub_run (x y : Nat) (w : World) : (callFunc 51 #[.int .u64 x, .int .u64 y, .int .u64 0]).run Tryd.prog w = .ok (.value (.tuple #[.int .u64 (((x + 18446744073709551616 - y) % 18446744073709551616 : Nat) : Int), .int .u64 ((if x < y then 1 else 0 : Nat) : Int)])) w := by
  have h := run_sub64 (P := Tryd.prog) x y 0 (by omega) w
  rw [run_callFunc_extern Tryd.func51 (by kernel_rfl) (by kernel_rfl) (by kernel_rfl) (e := sub64Entry) (by kernel_rfl)]
  rw [show (.int .u64 (0 : Int) : Value) = .int .u64 ((0 : Nat) : Int) from rfl, h]
  simp only [Result.andThen, Nat.sub_zero, Nat.add_zero]

theorem add_runI (x y : Int) (w : World) (hx : 0 ≤ x) (hy : 0 ≤ y) (h : x + y < 18446744073709551616) : (callFunc 50 #[.int .u64 x, .int .u64 y, .int .u64 0]).run Tryd.prog w = .ok (.value (.tuple #[.int .u64 (x + y), .int .u64 0])) w := by
  have := run_add64 (P := Tryd.prog) x y 0 hx hy (by omega) (by omega) w
  rw [show (x + y + 0) % 18446744073709551616 = x + y by omega, show (x + y + 0) / 18446744073709551616 = 0 by omega] at this
  rw [run_callFunc_extern Tryd.func50 (by kernel_rfl) (by kernel_rfl) (by kernel_rfl) (e := add64Entry) (by kernel_rfl), this]
  rfl
theorem sub_runI (x y : Int) (w : World) (hx : x < 18446744073709551616) (hy : 0 ≤ y) (h : y ≤ x) : (callFunc 51 #[.int .u64 x, .int .u64 y, .int .u64 0]).run Tryd.prog w = .ok (.value (.tuple #[.int .u64 (x - y), .int .u64 0])) w := by
  have := sub_run x.toNat y.toNat w
  rw [show ((x.toNat : Nat) : Int) = x by omega, show ((y.toNat : Nat) : Int) = y by omega] at this
  rw [this, if_neg (by omega), show (((x.toNat + 18446744073709551616 - y.toNat) % 18446744073709551616 : Nat) : Int) = x - y by omega]
  rfl
theorem mb {a b : Int} (a0 : 0 ≤ a) (a1 : a ≤ 2000000) (b0 : 0 ≤ b) (b1 : b ≤ 2000000) : 0 ≤ a * b ∧ a * b ≤ 4000000000000 := by
  have h1 : a * b ≤ 2000000 * b := Int.mul_le_mul_of_nonneg_right a1 b0
  exact ⟨Int.mul_nonneg a0 b0, by omega⟩
theorem size_neg {x : Int} (h0 : -1000000000000 ≤ x) (h1 : x < 0) : fixed_size.f x = some (-x, true) := by rw [size_id h0 (by omega), if_pos h1, decide_eq_true h1]
theorem size_pos {x : Int} (h0 : 0 ≤ x) (h1 : x ≤ 1000000000000) : fixed_size.f x = some (x, false) := by rw [size_id (by omega) h1, if_neg (by omega), decide_eq_false (by omega)]
set_option maxRecDepth 100000 in
set_option maxHeartbeats 4000000 in
theorem line_in (k : Nat) (x x1 y1 x2 y2 r : Int) (hx : sml x) (hx1 : sml x1) (hy1 : sml y1) (hx2 : sml x2) (hy2 : sml y2) (hlt : x1 < x2) (w : World)
    (h : (if x ≤ x1 then some y1 else if x ≥ x2 then some y2 else fixed_quotient.f k 0 (lnN x x1 y1 x2 y2) (x2 - x1) (lnS x x1 y1 x2 y2)) = some r) :
    CallsIn Fence.wide 9 Tryd.prog 36 #[.int .i64 x, .int .i64 x1, .int .i64 y1, .int .i64 x2, .int .i64 y2] w fun e w' => e = .returned (.int .i64 r) ∧ Below w.heap.size w w' := by
  obtain ⟨a0, a1⟩ := hx
  obtain ⟨b0, b1⟩ := hx1
  obtain ⟨c0, c1⟩ := hy1
  obtain ⟨d0, d1⟩ := hx2
  obtain ⟨e0, e1⟩ := hy2
  have HB := Below.refl w.heap.size w
  refine callsIn_of_wp Tryd.func36 rfl trivial ?_ rfl
  simp only [Tryd.ntmps36, List.size_toArray, List.length_cons, List.length_nil, Nat.reduceAdd, Nat.reduceSub, Array.replicate_succ, Array.replicate_zero, List.push_toArray, List.append_toArray, List.nil_append, List.cons_append]
  by_cases q1 : x ≤ x1
  · rw [if_pos q1] at h
    cases h
    have n1 : ¬ x2 ≤ x1 := by omega
    gi_wp2_with (first
      | (gi_at_call 43; refine ((callsIn_wide).2 (fixed_Clamp.calls _ _ _ (cl_id (by omega) (by omega)))).mono ?_; rintro e w' ⟨rfl, hb⟩; replace HB := HB.trans (hb.mono HB.size); clear hb)
      | refine ⟨trivial, ?_⟩)
    exact bodyPost_ret (v := .int .i64 y1) (by simp [results, Tryd.f36, go_sem]) rfl ⟨rfl, HB⟩
  · rw [if_neg q1] at h
    have n1 : ¬ x2 ≤ x1 := by omega
    by_cases q2 : x ≥ x2
    · rw [if_pos q2] at h
      cases h
      gi_wp2_with (first
        | (gi_at_call 43; refine ((callsIn_wide).2 (fixed_Clamp.calls _ _ _ (cl_id (by omega) (by omega)))).mono ?_; rintro e w' ⟨rfl, hb⟩; replace HB := HB.trans (hb.mono HB.size); clear hb)
        | refine ⟨trivial, ?_⟩)
      exact bodyPost_ret (v := .int .i64 y2) (by simp [results, Tryd.f36, go_sem]) rfl ⟨rfl, HB⟩
    · rw [if_neg q2] at h
      have hA : 0 ≤ x - x1 ∧ x - x1 ≤ 2000000 := by omega
      have hW : 0 ≤ x2 - x1 ∧ x2 - x1 ≤ 2000000 := by omega
      by_cases u1 : y2 - y1 < 0
      · have hP := mb hA.1 hA.2 (show 0 ≤ -(y2 - y1) by omega) (by omega)
        by_cases u2 : y1 < 0
        · have hQ := mb (show 0 ≤ -y1 by omega) (by omega) hW.1 hW.2
          have hN : lnN x x1 y1 x2 y2 = (x - x1) * -(y2 - y1) + -y1 * (x2 - x1) := by unfold lnN; rw [decide_eq_true u1, decide_eq_true u2, if_pos rfl, if_pos u1, if_pos u2]
          have hS : lnS x x1 y1 x2 y2 = true := by unfold lnS; rw [decide_eq_true u1, decide_eq_true u2, if_pos rfl]
          rw [hN, hS] at h
          have HQ := Lib.hid h
          clear h hN hS
          gi_wp2_with (first
            | (gi_at_call 43; refine ((callsIn_wide).2 (fixed_Clamp.calls _ _ _ (cl_id (by omega) (by omega)))).mono ?_; rintro e w' ⟨rfl, hb⟩; replace HB := HB.trans (hb.mono HB.size); clear hb)
            | (gi_at_call 42; refine ((callsIn_wide).2 (fixed_size.calls _ _ _ _ (size_neg (by omega) (by omega)))).mono ?_; rintro e w' ⟨rfl, hb⟩; replace HB := HB.trans (hb.below.mono HB.size); clear hb)
            | (gi_at_call 42; refine ((callsIn_wide).2 (fixed_size.calls _ _ _ _ (size_pos (by omega) (by omega)))).mono ?_; rintro e w' ⟨rfl, hb⟩; replace HB := HB.trans (hb.below.mono HB.size); clear hb)
            | (rw [add_runI _ _ _ (by omega) (by omega) (by omega)])
            | (gi_at_call 44; refine ((callsIn_wide).2 (bits_Mul64.calls _ _ _ _ _ (mul64s (by omega) (by omega) (by omega) (by omega)))).mono ?_; rintro e w' ⟨rfl, hb⟩; replace HB := HB.trans (hb.below.mono HB.size); clear hb)
            | (gi_at_call 45; refine ((callsIn_wide).2 (fixed_quotient.calls k _ _ _ _ r _ HQ.out)).mono ?_; rintro e w' ⟨rfl, hb⟩; replace HB := HB.trans (hb.mono HB.size); clear hb)
            | refine ⟨trivial, ?_⟩)
          exact bodyPost_ret (v := .int .i64 r) (by simp [results, Tryd.f36, go_sem]) rfl ⟨rfl, HB⟩
        · have hQ := mb (show 0 ≤ y1 by omega) (by omega) hW.1 hW.2
          by_cases u3 : (x - x1) * -(y2 - y1) ≤ y1 * (x2 - x1)
          · have hN : lnN x x1 y1 x2 y2 = y1 * (x2 - x1) - (x - x1) * -(y2 - y1) := by unfold lnN; rw [decide_eq_true u1, decide_eq_false u2, if_neg (by decide), if_pos u1, if_neg u2, if_pos u3]
            have hS : lnS x x1 y1 x2 y2 = false := by unfold lnS; rw [decide_eq_true u1, decide_eq_false u2, if_neg (by decide), if_pos u1, if_neg u2, if_pos u3]
            rw [hN, hS] at h
            have HQ := Lib.hid h
            clear h hN hS
            gi_wp2_with (first
              | (gi_at_call 43; refine ((callsIn_wide).2 (fixed_Clamp.calls _ _ _ (cl_id (by omega) (by omega)))).mono ?_; rintro e w' ⟨rfl, hb⟩; replace HB := HB.trans (hb.mono HB.size); clear hb)
              | (gi_at_call 42; refine ((callsIn_wide).2 (fixed_size.calls _ _ _ _ (size_neg (by omega) (by omega)))).mono ?_; rintro e w' ⟨rfl, hb⟩; replace HB := HB.trans (hb.below.mono HB.size); clear hb)
              | (gi_at_call 42; refine ((callsIn_wide).2 (fixed_size.calls _ _ _ _ (size_pos (by omega) (by omega)))).mono ?_; rintro e w' ⟨rfl, hb⟩; replace HB := HB.trans (hb.below.mono HB.size); clear hb)
              | (rw [sub_runI _ _ _ (by omega) (by omega) (by omega)])
              | (gi_at_call 44; refine ((callsIn_wide).2 (bits_Mul64.calls _ _ _ _ _ (mul64s (by omega) (by omega) (by omega) (by omega)))).mono ?_; rintro e w' ⟨rfl, hb⟩; replace HB := HB.trans (hb.below.mono HB.size); clear hb)
              | (gi_at_call 45; refine ((callsIn_wide).2 (fixed_quotient.calls k _ _ _ _ r _ HQ.out)).mono ?_; rintro e w' ⟨rfl, hb⟩; replace HB := HB.trans (hb.mono HB.size); clear hb)
              | refine ⟨trivial, ?_⟩)
            exact bodyPost_ret (v := .int .i64 r) (by simp [results, Tryd.f36, go_sem]) rfl ⟨rfl, HB⟩
          · have hN : lnN x x1 y1 x2 y2 = (x - x1) * -(y2 - y1) - y1 * (x2 - x1) := by unfold lnN; rw [decide_eq_true u1, decide_eq_false u2, if_neg (by decide), if_pos u1, if_neg u2, if_neg u3]
            have hS : lnS x x1 y1 x2 y2 = true := by unfold lnS; rw [decide_eq_true u1, decide_eq_false u2, if_neg (by decide), if_pos u1, if_neg u2, if_neg u3]
            rw [hN, hS] at h
            have HQ := Lib.hid h
            clear h hN hS
            gi_wp2_with (first
              | (gi_at_call 43; refine ((callsIn_wide).2 (fixed_Clamp.calls _ _ _ (cl_id (by omega) (by omega)))).mono ?_; rintro e w' ⟨rfl, hb⟩; replace HB := HB.trans (hb.mono HB.size); clear hb)
              | (gi_at_call 42; refine ((callsIn_wide).2 (fixed_size.calls _ _ _ _ (size_neg (by omega) (by omega)))).mono ?_; rintro e w' ⟨rfl, hb⟩; replace HB := HB.trans (hb.below.mono HB.size); clear hb)
              | (gi_at_call 42; refine ((callsIn_wide).2 (fixed_size.calls _ _ _ _ (size_pos (by omega) (by omega)))).mono ?_; rintro e w' ⟨rfl, hb⟩; replace HB := HB.trans (hb.below.mono HB.size); clear hb)
              | (rw [sub_runI _ _ _ (by omega) (by omega) (by omega)])
              | (gi_at_call 44; refine ((callsIn_wide).2 (bits_Mul64.calls _ _ _ _ _ (mul64s (by omega) (by omega) (by omega) (by omega)))).mono ?_; rintro e w' ⟨rfl, hb⟩; replace HB := HB.trans (hb.below.mono HB.size); clear hb)
              | (gi_at_call 45; refine ((callsIn_wide).2 (fixed_quotient.calls k _ _ _ _ r _ HQ.out)).mono ?_; rintro e w' ⟨rfl, hb⟩; replace HB := HB.trans (hb.mono HB.size); clear hb)
              | refine ⟨trivial, ?_⟩)
            exact bodyPost_ret (v := .int .i64 r) (by simp [results, Tryd.f36, go_sem]) rfl ⟨rfl, HB⟩
      · have hP := mb hA.1 hA.2 (show 0 ≤ (y2 - y1) by omega) (by omega)
        by_cases u2 : y1 < 0
        · have hQ := mb (show 0 ≤ -y1 by omega) (by omega) hW.1 hW.2
          by_cases u3 : (x - x1) * (y2 - y1) ≤ -y1 * (x2 - x1)
          · have hN : lnN x x1 y1 x2 y2 = -y1 * (x2 - x1) - (x - x1) * (y2 - y1) := by unfold lnN; rw [decide_eq_false u1, decide_eq_true u2, if_neg (by decide), if_neg u1, if_pos u2, if_pos u3]
            have hS : lnS x x1 y1 x2 y2 = true := by unfold lnS; rw [decide_eq_false u1, decide_eq_true u2, if_neg (by decide), if_neg u1, if_pos u2, if_pos u3]
            rw [hN, hS] at h
            have HQ := Lib.hid h
            clear h hN hS
            gi_wp2_with (first
              | (gi_at_call 43; refine ((callsIn_wide).2 (fixed_Clamp.calls _ _ _ (cl_id (by omega) (by omega)))).mono ?_; rintro e w' ⟨rfl, hb⟩; replace HB := HB.trans (hb.mono HB.size); clear hb)
              | (gi_at_call 42; refine ((callsIn_wide).2 (fixed_size.calls _ _ _ _ (size_neg (by omega) (by omega)))).mono ?_; rintro e w' ⟨rfl, hb⟩; replace HB := HB.trans (hb.below.mono HB.size); clear hb)
              | (gi_at_call 42; refine ((callsIn_wide).2 (fixed_size.calls _ _ _ _ (size_pos (by omega) (by omega)))).mono ?_; rintro e w' ⟨rfl, hb⟩; replace HB := HB.trans (hb.below.mono HB.size); clear hb)
              | (rw [sub_runI _ _ _ (by omega) (by omega) (by omega)])
              | (gi_at_call 44; refine ((callsIn_wide).2 (bits_Mul64.calls _ _ _ _ _ (mul64s (by omega) (by omega) (by omega) (by omega)))).mono ?_; rintro e w' ⟨rfl, hb⟩; replace HB := HB.trans (hb.below.mono HB.size); clear hb)
              | (gi_at_call 45; refine ((callsIn_wide).2 (fixed_quotient.calls k _ _ _ _ r _ HQ.out)).mono ?_; rintro e w' ⟨rfl, hb⟩; replace HB := HB.trans (hb.mono HB.size); clear hb)
              | refine ⟨trivial, ?_⟩)
            exact bodyPost_ret (v := .int .i64 r) (by simp [results, Tryd.f36, go_sem]) rfl ⟨rfl, HB⟩
          · have hN : lnN x x1 y1 x2 y2 = (x - x1) * (y2 - y1) - -y1 * (x2 - x1) := by unfold lnN; rw [decide_eq_false u1, decide_eq_true u2, if_neg (by decide), if_neg u1, if_pos u2, if_neg u3]
            have hS : lnS x x1 y1 x2 y2 = false := by unfold lnS; rw [decide_eq_false u1, decide_eq_true u2, if_neg (by decide), if_neg u1, if_pos u2, if_neg u3]
            rw [hN, hS] at h
            have HQ := Lib.hid h
            clear h hN hS
            gi_wp2_with (first
              | (gi_at_call 43; refine ((callsIn_wide).2 (fixed_Clamp.calls _ _ _ (cl_id (by omega) (by omega)))).mono ?_; rintro e w' ⟨rfl, hb⟩; replace HB := HB.trans (hb.mono HB.size); clear hb)
              | (gi_at_call 42; refine ((callsIn_wide).2 (fixed_size.calls _ _ _ _ (size_neg (by omega) (by omega)))).mono ?_; rintro e w' ⟨rfl, hb⟩; replace HB := HB.trans (hb.below.mono HB.size); clear hb)
              | (gi_at_call 42; refine ((callsIn_wide).2 (fixed_size.calls _ _ _ _ (size_pos (by omega) (by omega)))).mono ?_; rintro e w' ⟨rfl, hb⟩; replace HB := HB.trans (hb.below.mono HB.size); clear hb)
              | (rw [sub_runI _ _ _ (by omega) (by omega) (by omega)])
              | (gi_at_call 44; refine ((callsIn_wide).2 (bits_Mul64.calls _ _ _ _ _ (mul64s (by omega) (by omega) (by omega) (by omega)))).mono ?_; rintro e w' ⟨rfl, hb⟩; replace HB := HB.trans (hb.below.mono HB.size); clear hb)
              | (gi_at_call 45; refine ((callsIn_wide).2 (fixed_quotient.calls k _ _ _ _ r _ HQ.out)).mono ?_; rintro e w' ⟨rfl, hb⟩; replace HB := HB.trans (hb.mono HB.size); clear hb)
              | refine ⟨trivial, ?_⟩)
            exact bodyPost_ret (v := .int .i64 r) (by simp [results, Tryd.f36, go_sem]) rfl ⟨rfl, HB⟩
        · have hQ := mb (show 0 ≤ y1 by omega) (by omega) hW.1 hW.2
          have hN : lnN x x1 y1 x2 y2 = (x - x1) * (y2 - y1) + y1 * (x2 - x1) := by unfold lnN; rw [decide_eq_false u1, decide_eq_false u2, if_pos rfl, if_neg u1, if_neg u2]
          have hS : lnS x x1 y1 x2 y2 = false := by unfold lnS; rw [decide_eq_false u1, decide_eq_false u2, if_pos rfl]
          rw [hN, hS] at h
          have HQ := Lib.hid h
          clear h hN hS
          gi_wp2_with (first
            | (gi_at_call 43; refine ((callsIn_wide).2 (fixed_Clamp.calls _ _ _ (cl_id (by omega) (by omega)))).mono ?_; rintro e w' ⟨rfl, hb⟩; replace HB := HB.trans (hb.mono HB.size); clear hb)
            | (gi_at_call 42; refine ((callsIn_wide).2 (fixed_size.calls _ _ _ _ (size_neg (by omega) (by omega)))).mono ?_; rintro e w' ⟨rfl, hb⟩; replace HB := HB.trans (hb.below.mono HB.size); clear hb)
            | (gi_at_call 42; refine ((callsIn_wide).2 (fixed_size.calls _ _ _ _ (size_pos (by omega) (by omega)))).mono ?_; rintro e w' ⟨rfl, hb⟩; replace HB := HB.trans (hb.below.mono HB.size); clear hb)
            | (rw [add_runI _ _ _ (by omega) (by omega) (by omega)])
            | (gi_at_call 44; refine ((callsIn_wide).2 (bits_Mul64.calls _ _ _ _ _ (mul64s (by omega) (by omega) (by omega) (by omega)))).mono ?_; rintro e w' ⟨rfl, hb⟩; replace HB := HB.trans (hb.below.mono HB.size); clear hb)
            | (gi_at_call 45; refine ((callsIn_wide).2 (fixed_quotient.calls k _ _ _ _ r _ HQ.out)).mono ?_; rintro e w' ⟨rfl, hb⟩; replace HB := HB.trans (hb.mono HB.size); clear hb)
            | refine ⟨trivial, ?_⟩)
          exact bodyPost_ret (v := .int .i64 r) (by simp [results, Tryd.f36, go_sem]) rfl ⟨rfl, HB⟩
theorem fixed_Line.calls (k : Nat) (a0 : Int) (a1 : Int) (a2 : Int) (a3 : Int) (a4 : Int) (r : Int) (w : World) (h : fixed_Line.f k a0 a1 a2 a3 a4 = some r) :
    Calls Tryd.prog 36 #[.int .i64 a0, .int .i64 a1, .int .i64 a2, .int .i64 a3, .int .i64 a4] w fun e w' => e = .returned (.int .i64 r) ∧ Below w.heap.size w w' := by
  unfold fixed_Line.f at h
  by_cases c : sml a0 ∧ sml a1 ∧ sml a2 ∧ sml a3 ∧ sml a4 ∧ a1 < a3
  · rw [if_pos c] at h
    exact (callsIn_wide (n := 9)).1 (line_in k a0 a1 a2 a3 a4 r c.1 c.2.1 c.2.2.1 c.2.2.2.1 c.2.2.2.2.1 c.2.2.2.2.2 w h)
  · rw [if_neg c] at h
    cases h
end Go.Proofs.YtbfcplnaafnlhaaDoor.PT
