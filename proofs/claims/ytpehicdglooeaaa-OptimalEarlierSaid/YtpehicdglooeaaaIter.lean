-- optimal.curve: the iterator's contract.
import Derived.RangeFuncNested
import Derived.RangeFuncBound
import Derived.RangeFuncCalls
import Derived.RangeFuncLeaves
import Derived.RangeFuncWrites
import Derived.Shelf.Abstract
import Derived.WalkKit
import Derived.OwnWalkIn
import Derived.Sort.QuietIn
import Derived.Shelf.RegionOpen
import Derived.TacticsInMore
import Derived.LoopNIn
import Derived.LoopIn
import Derived.Lib.Hide
import Derived.Test.YtpehicdglooeaaaPTx9
import Derived.Test.YtpehicdglooeaaaPTx10
import Derived.Test.YtpehicdglooeaaaPTx6
namespace Go.Proofs.Ytpehicdglooeaaa.PT
open Go.RowKit Go.Shelf Go.Proofs.YtpehicdglooeaaaW.PrintWords Go.Proofs.YtpehicdglooeaaaW.PrintLast Go.Proofs.YtpehicdglooeaaaW.PrintMore
attribute [local go_sem] Oper.semAt_some max2_int min2_int max_two min_two
set_option linter.unusedVariables false
set_option linter.unusedSimpArgs false

def cvHeat (t4 : Bool) : Int := if t4 = true then -1000 else 1000
/-- The temperatures from the minute m on. -/
def cvGo (z0 z1 t2 t3 : Int) (t4 : Bool) (on : Int) (out : List Int) : Nat → Int → Int → Option (List Int)
  | 0, _, _ => none
  | k + 1, m, temp => if m < t3 then (if 0 ≤ m - t2 ∧ m - t2 < out.length then (thermal_Step.f k z0 z1 temp (rd out (m - t2)) (if m ≥ on then cvHeat t4 else 0) 60).bind fun r => (cvGo z0 z1 t2 t3 t4 on out k (m + 1) r.1).bind fun l => some (temp :: l) else none) else some [temp]
theorem cvGo_mono (z0 z1 t2 t3 : Int) (t4 : Bool) (on : Int) (out : List Int) : ∀ k m temp, LeO (cvGo z0 z1 t2 t3 t4 on out k m temp) (cvGo z0 z1 t2 t3 t4 on out (k + 1) m temp)
  | 0, m, temp => fun r h => by simp [cvGo] at h
  | k + 1, m, temp => by
    unfold cvGo
    refine LeO.ite ?_ (fun _ h => h)
    refine LeO.ite ?_ (fun _ h => h)
    refine LeO.bind (thermal_Step.mono _ _ _ _ _ _ _) (fun r => ?_)
    exact LeO.bind (cvGo_mono z0 z1 t2 t3 t4 on out k _ _) (fun _ _ h => h)
/-- What the rounds keep: all below n₀, and the five boxes of the iterator from b on. -/
structure KpC (n₀ b : Nat) (W W' : World) : Prop where
  below : Below n₀ W W'
  boxes : ∀ k o, b ≤ k → k < b + 5 → W.heap[k]? = some o → W'.heap[k]? = some o
theorem KpC.refl (n₀ b : Nat) (W : World) : KpC n₀ b W W := ⟨Below.refl _ _, fun _ _ _ _ h => h⟩
theorem KpC.trans {n₀ b : Nat} {X Y Z : World} (h : KpC n₀ b X Y) (k : KpC n₀ b Y Z) : KpC n₀ b X Z := ⟨h.below.trans k.below, fun i o h1 h2 h0 => k.boxes i o h1 h2 (h.boxes i o h1 h2 h0)⟩
theorem KpC.grown {n₀ b : Nat} {X Y : World} {row : Option Nat} (h : X.grownBy Y row) (hn : n₀ ≤ X.heap.size) (hr : ∀ r, row = some r → n₀ ≤ r ∧ (r < b ∨ b + 5 ≤ r)) : KpC n₀ b X Y :=
  ⟨(Below.refl n₀ X).grown h hn (fun k e => (hr k e).1), fun i o h1 h2 h0 => (h.block i (Array.getElem?_eq_some_iff.1 h0).1 (fun e => by have := (hr i e.symm).2; omega)).trans h0⟩
theorem KpC.of_below {n₀ b : Nat} {X Y : World} (h : Below X.heap.size X Y) (hn : n₀ ≤ X.heap.size) : KpC n₀ b X Y :=
  ⟨h.mono hn, fun i o _ _ h0 => (h.block i (Array.getElem?_eq_some_iff.1 h0).1).trans h0⟩
theorem grown_of_below {X Y : World} (h : Below X.heap.size X Y) : X.grownBy Y none := ⟨h.os, h.tape, h.output, h.size, fun k hk _ => h.block k hk⟩
def encI (x : Int) : Array Value := #[.int .i64 x]
/-- The boxes of a curve: the zone, the task, the temperatures outside, the two minutes. -/
structure CBox (W : World) (b : Nat) (z0 z1 t0 t1 t2 t3 : Int) (t4 : Bool) (A : Option Addr) (len c : Nat) (from_ on : Int) : Prop where
  z : W.heap[b]? = some (.cells #[.int .i64 z0, .int .i64 z1] 23 (0, 0))
  t : W.heap[b + 1]? = some (.cells #[.int .i64 t0, .int .i64 t1, .int .i64 t2, .int .i64 t3, .bool t4] 32 (0, 0))
  o : Boxed W (b + 2) 26 (.slice A len c)
  f : Boxed W (b + 3) 3 (.int .i64 from_)
  n : Boxed W (b + 4) 3 (.int .i64 on)
theorem CBox.kept {W W' : World} {b n₀ : Nat} {z0 z1 t0 t1 t2 t3 : Int} {t4 : Bool} {A : Option Addr} {len c : Nat} {from_ on : Int} (h : CBox W b z0 z1 t0 t1 t2 t3 t4 A len c from_ on) (k : KpC n₀ b W W') : CBox W' b z0 z1 t0 t1 t2 t3 t4 A len c from_ on :=
  ⟨k.boxes _ _ (by omega) (by omega) h.z, k.boxes _ _ (by omega) (by omega) h.t, k.boxes _ _ (by omega) (by omega) h.o, k.boxes _ _ (by omega) (by omega) h.f, k.boxes _ _ (by omega) (by omega) h.n⟩

theorem task_cells {W : World} {b : Nat} {x0 x1 x2 x3 x4 : Value} {t : TypeId} (h : W.heap[b]? = some (.cells #[x0, x1, x2, x3, x4] t (0, 0))) : W.cell? ⟨b, 0, none⟩ = some x0 ∧ W.cell? ⟨b, 1, none⟩ = some x1 ∧ W.cell? ⟨b, 2, none⟩ = some x2 ∧ W.cell? ⟨b, 3, none⟩ = some x3 ∧ W.cell? ⟨b, 4, none⟩ = some x4 := by
  simp [World.cell?, h]
theorem zone_cells {W : World} {b : Nat} {x0 x1 : Value} {t : TypeId} (h : W.heap[b]? = some (.cells #[x0, x1] t (0, 0))) : W.cell? ⟨b, 0, none⟩ = some x0 ∧ W.cell? ⟨b, 1, none⟩ = some x1 := by
  simp [World.cell?, h]
theorem heat_is (t0 t1 t2 t3 : Int) (t4 : Bool) : optimal_Task_heat.f t0 t1 t2 t3 t4 = some (cvHeat t4) := by
  unfold optimal_Task_heat.f cvHeat; split <;> rfl
/-- At the head of a round. -/
def CRel (b n₀ : Nat) (z0 z1 t0 t1 t2 t3 : Int) (t4 : Bool) (A : Option Addr) (c : Nat) (out : List Int) (from_ on : Int) (xs : List Int) (J : List Int → World → Prop) (W : World) (T m : Value) (wr : World) : Prop :=
  ∃ (k : Nat) (tv mv : Int) (pre rest : List Int), T = .int .i64 tv ∧ m = .int .i64 mv ∧ cvGo z0 z1 t2 t3 t4 on out k mv tv = some rest ∧ xs = pre ++ rest ∧ J pre wr ∧ from_ ≤ mv ∧
    CBox wr b z0 z1 t0 t1 t2 t3 t4 A out.length c from_ on ∧ Below n₀ W wr ∧ W.heap.size ≤ wr.heap.size
set_option maxRecDepth 100000 in
set_option maxHeartbeats 4000000 in
theorem curve1_in (n : Nat) (hn : 1 ≤ n) (l b n₀ : Nat) (z0 z1 t0 t1 t2 t3 : Int) (t4 : Bool) (A : Option Addr) (c : Nat) (out : List Int) (from_ on : Int) (hlen : out.length ≤ 4611686018427387904) (hfr : -9223372036854775808 ≤ from_) (ht3 : t3 ≤ 9223372036854775807)
    (k0 : Nat) (xs : List Int) (hxs : cvGo z0 z1 t2 t3 t4 on out k0 from_ t0 = some xs) (J Jx : List Int → World → Prop) (W : World)
    (hn0 : n₀ ≤ W.heap.size) (hJ : AbidesFrom W.heap.size J)
    (hY : ∀ pre x W1, J pre W1 → pre.length < xs.length → YieldAt Fence.wide (n - 1) Try.prog l (encI x) W1 fun e W' =>
      (e = .returned (.bool true) ∧ J (pre ++ [x]) W' ∧ KpC n₀ b W1 W') ∨ (e = .returned (.bool false) ∧ Jx (pre ++ [x]) W'))
    (hb : CBox W b z0 z1 t0 t1 t2 t3 t4 A out.length c from_ on) (hR : ∀ W', Below n₀ W W' → Kd.C (Kd.int .i64) W' A out.length out) (h0 : J [] W) :
    CallsIn Fence.wide n Try.prog 43 #[.func (.yield l) #[] #[], .pointer (some ⟨b + 1, 0, none⟩), .pointer (some ⟨b + 3, 0, none⟩), .pointer (some ⟨b + 4, 0, none⟩), .pointer (some ⟨b, 0, none⟩), .pointer (some ⟨b + 2, 0, none⟩)] W fun e W' => (∃ v, e = .returned v) ∧
      ((∃ ys, ys = xs ∧ J ys W') ∨ (∃ pre, (∃ r, pre ++ r = xs) ∧ Jx pre W')) := by
  refine callsIn_of_wp Try.func43 rfl trivial ?_ rfl
  simp only [Try.ntmps43, List.size_toArray, List.length_cons, List.length_nil, Nat.reduceAdd, Nat.reduceSub, Array.replicate_succ, Array.replicate_zero, List.push_toArray, List.append_toArray, List.nil_append, List.cons_append]
  have hmx : Try.prog.follows .mixedOrders = true := by kernel_rfl
  have hu32 := Try.underlying32
  have hu23 := Try.underlying23
  have cf := hb.f.cell
  have ct := blk_cell hb.t 0
  gi_wp2
  gi_loopw [7, 8] (fun T m wr => CRel b n₀ z0 z1 t0 t1 t2 t3 t4 A c out from_ on xs J W T m wr) (fun _ m _ => (t3 - intOf m).toNat)
  case atStart => exact ⟨k0, t0, from_, [], xs, rfl, rfl, hxs, rfl, h0, Int.le_refl _, hb, Below.refl _ _, Nat.le_refl _⟩
  case round =>
    obtain ⟨k, tv, mv, pre, rest, rfl, rfl, hgo, hxp, hj, hfm, bx, hbel, hsz⟩ := hrel
    cases k with
    | zero => simp [cvGo] at hgo
    | succ k =>
      unfold cvGo at hgo
      have hrne : rest ≠ [] := by
        intro e
        rw [e] at hgo
        split at hgo
        · split at hgo
          · obtain ⟨r, _, hgo⟩ := Option.bind_eq_some_iff.mp hgo
            obtain ⟨r, _, hgo⟩ := Option.bind_eq_some_iff.mp hgo
            cases hgo
          · cases hgo
        · cases hgo
      have hlt0 : pre.length < xs.length := by
        rw [hxp, List.length_append]
        have := List.length_pos_iff.2 hrne
        omega
      obtain ⟨fn, tmps, assign, body, hy, hR'⟩ := hY pre tv wr hj hlt0
      dsimp only [encI] at hy
      have HXP := Lib.hid hxp
      have HR := Lib.hid hR
      clear hxp hR hrne
      by_cases hm : mv < t3
      · rw [if_pos hm] at hgo
        obtain ⟨hi, hgo⟩ : (0 ≤ mv - t2 ∧ mv - t2 < out.length) ∧ _ := by
          split at hgo
          · exact ⟨‹_›, hgo⟩
          · cases hgo
        obtain ⟨⟨nx, er⟩, hst, hgo⟩ := Option.bind_eq_some_iff.mp hgo
        obtain ⟨l', hl', hgo⟩ := Option.bind_eq_some_iff.mp hgo
        obtain rfl : tv :: l' = rest := Option.some.inj hgo
        clear hgo
        gi_wp2
        refine hR'.mono ?_
        rintro e W3 (⟨rfl, hJ3, hk3⟩ | ⟨rfl, hJx3⟩)
        · have bx3 := bx.kept hk3
          have hb3 : Below n₀ W W3 := hbel.trans hk3.below
          obtain ⟨c0, c1, c2, c3, c4⟩ := task_cells bx3.t
          obtain ⟨y0, y1⟩ := zone_cells bx3.z
          have cn := bx3.n.cell
          have co := bx3.o.cell
          have hs3 : W.heap.size ≤ W3.heap.size := Nat.le_trans hsz hk3.below.size
          by_cases hon : mv ≥ on
          · rw [if_pos hon] at hst
            gi_wp2_with (refine ⟨trivial, ?_⟩; gi_at_call 44; refine ((callsIn_wide).2 (optimal_Task_heat.calls t0 t1 t2 t3 t4 (cvHeat t4) _ (heat_is t0 t1 t2 t3 t4))).mono ?_; rintro e w4 ⟨rfl, hw4⟩)
            have bx4 := bx3.kept (n₀ := n₀) (KpC.of_below hw4 (by omega))
            have hb4 : Below n₀ W w4 := hb3.trans (hw4.mono (by omega))
            have hJ4 : J (pre ++ [tv]) w4 := hJ _ _ _ none hJ3 (grown_of_below hw4) (fun r e => by cases e)
            have hs4 : W.heap.size ≤ w4.heap.size := Nat.le_trans hs3 hw4.size
            clear c0 c1 c2 c3 c4 y0 y1 cn co
            obtain ⟨c0, c1, c2, c3, c4⟩ := task_cells bx4.t
            obtain ⟨y0, y1⟩ := zone_cells bx4.z
            have co := bx4.o.cell
            obtain ⟨ad, rfl, x0⟩ := Kd.at_int (HR.out w4 hb4) (mv - t2) hi.1 hi.2
            have hw1 : IntKind.i64.wrap (mv - t2) = mv - t2 := by rw [IntKind.wrap_i64]; omega
            have hi1 := hi.1
            have hi2 := hi.2
            have hi3 : ¬ (mv - t2 < 0) := by omega
            have hi4 : ¬ (↑out.length ≤ mv - t2) := by omega
            have HST := Lib.hid hst
            have HL := Lib.hid hl'
            clear hst hl'
            gi_wp2
            gi_region_with_o (refine ⟨trivial, ?_⟩; gi_at_call 42; refine ((callsIn_wide).2 (thermal_Step.calls k z0 z1 tv (rd out (mv - t2)) (cvHeat t4) 60 nx er _ HST.out)).mono ?_; rintro e w' ⟨rfl, hw'⟩)
            all_goals (
              gi_wp2
              go_roundw
              case rel =>
                have hw'' : Below w4.heap.size w4 w' := ((Below.refl _ w4).drew).trans hw'
                have hj5 : J (pre ++ [tv]) w' := hJ _ _ _ none hJ4 (grown_of_below hw'') (fun r e => by cases e)
                exact ⟨k, nx, mv + 1, pre ++ [tv], l', rfl, rfl, HL.out, by rw [HXP.out]; simp, hj5, by omega, bx4.kept (n₀ := n₀) (KpC.of_below hw'' (by omega)), hb4.trans (hw''.mono (by omega)), by have := hw''.size; omega⟩
              case measure => simp [intOf]; omega)
          · rw [if_neg hon] at hst
            obtain ⟨ad, rfl, x0⟩ := Kd.at_int (HR.out W3 hb3) (mv - t2) hi.1 hi.2
            have hw1 : IntKind.i64.wrap (mv - t2) = mv - t2 := by rw [IntKind.wrap_i64]; omega
            have hi1 := hi.1
            have hi2 := hi.2
            have hi3 : ¬ (mv - t2 < 0) := by omega
            have hi4 : ¬ (↑out.length ≤ mv - t2) := by omega
            have HST := Lib.hid hst
            have HL := Lib.hid hl'
            clear hst hl'
            gi_wp2
            gi_region_with_o (refine ⟨trivial, ?_⟩; gi_at_call 42; refine ((callsIn_wide).2 (thermal_Step.calls k z0 z1 tv (rd out (mv - t2)) 0 60 nx er _ HST.out)).mono ?_; rintro e w' ⟨rfl, hw'⟩)
            all_goals (
              gi_wp2
              go_roundw
              case rel =>
                have hw'' : Below W3.heap.size W3 w' := ((Below.refl _ W3).drew).trans hw'
                have hj5 : J (pre ++ [tv]) w' := hJ _ _ _ none hJ3 (grown_of_below hw'') (fun r e => by cases e)
                exact ⟨k, nx, mv + 1, pre ++ [tv], l', rfl, rfl, HL.out, by rw [HXP.out]; simp, hj5, by omega, bx3.kept (n₀ := n₀) (KpC.of_below hw'' (by omega)), hb3.trans (hw''.mono (by omega)), by have := hw''.size; omega⟩
              case measure => simp [intOf]; omega)
        · gi_wp2
          go_end0
          refine ⟨⟨_, rfl⟩, .inr ⟨_, ⟨l', by rw [HXP.out]; simp⟩, hJx3⟩⟩
      · rw [if_neg hm] at hgo
        obtain rfl : [tv] = rest := Option.some.inj hgo
        gi_wp2
        refine hR'.mono ?_
        rintro e W3 (⟨rfl, hJ3, hk3⟩ | ⟨rfl, hJx3⟩)
        · have bx3 := bx.kept hk3
          have c3 := (task_cells bx3.t).2.2.2.1
          gi_wp2
          go_end0
          exact ⟨⟨_, rfl⟩, .inl ⟨_, HXP.out.symm, hJ3⟩⟩
        · gi_wp2
          go_end0
          exact ⟨⟨_, rfl⟩, .inr ⟨_, ⟨[], by rw [HXP.out]; simp⟩, hJx3⟩⟩
end Go.Proofs.Ytpehicdglooeaaa.PT
