-- optimal.reach.
import Derived.Test.YtpehicdglooeaaaIter
namespace Go.Proofs.Ytpehicdglooeaaa.PT
open Go.RowKit Go.Shelf Go.Proofs.YtpehicdglooeaaaW.PrintWords Go.Proofs.YtpehicdglooeaaaW.PrintLast Go.Proofs.YtpehicdglooeaaaW.PrintMore
attribute [local go_sem] Oper.semAt_some max2_int min2_int max_two min_two
set_option linter.unusedVariables false
set_option linter.unusedSimpArgs false

def crvClo (b : Nat) : Value := .func (.func 43) #[] #[.pointer (some ⟨b + 1, 0, none⟩), .pointer (some ⟨b + 3, 0, none⟩), .pointer (some ⟨b + 4, 0, none⟩), .pointer (some ⟨b, 0, none⟩), .pointer (some ⟨b + 2, 0, none⟩)]
def crvWorld (w : World) (z0 z1 t0 t1 t2 t3 : Int) (t4 : Bool) (A : Option Addr) (len c : Nat) (from_ on : Int) : World :=
  ((((w.alloc (.cells #[.int .i64 z0, .int .i64 z1] 23)).alloc (.cells #[.int .i64 t0, .int .i64 t1, .int .i64 t2, .int .i64 t3, .bool t4] 32)).alloc (.cells #[.slice A len c] 26)).alloc (.cells #[.int .i64 from_] 3)).alloc (.cells #[.int .i64 on] 3)
theorem crvWorld_size (w : World) (z0 z1 t0 t1 t2 t3 : Int) (t4 : Bool) (A : Option Addr) (len c : Nat) (from_ on : Int) : (crvWorld w z0 z1 t0 t1 t2 t3 t4 A len c from_ on).heap.size = w.heap.size + 5 := by unfold crvWorld; simp
theorem crvWorld_below (w : World) (z0 z1 t0 t1 t2 t3 : Int) (t4 : Bool) (A : Option Addr) (len c : Nat) (from_ on : Int) : Below w.heap.size w (crvWorld w z0 z1 t0 t1 t2 t3 t4 A len c from_ on) := by
  unfold crvWorld
  exact (((((Below.refl _ w).alloc (Nat.le_refl _) _).alloc (by simp) _).alloc (by simp; omega) _).alloc (by simp; omega) _).alloc (by simp; omega) _
theorem crvWorld_box (w : World) (z0 z1 t0 t1 t2 t3 : Int) (t4 : Bool) (A : Option Addr) (len c : Nat) (from_ on : Int) : CBox (crvWorld w z0 z1 t0 t1 t2 t3 t4 A len c from_ on) w.heap.size z0 z1 t0 t1 t2 t3 t4 A len c from_ on := by
  have h : ∀ (W : World) (o : Obj) (k : Nat) (x : Obj), W.heap[k]? = some x → (W.alloc o).heap[k]? = some x := fun W o k x hk => (Below.heap_alloc W o k (Array.getElem?_eq_some_iff.1 hk).1).trans hk
  have g : ∀ (W : World) (o : Obj) (j : Nat), W.heap.size = j → (W.alloc o).heap[j]? = some o := fun W o j e => by rw [← e]; exact World.alloc_heap_new W o
  unfold crvWorld
  refine ⟨?_, ?_, ?_, ?_, ?_⟩
  · exact h _ _ _ _ (h _ _ _ _ (h _ _ _ _ (h _ _ _ _ (g _ _ _ rfl))))
  · exact h _ _ _ _ (h _ _ _ _ (h _ _ _ _ (g _ _ _ (by simp))))
  · exact h _ _ _ _ (h _ _ _ _ (g _ _ _ (by simp)))
  · exact h _ _ _ _ (g _ _ _ (by simp))
  · exact g _ _ _ (by simp)
set_option maxHeartbeats 1000000 in
theorem curve_in (n : Nat) (z0 z1 t0 t1 t2 t3 : Int) (t4 : Bool) (A : Option Addr) (len c : Nat) (from_ on : Int) (w : World) :
    CallsIn Fence.wide n Try.prog 33 #[.agg #[.int .i64 z0, .int .i64 z1], .agg #[.int .i64 t0, .int .i64 t1, .int .i64 t2, .int .i64 t3, .bool t4], .slice A len c, .int .i64 from_, .int .i64 on] w fun e w' =>
      e = .returned (crvClo w.heap.size) ∧ w' = crvWorld w z0 z1 t0 t1 t2 t3 t4 A len c from_ on := by
  refine callsIn_of_wp Try.func33 rfl trivial ?_ rfl
  simp only [Try.ntmps33, List.size_toArray, List.length_cons, List.length_nil, Nat.reduceAdd, Nat.reduceSub, Array.replicate_succ, Array.replicate_zero, List.push_toArray, List.append_toArray, List.nil_append, List.cons_append]
  have hu32 := Try.underlying32
  have hu23 := Try.underlying23
  gi_wp2
  go_ret
  exact ⟨rfl, rfl⟩
theorem curve_gives (n : Nat) (hn : 1 ≤ n) (b n₀ : Nat) (z0 z1 t0 t1 t2 t3 : Int) (t4 : Bool) (A : Option Addr) (c : Nat) (out : List Int) (from_ on : Int) (hlen : out.length ≤ 4611686018427387904) (hfr : -9223372036854775808 ≤ from_) (ht3 : t3 ≤ 9223372036854775807)
    (k0 : Nat) (xs : List Int) (hxs : cvGo z0 z1 t2 t3 t4 on out k0 from_ t0 = some xs) (w : World) (hn0 : n₀ ≤ w.heap.size) (hb : CBox w b z0 z1 t0 t1 t2 t3 t4 A out.length c from_ on) (hR : ∀ W', Below n₀ w W' → Kd.C (Kd.int .i64) W' A out.length out) :
    SeqStopsK Fence.wide n Try.prog 43 #[.pointer (some ⟨b + 1, 0, none⟩), .pointer (some ⟨b + 3, 0, none⟩), .pointer (some ⟨b + 4, 0, none⟩), .pointer (some ⟨b, 0, none⟩), .pointer (some ⟨b + 2, 0, none⟩)] encI (KpC n₀ b) (fun ys => ys = xs) (fun pre => ∃ r, pre ++ r = xs) xs.length w := fun l J Jx W hW hJ _ hY h0 =>
  curve1_in n hn l b n₀ z0 z1 t0 t1 t2 t3 t4 A c out from_ on hlen hfr ht3 k0 xs hxs J Jx W (Nat.le_trans hn0 hW.size) hJ hY (hb.kept (n₀ := n₀) (KpC.of_below hW hn0)) (fun W' h => hR W' ((hW.mono hn0).trans h)) h0

/-- The last one, or t0. -/
def lastOf (t0 : Int) (xs : List Int) : Int := xs.foldl (fun _ x => x) t0
theorem lastOf_snoc (t0 : Int) (xs : List Int) (x : Int) : lastOf t0 (xs ++ [x]) = x := by unfold lastOf; rw [List.foldl_append]; rfl
set_option maxRecDepth 100000 in
set_option maxHeartbeats 2000000 in
theorem reach_in (z0 z1 t0 t1 t2 t3 : Int) (t4 : Bool) (A : Option Addr) (c : Nat) (out : List Int) (on : Int) (hlen : out.length ≤ 4611686018427387904) (hfr : -9223372036854775808 ≤ t2) (ht3 : t3 ≤ 9223372036854775807)
    (k0 : Nat) (xs : List Int) (hxs : cvGo z0 z1 t2 t3 t4 on out k0 t2 t0 = some xs) (w : World) (hC : Kd.C (Kd.int .i64) w A out.length out) :
    CallsIn Fence.wide 9 Try.prog 28 #[.agg #[.int .i64 z0, .int .i64 z1], .agg #[.int .i64 t0, .int .i64 t1, .int .i64 t2, .int .i64 t3, .bool t4], .slice A out.length c, .int .i64 on] w fun e w' =>
      e = .returned (.int .i64 (lastOf t0 xs)) ∧ Below w.heap.size w w' := by
  refine callsIn_of_wp_marks Try.func28 rfl trivial ?_ rfl
  simp only [Try.ntmps28, List.size_toArray, List.length_cons, List.length_nil, Nat.reduceAdd, Nat.reduceSub, Array.replicate_succ, Array.replicate_zero, List.push_toArray, List.append_toArray, List.nil_append, List.cons_append]
  have hu32 := Try.underlying32
  have hu23 := Try.underlying23
  gi_wp2_with (refine ⟨trivial, ?_⟩; gi_at_call 33; refine (curve_in _ _ _ _ _ _ _ _ _ _ _ _ _ _).mono ?_; rintro e w' ⟨rfl, rfl⟩)
  obtain ⟨w0, hw0⟩ : ∃ w0, ((w.alloc (.cells #[.int .i64 z0, .int .i64 z1] 23)).alloc (.cells #[.int .i64 t0, .int .i64 t1, .int .i64 t2, .int .i64 t3, .bool t4] 32)).alloc (.cells #[.int .i64 t0] 2) = w0 := ⟨_, rfl⟩
  have s0 : w0.heap.size = w.heap.size + 1 + 1 + 1 := by rw [← hw0]; simp
  have h0 : Below w.heap.size w w0 := by rw [← hw0]; exact (((Below.refl _ w).alloc (Nat.le_refl _) _).alloc (by simp) _).alloc (by simp; omega) _
  have bL : Boxed w0 (w.heap.size + 1 + 1) 2 (.int .i64 t0) := by
    rw [← hw0]
    have := Boxed.new ((w.alloc (.cells #[.int .i64 z0, .int .i64 z1] 23)).alloc (.cells #[.int .i64 t0, .int .i64 t1, .int .i64 t2, .int .i64 t3, .bool t4] 32)) 2 (.int .i64 t0)
    simpa using this
  rw [hw0, ← s0]
  clear hw0
  obtain ⟨w1, hw1⟩ : ∃ w1, crvWorld w0 z0 z1 t0 t1 t2 t3 t4 A out.length c t2 on = w1 := ⟨_, rfl⟩
  have s1 : w1.heap.size = w0.heap.size + 5 := by rw [← hw1]; exact crvWorld_size ..
  have h1 : Below w0.heap.size w0 w1 := by rw [← hw1]; exact crvWorld_below ..
  have hbx : CBox w1 w0.heap.size z0 z1 t0 t1 t2 t3 t4 A out.length c t2 on := by rw [← hw1]; exact crvWorld_box ..
  have h01 : Below w.heap.size w w1 := h0.trans (h1.mono (by omega))
  have bL1 : Boxed w1 (w.heap.size + 1 + 1) 2 (.int .i64 t0) := (h1.block _ (by omega)).trans bL
  rw [hw1]
  clear hw1 bL
  refine wpIn_rangeFunc_ownG rfl (by omega) (gf := 43) rfl trivial (enters_of Try.func43 (by kernel_rfl) rfl)
    (curve_gives 8 (by omega) w0.heap.size w.heap.size z0 z1 t0 t1 t2 t3 t4 A c out t2 on hlen hfr ht3 k0 xs hxs w1 (by omega) hbx (fun W' h => Kd.C_below hC (h01.trans h)))
    KpC.trans (fun W l o o' hl h _ _ => KpC.grown (grownBy_putObj' W l o') (by have := (Array.getElem?_eq_some_iff.1 h).1; omega) (fun r e => by cases e; omega)) (Below.refl _ w1) (fun _ => rfl)
    (fun pre W => Boxed W (w.heap.size + 1 + 1) 2 (.int .i64 (lastOf t0 pre)) ∧ Below w.heap.size w W)
    (fun _ _ _ => False)
    (OwnFrom.and ((boxed_own (w.heap.size + 1 + 1) 2 (fun (pre : List Int) => .int .i64 (lastOf t0 pre))).from _) (ownFrom_below (Nat.le_refl _) (by omega)))
    (fun _ _ _ _ _ hs _ _ => hs)
    ⟨bL1, h01⟩
    (fun x => { tmps := #[.agg #[.int .i64 z0, .int .i64 z1], .agg #[.int .i64 t0, .int .i64 t1, .int .i64 t2, .int .i64 t3, .bool t4], .slice A out.length c, .int .i64 on, .pointer (some ⟨w.heap.size, 0, none⟩), .pointer (some ⟨w.heap.size + 1, 0, none⟩), undef, undef, .int .i64 0, .pointer (some ⟨w.heap.size + 1 + 1, 0, none⟩), .int .i64 x, .pointer (some ⟨w.heap.size + 1, 0, none⟩), .int .i64 t0, .agg #[.int .i64 z0, .int .i64 z1], .agg #[.int .i64 t0, .int .i64 t1, .int .i64 t2, .int .i64 t3, .bool t4], .slice A out.length c, .pointer (some ⟨w.heap.size + 1, 2, none⟩), .int .i64 t2, .int .i64 on, crvClo w0.heap.size, .int .i64 x, undef, undef], defers := [] })
    ?assign ?body ?done ?stop
  case assign =>
    rintro l x W K hK
    dsimp only [encI]
    gi_wp2
    rw [s0] at hK
    exact hK
  case body =>
    rintro l pre x W ⟨b1, hB⟩ hlt
    have c1 := b1.cell
    have f1 := b1.frozen
    gi_wp2
    refine ⟨(KeepsOthers.setCell _ _ _).from _, KpC.grown (grownBy_setCell' W _ _) (hB.size) (fun r e => by cases e; omega), ?_, hB.setCell (p := ⟨w.heap.size + 1 + 1, 0, none⟩) (by simp; omega) _⟩
    rw [lastOf_snoc]
    exact b1.set (.int .i64 x)
  case done =>
    rintro D ys W hD rfl ⟨b1, hB⟩ hK
    have c1 := b1.cell
    gi_wp2
    refine ⟨by simp, .inl ⟨_, _, rfl, run_takeDeferred hK, ?_⟩⟩
    exact ⟨_, results_tmp rfl _ _ _, rfl, hB.trans (belowK_b (w := w) (Nat.le_refl _) W D _ _ (by omega) hK rfl rfl)⟩
  case stop =>
    rintro D c pre W _ _ h _
    exact h.elim

def optimal_reach.f (k : Nat) (a0_0 a0_1 a1_0 a1_1 a1_2 a1_3 : Int) (a1_4 : Bool) (l2 : List Int) (a3 : Int) : Option Int :=
  if -9223372036854775808 ≤ a1_2 ∧ a1_3 ≤ 9223372036854775807 ∧ l2.length ≤ 4611686018427387904 then (cvGo a0_0 a0_1 a1_2 a1_3 a1_4 a3 l2 k a1_2 a1_0).bind fun xs => some (lastOf a1_0 xs) else none
theorem optimal_reach.mono : ∀ a0 a1 a2 a3 a4 a5 a6 a7 a8 k, LeO (optimal_reach.f k a0 a1 a2 a3 a4 a5 a6 a7 a8) (optimal_reach.f (k + 1) a0 a1 a2 a3 a4 a5 a6 a7 a8) := by
  intro a0 a1 a2 a3 a4 a5 a6 a7 a8 k
  unfold optimal_reach.f
  refine LeO.ite ?_ (fun _ h => h)
  exact LeO.bind (cvGo_mono _ _ _ _ _ _ _ _ _ _) (fun _ _ h => h)
theorem optimal_reach.calls (k : Nat) (a0_0 a0_1 a1_0 a1_1 a1_2 a1_3 : Int) (a1_4 : Bool) (A2 : Option Addr) (c2 : Nat) (l2 : List Int) (a3 : Int) (r : Int) (w : World) (hr2 : Kd.C (Kd.int .i64) w A2 l2.length l2) (hc2 : l2.length ≤ c2) (h : optimal_reach.f k a0_0 a0_1 a1_0 a1_1 a1_2 a1_3 a1_4 l2 a3 = some r) :
    Calls Try.prog 28 #[.agg #[.int .i64 a0_0, .int .i64 a0_1], .agg #[.int .i64 a1_0, .int .i64 a1_1, .int .i64 a1_2, .int .i64 a1_3, .bool a1_4], .slice A2 l2.length c2, .int .i64 a3] w fun e w' => e = .returned (.int .i64 r) ∧ Below w.heap.size w w' := by
  unfold optimal_reach.f at h
  by_cases hl : -9223372036854775808 ≤ a1_2 ∧ a1_3 ≤ 9223372036854775807 ∧ l2.length ≤ 4611686018427387904
  · rw [if_pos hl] at h
    obtain ⟨xs, hxs, h⟩ := Option.bind_eq_some_iff.mp h
    have h := Option.some.inj h
    have := (callsIn_wide (n := 9)).1 (reach_in a0_0 a0_1 a1_0 a1_1 a1_2 a1_3 a1_4 A2 c2 l2 a3 hl.2.2 hl.1 hl.2.1 k xs hxs w hr2)
    rw [h] at this
    exact this
  · rw [if_neg hl] at h
    cases h
end Go.Proofs.Ytpehicdglooeaaa.PT
