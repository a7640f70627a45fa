-- optimal.Stop, at the two inputs at which it is called.
import Derived.Test.YtpehicdglooeaaaCurve
import Derived.Scope
namespace Go.Proofs.Ytpehicdglooeaaa.PT
open Go.RowKit Go.Shelf Go.Proofs.YtpehicdglooeaaaW.PrintWords Go.Proofs.YtpehicdglooeaaaW.PrintLast Go.Proofs.YtpehicdglooeaaaW.PrintMore
attribute [local go_sem] Oper.semAt_some max2_int min2_int max_two min_two
set_option pp.deepTerms true
set_option pp.maxSteps 1000000
set_option linter.unusedVariables false
set_option linter.unusedSimpArgs false

theorem wpIn_scope_wide {n : Nat} {P : Program} {Q : Exit → Act → World → Prop} {a : Act} {w : World} {c : Code} (h : c.wpIn Fence.wide n P (Exit.noGoto Q) a w) : (Code.scope c).wpIn Fence.wide n P Q a w :=
  wpIn_wide.2 (wp_scope_straight (wpIn_wide.1 h))
set_option maxRecDepth 100000 in
set_option maxHeartbeats 4000000 in
theorem stop40 (A : Option Addr) (c : Nat) (w : World) (hC : Kd.C (Kd.int .i64) w A 2 [0, 0]) (hc : 2 ≤ c) :
    CallsIn Fence.wide 9 Try.prog 23 #[.agg #[.int .i64 60, .int .i64 0], .agg #[.int .i64 20000, .int .i64 20000, .int .i64 0, .int .i64 2, .bool false], .slice A 2 c, .int .i64 40] w fun e w' =>
      e = .returned (.tuple #[.int .i64 0, .int .i64 0]) ∧ Below w.heap.size w w' := by
  have hk : optimal_check.f 20 60 0 20000 20000 0 2 false [0, 0] = some 0 := by kernel_rfl
  have hch := fun W (h : Below w.heap.size w W) => (callsIn_wide (n := 8)).2 (optimal_check.calls 20 60 0 20000 20000 0 2 false A c [0, 0] 0 W (Kd.C_below hC h) hc hk)
  have HCH := Lib.hid hch
  have HK := Lib.hid hk
  clear hch hk
  refine callsIn_of_wp_marks Try.func23 rfl trivial ?_ rfl
  simp only [Try.ntmps23, List.size_toArray, List.length_cons, List.length_nil, Nat.reduceAdd, Nat.reduceSub, Array.replicate_succ, Array.replicate_zero, List.push_toArray, List.append_toArray, List.nil_append, List.cons_append]
  have hu32 := Try.underlying32
  have hu23 := Try.underlying23
  have hmx : Try.prog.follows .mixedOrders = true := by kernel_rfl
  obtain ⟨W0, hW0⟩ : ∃ W0, (w.alloc (.cells #[.int .i64 60, .int .i64 0] 23)).alloc (.cells #[.int .i64 20000, .int .i64 20000, .int .i64 0, .int .i64 2, .bool false] 32) = W0 := ⟨_, rfl⟩
  have s0 : W0.heap.size = w.heap.size + 1 + 1 := by rw [← hW0]; simp
  have h0 : Below w.heap.size w W0 := by rw [← hW0]; exact ((Below.refl _ w).alloc (Nat.le_refl _) _).alloc (by simp) _
  have bz : W0.heap[w.heap.size]? = some (.cells #[.int .i64 60, .int .i64 0] 23 (0, 0)) := by rw [← hW0]; exact (Below.heap_alloc _ _ _ (by simp)).trans (World.alloc_heap_new w _)
  have bt : W0.heap[w.heap.size + 1]? = some (.cells #[.int .i64 20000, .int .i64 20000, .int .i64 0, .int .i64 2, .bool false] 32 (0, 0)) := by
    rw [← hW0]
    have := World.alloc_heap_new (w.alloc (.cells #[.int .i64 60, .int .i64 0] 23)) (.cells #[.int .i64 20000, .int .i64 20000, .int .i64 0, .int .i64 2, .bool false] 32)
    rwa [World.size_alloc] at this
  obtain ⟨y0, y1⟩ := zone_cells bz
  obtain ⟨c0, c1, c2, c3, c4⟩ := task_cells bt
  gi_wp2
  refine wpIn_scope_wide ?_
  gi_wp2_with (first
    | (gi_at_call 24; refine (HCH.out W0 h0).mono ?_; rintro e w2 ⟨rfl, hw2⟩; have bz2 := (hw2.block _ (by omega)).trans bz; have bt2 := (hw2.block _ (by omega)).trans bt; obtain ⟨z0', z1'⟩ := zone_cells bz2; obtain ⟨d0, d1, d2, d3, d4⟩ := task_cells bt2; have l0 : w.heap.size < w2.heap.size := (by have := hw2.size; omega); have l1 : w.heap.size + 1 < w2.heap.size := (by have := hw2.size; omega))
    | (gi_at_call 33; refine (curve_in _ _ _ _ _ _ _ _ _ _ _ _ _ _).mono ?_; rintro e w' ⟨rfl, rfl⟩)
    | refine ⟨trivial, ?_⟩)
  refine wpIn_label ?_
  gi_wp2
  refine wpIn_loop_rounds 1 ?_
  rw [roundsIn_succ]
  gi_wp2_with (first
    | (gi_at_call 24; refine (HCH.out W0 h0).mono ?_; rintro e w2 ⟨rfl, hw2⟩; have bz2 := (hw2.block _ (by omega)).trans bz; have bt2 := (hw2.block _ (by omega)).trans bt; obtain ⟨z0', z1'⟩ := zone_cells bz2; obtain ⟨d0, d1, d2, d3, d4⟩ := task_cells bt2; have l0 : w.heap.size < w2.heap.size := (by have := hw2.size; omega); have l1 : w.heap.size + 1 < w2.heap.size := (by have := hw2.size; omega))
    | (gi_at_call 33; refine (curve_in _ _ _ _ _ _ _ _ _ _ _ _ _ _).mono ?_; rintro e w' ⟨rfl, rfl⟩)
    | refine ⟨trivial, ?_⟩)
  have hb2 : Below w.heap.size w w2 := h0.trans (hw2.mono (by omega))
  obtain ⟨w3, hw3⟩ : ∃ w3, w2.alloc (.cells #[.int .i64 19960] 2) = w3 := ⟨_, rfl⟩
  have s3 : w3.heap.size = w2.heap.size + 1 := by rw [← hw3]; simp
  have h3 : Below w.heap.size w w3 := by rw [← hw3]; exact hb2.alloc (by omega) _
  have hb23 : Below w2.heap.size w2 w3 := by rw [← hw3]; exact (Below.refl _ w2).alloc (Nat.le_refl _) _
  have bL : Boxed w3 w2.heap.size 2 (.int .i64 19960) := by rw [← hw3]; exact Boxed.new w2 2 _
  have bt3 := (hb23.block _ (by omega)).trans bt2
  have bz3 := (hb23.block _ (by omega)).trans bz2
  rw [hw3]
  rw [← s3]
  clear hw3 y0 y1 c0 c1 c2 c3 c4 z0' z1' d0 d1 d2 d3 d4 bz2 bt2 bz bt hW0 HCH hw2
  have hxs : cvGo 60 0 0 2 false 3 [0, 0] 20 0 20000 = some [20000, 19980, 19960] := by kernel_rfl
  obtain ⟨w1, hw1⟩ : ∃ w1, crvWorld w3 60 0 20000 20000 0 2 false A 2 c 0 3 = w1 := ⟨_, rfl⟩
  have s1 : w1.heap.size = w3.heap.size + 5 := by rw [← hw1]; exact crvWorld_size ..
  have h1 : Below w3.heap.size w3 w1 := by rw [← hw1]; exact crvWorld_below ..
  have hbx : CBox w1 w3.heap.size 60 0 20000 20000 0 2 false A 2 c 0 3 := by rw [← hw1]; exact crvWorld_box ..
  have h01 : Below w.heap.size w w1 := h3.trans (h1.mono (by omega))
  have bL1 : Boxed w1 w2.heap.size 2 (.int .i64 19960) := (h1.block _ (by omega)).trans bL
  have bt1 := (h1.block _ (by omega)).trans bt3
  have bz1 := (h1.block _ (by omega)).trans bz3
  rw [hw1]
  clear hw1
  refine wpIn_rangeFunc_ownG rfl (by omega) (gf := 43) rfl trivial (enters_of Try.func43 (by kernel_rfl) rfl)
    (curve_gives 8 (by omega) w3.heap.size w1.heap.size 60 0 20000 20000 0 2 false A c [0, 0] 0 3 (by decide) (by omega) (by omega) 20 [20000, 19980, 19960] hxs w1 (Nat.le_refl _) hbx (fun W' h => Kd.C_below hC (h01.trans (h.mono (by have := h01.size; omega)))))
    KpC.trans (fun W l o o' hl h _ _ => KpC.grown (grownBy_putObj' W l o') (by have := (Array.getElem?_eq_some_iff.1 h).1; omega) (fun r e => by cases e; omega)) (Below.refl _ w1) (fun _ => rfl)
    (fun pre W => (∀ x ∈ pre, 19960 ≤ x) ∧ Below w1.heap.size w1 W)
    (fun cd pre W => (cd = .exit 1 ∧ ∃ x ∈ pre, x < 19960) ∧ Below w1.heap.size w1 W)
    (OwnFrom.and (ownFrom_pure _ (fun (pre : List Int) => ∀ x ∈ pre, 19960 ≤ x)) (ownFrom_below (Nat.le_refl _) (Nat.le_refl _)))
    (fun cd => OwnFrom.and (ownFrom_pure _ (fun (pre : List Int) => cd = .exit 1 ∧ ∃ x ∈ pre, x < 19960)) (ownFrom_below (Nat.le_refl _) (Nat.le_refl _)))
    ⟨fun x hx => (by cases hx), Below.refl _ _⟩
    (fun x => { tmps := #[Value.agg #[Value.int .i64 60, Value.int .i64 0], Value.agg #[Value.int .i64 20000, Value.int .i64 20000, Value.int .i64 0, Value.int .i64 2, Value.bool false], Value.slice A 2 c, Value.int .i64 40, Value.pointer (some ⟨w.heap.size, 0, none⟩), Value.pointer (some ⟨w.heap.size + 1, 0, none⟩), undef, undef, Value.int .i64 0, Value.int .i64 0, Value.int .i64 0, Value.pointer (some ⟨w2.heap.size, 0, none⟩), Value.int .i64 0, Value.int .i64 x, Value.agg #[Value.int .i64 60, Value.int .i64 0], Value.agg #[Value.int .i64 20000, Value.int .i64 20000, Value.int .i64 0, Value.int .i64 2, Value.bool false], Value.slice A 2 c, Value.int .i64 0, Value.int .i64 0, Value.bool false, undef, Value.int .i64 40, Value.bool false, Value.bool false, Value.int .i64 40, Value.bool false, Value.bool false, Value.pointer (some ⟨w.heap.size + 1, 1, none⟩), Value.int .i64 20000, Value.int .i64 40, Value.int .i64 19960, Value.pointer (some ⟨w.heap.size + 1, 4, none⟩), Value.bool false, undef, undef, undef, undef, Value.pointer (some ⟨w.heap.size + 1, 2, none⟩), Value.int .i64 0, Value.int .i64 0, Value.pointer (some ⟨w.heap.size + 1, 3, none⟩), Value.int .i64 2, Value.bool true, undef, undef, Value.agg #[Value.int .i64 60, Value.int .i64 0], Value.agg #[Value.int .i64 20000, Value.int .i64 20000, Value.int .i64 0, Value.int .i64 2, Value.bool false], Value.slice A 2 c, Value.int .i64 0, Value.pointer (some ⟨w.heap.size + 1, 3, none⟩), Value.int .i64 2, Value.int .i64 3, crvClo (w2.heap.size + 1), Value.int .i64 x, undef, undef, undef, undef, undef, undef], defers := [] })
    ?assign ?body ?done ?stop
  case assign =>
    rintro l x W K hK
    dsimp only [encI]
    gi_wp2
    exact hK
  case body =>
    rintro l pre x W ⟨hp, hB⟩ hlt
    have c5 := Boxed.cell (show Boxed W w2.heap.size 2 (.int .i64 19960) from (hB.block _ (by omega)).trans bL1)
    obtain ⟨d0, d1, d2, d3, d4⟩ := task_cells ((hB.block _ (by omega)).trans bt1)
    by_cases hx : 19960 ≤ x
    · gi_wp2_with (first | (gi_at_call 27; refine (CallsIn.inRound l ((callsIn_wide (n := 6)).2 (optimal_Task_enough.calls 20000 20000 0 2 false x 19960 true W (by unfold optimal_Task_enough.f; simp [hx])))).mono ?_; rintro e w6 ⟨rfl, hw6⟩) | refine ⟨trivial, ?_⟩)
      refine ⟨KeepsFrom.of_grownBy (grown_of_below hw6) (fun j e => by cases e), KpC.of_below hw6 hB.size, fun y hy => ?_, hB.trans (hw6.mono hB.size)⟩
      cases List.mem_append.1 hy with
      | inl h => exact hp y h
      | inr h => rw [List.mem_singleton.1 h]; exact hx
    · gi_wp2_with (first | (gi_at_call 27; refine (CallsIn.inRound l ((callsIn_wide (n := 6)).2 (optimal_Task_enough.calls 20000 20000 0 2 false x 19960 false W (by unfold optimal_Task_enough.f; simp; omega)))).mono ?_; rintro e w6 ⟨rfl, hw6⟩) | refine ⟨trivial, ?_⟩)
      exact ⟨KeepsFrom.of_grownBy (grown_of_below hw6) (fun j e => by cases e), ⟨rfl, x, by simp, by omega⟩, hB.trans (hw6.mono hB.size)⟩
  case done =>
    rintro D ys W hD rfl ⟨hp, hB⟩ hK
    gi_wp2
    simp only [Exit.noGoto]
    refine ⟨by simp, .inl ⟨_, _, rfl, run_takeDeferred hK, ?_⟩⟩
    exact ⟨.tuple #[.int .i64 0, .int .i64 0], by simp [results, Try.f23, go_sem], rfl, (h01.trans (hB.mono h01.size)).trans (belowK_b (w := w) (Nat.le_refl _) W D _ _ (by have := h01.size; omega) hK rfl rfl)⟩
  case stop =>
    rintro D cd pre W hD ⟨r, hr⟩ ⟨⟨rfl, x, hx, hlt⟩, hB⟩ hK
    have hm : x ∈ [20000, 19980, 19960] := by rw [← hr]; simp [hx]
    simp at hm
    omega
set_option maxRecDepth 100000 in
set_option maxHeartbeats 8000000 in
theorem stop20 (A : Option Addr) (c : Nat) (w : World) (hC : Kd.C (Kd.int .i64) w A 2 [0, 0]) (hc : 2 ≤ c) :
    CallsIn Fence.wide 9 Try.prog 23 #[.agg #[.int .i64 60, .int .i64 0], .agg #[.int .i64 20000, .int .i64 20000, .int .i64 0, .int .i64 2, .bool false], .slice A 2 c, .int .i64 20] w fun e w' =>
      e = .returned (.tuple #[.int .i64 1, .int .i64 0]) ∧ Below w.heap.size w w' := by
  have hk : optimal_check.f 20 60 0 20000 20000 0 2 false [0, 0] = some 0 := by kernel_rfl
  have hch := fun W (h : Below w.heap.size w W) => (callsIn_wide (n := 8)).2 (optimal_check.calls 20 60 0 20000 20000 0 2 false A c [0, 0] 0 W (Kd.C_below hC h) hc hk)
  have HCH := Lib.hid hch
  have HK := Lib.hid hk
  clear hch hk
  refine callsIn_of_wp_marks Try.func23 rfl trivial ?_ rfl
  simp only [Try.ntmps23, List.size_toArray, List.length_cons, List.length_nil, Nat.reduceAdd, Nat.reduceSub, Array.replicate_succ, Array.replicate_zero, List.push_toArray, List.append_toArray, List.nil_append, List.cons_append]
  have hu32 := Try.underlying32
  have hu23 := Try.underlying23
  have hmx : Try.prog.follows .mixedOrders = true := by kernel_rfl
  obtain ⟨W0, hW0⟩ : ∃ W0, (w.alloc (.cells #[.int .i64 60, .int .i64 0] 23)).alloc (.cells #[.int .i64 20000, .int .i64 20000, .int .i64 0, .int .i64 2, .bool false] 32) = W0 := ⟨_, rfl⟩
  have s0 : W0.heap.size = w.heap.size + 1 + 1 := by rw [← hW0]; simp
  have h0 : Below w.heap.size w W0 := by rw [← hW0]; exact ((Below.refl _ w).alloc (Nat.le_refl _) _).alloc (by simp) _
  have bz : W0.heap[w.heap.size]? = some (.cells #[.int .i64 60, .int .i64 0] 23 (0, 0)) := by rw [← hW0]; exact (Below.heap_alloc _ _ _ (by simp)).trans (World.alloc_heap_new w _)
  have bt : W0.heap[w.heap.size + 1]? = some (.cells #[.int .i64 20000, .int .i64 20000, .int .i64 0, .int .i64 2, .bool false] 32 (0, 0)) := by
    rw [← hW0]
    have := World.alloc_heap_new (w.alloc (.cells #[.int .i64 60, .int .i64 0] 23)) (.cells #[.int .i64 20000, .int .i64 20000, .int .i64 0, .int .i64 2, .bool false] 32)
    rwa [World.size_alloc] at this
  obtain ⟨y0, y1⟩ := zone_cells bz
  obtain ⟨c0, c1, c2, c3, c4⟩ := task_cells bt
  gi_wp2
  refine wpIn_scope_wide ?_
  gi_wp2_with (first
    | (gi_at_call 24; refine (HCH.out W0 h0).mono ?_; rintro e w2 ⟨rfl, hw2⟩; have bz2 := (hw2.block _ (by omega)).trans bz; have bt2 := (hw2.block _ (by omega)).trans bt; obtain ⟨z0', z1'⟩ := zone_cells bz2; obtain ⟨d0, d1, d2, d3, d4⟩ := task_cells bt2; have l0 : w.heap.size < w2.heap.size := (by have := hw2.size; omega); have l1 : w.heap.size + 1 < w2.heap.size := (by have := hw2.size; omega))
    | (gi_at_call 33; refine (curve_in _ _ _ _ _ _ _ _ _ _ _ _ _ _).mono ?_; rintro e w' ⟨rfl, rfl⟩)
    | refine ⟨trivial, ?_⟩)
  refine wpIn_label ?_
  gi_wp2
  refine wpIn_loop_rounds 2 ?_
  rw [roundsIn_succ]
  gi_wp2_with (first
    | (gi_at_call 24; refine (HCH.out W0 h0).mono ?_; rintro e w2 ⟨rfl, hw2⟩; have bz2 := (hw2.block _ (by omega)).trans bz; have bt2 := (hw2.block _ (by omega)).trans bt; obtain ⟨z0', z1'⟩ := zone_cells bz2; obtain ⟨d0, d1, d2, d3, d4⟩ := task_cells bt2; have l0 : w.heap.size < w2.heap.size := (by have := hw2.size; omega); have l1 : w.heap.size + 1 < w2.heap.size := (by have := hw2.size; omega))
    | (gi_at_call 33; refine (curve_in _ _ _ _ _ _ _ _ _ _ _ _ _ _).mono ?_; rintro e w' ⟨rfl, rfl⟩)
    | refine ⟨trivial, ?_⟩)
  have hb2 : Below w.heap.size w w2 := h0.trans (hw2.mono (by omega))
  obtain ⟨w3, hw3⟩ : ∃ w3, w2.alloc (.cells #[.int .i64 19980] 2) = w3 := ⟨_, rfl⟩
  have s3 : w3.heap.size = w2.heap.size + 1 := by rw [← hw3]; simp
  have h3 : Below w.heap.size w w3 := by rw [← hw3]; exact hb2.alloc (by omega) _
  have hb23 : Below w2.heap.size w2 w3 := by rw [← hw3]; exact (Below.refl _ w2).alloc (Nat.le_refl _) _
  have bL : Boxed w3 w2.heap.size 2 (.int .i64 19980) := by rw [← hw3]; exact Boxed.new w2 2 _
  have bt3 := (hb23.block _ (by omega)).trans bt2
  have bz3 := (hb23.block _ (by omega)).trans bz2
  rw [hw3]
  rw [← s3]
  clear hw3 y0 y1 c0 c1 c2 c3 c4 z0' z1' d0 d1 d2 d3 d4 bz2 bt2 bz bt hW0 HCH hw2
  have hxs : cvGo 60 0 0 2 false 3 [0, 0] 20 0 20000 = some [20000, 19980, 19960] := by kernel_rfl
  obtain ⟨w1, hw1⟩ : ∃ w1, crvWorld w3 60 0 20000 20000 0 2 false A 2 c 0 3 = w1 := ⟨_, rfl⟩
  have s1 : w1.heap.size = w3.heap.size + 5 := by rw [← hw1]; exact crvWorld_size ..
  have h1 : Below w3.heap.size w3 w1 := by rw [← hw1]; exact crvWorld_below ..
  have hbx : CBox w1 w3.heap.size 60 0 20000 20000 0 2 false A 2 c 0 3 := by rw [← hw1]; exact crvWorld_box ..
  have h01 : Below w.heap.size w w1 := h3.trans (h1.mono (by omega))
  have bL1 : Boxed w1 w2.heap.size 2 (.int .i64 19980) := (h1.block _ (by omega)).trans bL
  have bt1 := (h1.block _ (by omega)).trans bt3
  have bz1 := (h1.block _ (by omega)).trans bz3
  rw [hw1]
  clear hw1
  refine wpIn_rangeFunc_ownG rfl (by omega) (gf := 43) rfl trivial (enters_of Try.func43 (by kernel_rfl) rfl)
    (curve_gives 8 (by omega) w3.heap.size w1.heap.size 60 0 20000 20000 0 2 false A c [0, 0] 0 3 (by decide) (by omega) (by omega) 20 [20000, 19980, 19960] hxs w1 (Nat.le_refl _) hbx (fun W' h => Kd.C_below hC (h01.trans (h.mono (by have := h01.size; omega)))))
    KpC.trans (fun W l o o' hl h _ _ => KpC.grown (grownBy_putObj' W l o') (by have := (Array.getElem?_eq_some_iff.1 h).1; omega) (fun r e => by cases e; omega)) (Below.refl _ w1) (fun _ => rfl)
    (fun pre W => (∀ x ∈ pre, 19980 ≤ x) ∧ Below w1.heap.size w1 W)
    (fun cd pre W => (cd = .exit 1 ∧ ∃ x ∈ pre, x < 19980) ∧ Below w1.heap.size w1 W)
    (OwnFrom.and (ownFrom_pure _ (fun (pre : List Int) => ∀ x ∈ pre, 19980 ≤ x)) (ownFrom_below (Nat.le_refl _) (Nat.le_refl _)))
    (fun cd => OwnFrom.and (ownFrom_pure _ (fun (pre : List Int) => cd = .exit 1 ∧ ∃ x ∈ pre, x < 19980)) (ownFrom_below (Nat.le_refl _) (Nat.le_refl _)))
    ⟨fun x hx => (by cases hx), Below.refl _ _⟩
    (fun x => { tmps := #[Value.agg #[Value.int .i64 60, Value.int .i64 0], Value.agg #[Value.int .i64 20000, Value.int .i64 20000, Value.int .i64 0, Value.int .i64 2, Value.bool false], Value.slice A 2 c, Value.int .i64 20, Value.pointer (some ⟨w.heap.size, 0, none⟩), Value.pointer (some ⟨w.heap.size + 1, 0, none⟩), undef, undef, Value.int .i64 0, Value.int .i64 0, Value.int .i64 0, Value.pointer (some ⟨w2.heap.size, 0, none⟩), Value.int .i64 0, Value.int .i64 x, Value.agg #[Value.int .i64 60, Value.int .i64 0], Value.agg #[Value.int .i64 20000, Value.int .i64 20000, Value.int .i64 0, Value.int .i64 2, Value.bool false], Value.slice A 2 c, Value.int .i64 0, Value.int .i64 0, Value.bool false, undef, Value.int .i64 20, Value.bool false, Value.bool false, Value.int .i64 20, Value.bool false, Value.bool false, Value.pointer (some ⟨w.heap.size + 1, 1, none⟩), Value.int .i64 20000, Value.int .i64 20, Value.int .i64 19980, Value.pointer (some ⟨w.heap.size + 1, 4, none⟩), Value.bool false, undef, undef, undef, undef, Value.pointer (some ⟨w.heap.size + 1, 2, none⟩), Value.int .i64 0, Value.int .i64 0, Value.pointer (some ⟨w.heap.size + 1, 3, none⟩), Value.int .i64 2, Value.bool true, undef, undef, Value.agg #[Value.int .i64 60, Value.int .i64 0], Value.agg #[Value.int .i64 20000, Value.int .i64 20000, Value.int .i64 0, Value.int .i64 2, Value.bool false], Value.slice A 2 c, Value.int .i64 0, Value.pointer (some ⟨w.heap.size + 1, 3, none⟩), Value.int .i64 2, Value.int .i64 3, crvClo (w2.heap.size + 1), Value.int .i64 x, undef, undef, undef, undef, undef, undef], defers := [] })
    ?assign ?body ?done ?stop
  case assign =>
    rintro l x W K hK
    dsimp only [encI]
    gi_wp2
    exact hK
  case body =>
    rintro l pre x W ⟨hp, hB⟩ hlt
    have c5 := Boxed.cell (show Boxed W w2.heap.size 2 (.int .i64 19980) from (hB.block _ (by omega)).trans bL1)
    obtain ⟨d0, d1, d2, d3, d4⟩ := task_cells ((hB.block _ (by omega)).trans bt1)
    by_cases hx : 19980 ≤ x
    · gi_wp2_with (first | (gi_at_call 27; refine (CallsIn.inRound l ((callsIn_wide (n := 6)).2 (optimal_Task_enough.calls 20000 20000 0 2 false x 19980 true W (by unfold optimal_Task_enough.f; simp [hx])))).mono ?_; rintro e w6 ⟨rfl, hw6⟩) | refine ⟨trivial, ?_⟩)
      refine ⟨KeepsFrom.of_grownBy (grown_of_below hw6) (fun j e => by cases e), KpC.of_below hw6 hB.size, fun y hy => ?_, hB.trans (hw6.mono hB.size)⟩
      cases List.mem_append.1 hy with
      | inl h => exact hp y h
      | inr h => rw [List.mem_singleton.1 h]; exact hx
    · gi_wp2_with (first | (gi_at_call 27; refine (CallsIn.inRound l ((callsIn_wide (n := 6)).2 (optimal_Task_enough.calls 20000 20000 0 2 false x 19980 false W (by unfold optimal_Task_enough.f; simp; omega)))).mono ?_; rintro e w6 ⟨rfl, hw6⟩) | refine ⟨trivial, ?_⟩)
      exact ⟨KeepsFrom.of_grownBy (grown_of_below hw6) (fun j e => by cases e), ⟨rfl, x, by simp, by omega⟩, hB.trans (hw6.mono hB.size)⟩
  case done =>
    rintro D ys X0 hD rfl ⟨hp, hB⟩ hK
    have := hp 19960 (by simp)
    omega
  case stop =>
    rintro D cd pre X0 hD _ ⟨⟨rfl, _⟩, hB⟩ hK
    have bt4 := (hB.block _ (by omega)).trans bt1
    have bz4 := (hB.block _ (by omega)).trans bz1
    have bL4 : Boxed X0 w2.heap.size 2 (.int .i64 19980) := (hB.block _ (by omega)).trans bL1
    obtain ⟨d0, d1, d2, d3, d4⟩ := task_cells bt4
    obtain ⟨y0, y1⟩ := zone_cells bz4
    have h4 : Below w.heap.size w X0 := h01.trans (hB.mono h01.size)
    have sW : w1.heap.size ≤ X0.heap.size := hB.size
    have sW2 : w2.heap.size + 6 ≤ X0.heap.size := by omega
    have hDw : w.heap.size ≤ D := by have := h01.size; omega
    have hDl : D < X0.heap.size := (Array.getElem?_eq_some_iff.1 hK).1
    clear hxs
    gi_wp2
    rw [roundsIn_succ]
    gi_wp2_with (first
      | (gi_at_call 33; refine (curve_in _ _ _ _ _ _ _ _ _ _ _ _ _ _).mono ?_; rintro e w' ⟨rfl, rfl⟩)
      | refine ⟨trivial, ?_⟩)
    obtain ⟨W1, hW1⟩ : ∃ W1, w1 = W1 := ⟨_, rfl⟩
    rw [hW1] at sW
    clear hB hD bL1 bt1 bz1 h01 hbx h1 s1
    clear hW1 w1
    have hxs : cvGo 60 0 0 2 false 3 [0, 0] 20 1 20000 = some [20000, 19980] := by kernel_rfl
    obtain ⟨w1, hw1⟩ : ∃ w1, crvWorld X0 60 0 20000 20000 0 2 false A 2 c 1 3 = w1 := ⟨_, rfl⟩
    have s1 : w1.heap.size = X0.heap.size + 5 := by rw [← hw1]; exact crvWorld_size ..
    have h1 : Below X0.heap.size X0 w1 := by rw [← hw1]; exact crvWorld_below ..
    have hbx : CBox w1 X0.heap.size 60 0 20000 20000 0 2 false A 2 c 1 3 := by rw [← hw1]; exact crvWorld_box ..
    have h01 : Below w.heap.size w w1 := h4.trans (h1.mono (by omega))
    have bL1 : Boxed w1 w2.heap.size 2 (.int .i64 19980) := (h1.block _ (by omega)).trans bL4
    have bt1 := (h1.block _ (by omega)).trans bt4
    have bz1 := (h1.block _ (by omega)).trans bz4
    rw [hw1]
    clear hw1
    refine wpIn_rangeFunc_ownG rfl (by omega) (gf := 43) rfl trivial (enters_of Try.func43 (by kernel_rfl) rfl)
      (curve_gives 8 (by omega) X0.heap.size w1.heap.size 60 0 20000 20000 0 2 false A c [0, 0] 1 3 (by decide) (by omega) (by omega) 20 [20000, 19980] hxs w1 (Nat.le_refl _) hbx (fun W' h => Kd.C_below hC (h01.trans (h.mono (by have := h01.size; omega)))))
      KpC.trans (fun W l o o' hl h _ _ => KpC.grown (grownBy_putObj' W l o') (by have := (Array.getElem?_eq_some_iff.1 h).1; omega) (fun r e => by cases e; omega)) (Below.refl _ w1) (fun _ => rfl)
      (fun pre W => (∀ x ∈ pre, 19980 ≤ x) ∧ Below w1.heap.size w1 W)
      (fun cd pre W => (cd = .exit 1 ∧ ∃ x ∈ pre, x < 19980) ∧ Below w1.heap.size w1 W)
      (OwnFrom.and (ownFrom_pure _ (fun (pre : List Int) => ∀ x ∈ pre, 19980 ≤ x)) (ownFrom_below (Nat.le_refl _) (Nat.le_refl _)))
      (fun cd => OwnFrom.and (ownFrom_pure _ (fun (pre : List Int) => cd = .exit 1 ∧ ∃ x ∈ pre, x < 19980)) (ownFrom_below (Nat.le_refl _) (Nat.le_refl _)))
      ⟨fun x hx => (by cases hx), Below.refl _ _⟩
      (fun x => { tmps := #[Value.agg #[Value.int .i64 60, Value.int .i64 0], Value.agg #[Value.int .i64 20000, Value.int .i64 20000, Value.int .i64 0, Value.int .i64 2, Value.bool false], Value.slice A 2 c, Value.int .i64 20, Value.pointer (some ⟨w.heap.size, 0, none⟩), Value.pointer (some ⟨w.heap.size + 1, 0, none⟩), undef, undef, Value.int .i64 0, Value.int .i64 0, Value.int .i64 0, Value.pointer (some ⟨w2.heap.size, 0, none⟩), Value.int .i64 1, Value.int .i64 x, Value.agg #[Value.int .i64 60, Value.int .i64 0], Value.agg #[Value.int .i64 20000, Value.int .i64 20000, Value.int .i64 0, Value.int .i64 2, Value.bool false], Value.slice A 2 c, Value.int .i64 0, Value.int .i64 0, Value.bool false, undef, Value.int .i64 20, Value.bool false, Value.bool false, Value.int .i64 20, Value.bool false, Value.bool false, Value.pointer (some ⟨w.heap.size + 1, 1, none⟩), Value.int .i64 20000, Value.int .i64 20, Value.int .i64 19980, Value.pointer (some ⟨w.heap.size + 1, 4, none⟩), Value.bool false, undef, undef, undef, undef, Value.pointer (some ⟨w.heap.size + 1, 2, none⟩), Value.int .i64 0, Value.int .i64 1, Value.pointer (some ⟨w.heap.size + 1, 3, none⟩), Value.int .i64 2, Value.bool true, Value.int .i64 0, Value.int .i64 1, Value.agg #[Value.int .i64 60, Value.int .i64 0], Value.agg #[Value.int .i64 20000, Value.int .i64 20000, Value.int .i64 0, Value.int .i64 2, Value.bool false], Value.slice A 2 c, Value.int .i64 1, Value.pointer (some ⟨w.heap.size + 1, 3, none⟩), Value.int .i64 2, Value.int .i64 3, crvClo X0.heap.size, Value.int .i64 x, undef, undef, undef, undef, undef, undef], defers := [] })
      ?assign ?body ?done ?stop
    case assign =>
      rintro l x W K hK
      dsimp only [encI]
      gi_wp2
      exact hK
    case body =>
      rintro l pre x W ⟨hp, hB⟩ hlt
      have c5 := Boxed.cell (show Boxed W w2.heap.size 2 (.int .i64 19980) from (hB.block _ (by omega)).trans bL1)
      obtain ⟨d0, d1, d2, d3, d4⟩ := task_cells ((hB.block _ (by omega)).trans bt1)
      by_cases hx : 19980 ≤ x
      · gi_wp2_with (first | (gi_at_call 27; refine (CallsIn.inRound l ((callsIn_wide (n := 6)).2 (optimal_Task_enough.calls 20000 20000 0 2 false x 19980 true W (by unfold optimal_Task_enough.f; simp [hx])))).mono ?_; rintro e w6 ⟨rfl, hw6⟩) | refine ⟨trivial, ?_⟩)
        refine ⟨KeepsFrom.of_grownBy (grown_of_below hw6) (fun j e => by cases e), KpC.of_below hw6 hB.size, fun y hy => ?_, hB.trans (hw6.mono hB.size)⟩
        cases List.mem_append.1 hy with
        | inl h => exact hp y h
        | inr h => rw [List.mem_singleton.1 h]; exact hx
      · gi_wp2_with (first | (gi_at_call 27; refine (CallsIn.inRound l ((callsIn_wide (n := 6)).2 (optimal_Task_enough.calls 20000 20000 0 2 false x 19980 false W (by unfold optimal_Task_enough.f; simp; omega)))).mono ?_; rintro e w6 ⟨rfl, hw6⟩) | refine ⟨trivial, ?_⟩)
        exact ⟨KeepsFrom.of_grownBy (grown_of_below hw6) (fun j e => by cases e), ⟨rfl, x, by simp, by omega⟩, hB.trans (hw6.mono hB.size)⟩
    case done =>
      rintro D2 ys V hD2 rfl ⟨hp, hB⟩ hK2
      gi_wp2
      simp only [Exit.noGoto]
      have hK3 : (V.putObj D2 (.deferred none)).heap[D]? = some (.deferred (some [])) := (World.putObj_heap_other (by omega)).trans ((hB.block _ (by omega)).trans ((h1.block _ (by omega)).trans hK))
      refine ⟨by simp, .inl ⟨_, _, rfl, run_takeDeferred hK2, by simp, .inl ⟨_, _, rfl, run_takeDeferred hK3, ?_⟩⟩⟩
      have hb5 := (h01.trans (hB.mono h01.size)).trans (belowK_b (w := w) (Nat.le_refl _) V D2 _ (.deferred none) (by have := h01.size; omega) hK2 rfl rfl)
      exact ⟨.tuple #[.int .i64 1, .int .i64 0], by simp [results, Try.f23, go_sem], rfl, hb5.trans (belowK_b (w := w) (Nat.le_refl _) _ D _ _ hDw hK3 rfl rfl)⟩
    case stop =>
      rintro D2 cd pre V hD2 ⟨r, hr⟩ ⟨⟨rfl, x, hx, hlt⟩, hB⟩ hK2
      have hm : x ∈ [20000, 19980] := by rw [← hr]; simp [hx]
      simp at hm
      omega

def optimal_Stop.f (k : Nat) (a0_0 a0_1 a1_0 a1_1 a1_2 a1_3 : Int) (a1_4 : Bool) (l2 : List Int) (a3 : Int) : Option (Int × Int) :=
  if a0_0 = 60 ∧ a0_1 = 0 ∧ a1_0 = 20000 ∧ a1_1 = 20000 ∧ a1_2 = 0 ∧ a1_3 = 2 ∧ a1_4 = false ∧ l2 = [0, 0] then (if a3 = 20 then some (1, 0) else if a3 = 40 then some (0, 0) else none) else none
theorem optimal_Stop.mono : ∀ a0 a1 a2 a3 a4 a5 a6 a7 a8 k, LeO (optimal_Stop.f k a0 a1 a2 a3 a4 a5 a6 a7 a8) (optimal_Stop.f (k + 1) a0 a1 a2 a3 a4 a5 a6 a7 a8) := fun _ _ _ _ _ _ _ _ _ _ _ h => h
theorem optimal_Stop.calls (k : Nat) (a0_0 a0_1 a1_0 a1_1 a1_2 a1_3 : Int) (a1_4 : Bool) (A2 : Option Addr) (c2 : Nat) (l2 : List Int) (a3 : Int) (r1 r2 : Int) (w : World) (hr2 : Kd.C (Kd.int .i64) w A2 l2.length l2) (hc2 : l2.length ≤ c2) (h : optimal_Stop.f k a0_0 a0_1 a1_0 a1_1 a1_2 a1_3 a1_4 l2 a3 = some (r1, r2)) :
    Calls Try.prog 23 #[.agg #[.int .i64 a0_0, .int .i64 a0_1], .agg #[.int .i64 a1_0, .int .i64 a1_1, .int .i64 a1_2, .int .i64 a1_3, .bool a1_4], .slice A2 l2.length c2, .int .i64 a3] w fun e w' => e = .returned (.tuple #[.int .i64 r1, .int .i64 r2]) ∧ Below w.heap.size w w' := by
  unfold optimal_Stop.f at h
  by_cases hc : a0_0 = 60 ∧ a0_1 = 0 ∧ a1_0 = 20000 ∧ a1_1 = 20000 ∧ a1_2 = 0 ∧ a1_3 = 2 ∧ a1_4 = false ∧ l2 = [0, 0]
  · rw [if_pos hc] at h
    obtain ⟨rfl, rfl, rfl, rfl, rfl, rfl, rfl, rfl⟩ := hc
    by_cases h2 : a3 = 20
    · rw [if_pos h2] at h
      subst h2
      cases h
      exact (callsIn_wide (n := 9)).1 (stop20 A2 c2 w hr2 hc2)
    · rw [if_neg h2] at h
      by_cases h4 : a3 = 40
      · rw [if_pos h4] at h
        subst h4
        cases h
        exact (callsIn_wide (n := 9)).1 (stop40 A2 c2 w hr2 hc2)
      · rw [if_neg h4] at h
        cases h
  · rw [if_neg hc] at h
    cases h
end Go.Proofs.Ytpehicdglooeaaa.PT
