-- stats.sums: what it computes.
import Derived.Test.YtnfcbhoaebcndaaIter
namespace Go.Proofs.Ytnfcbhoaebcndaa.PT
open Go.RowKit Go.Shelf Go.Proofs.YtnfcbhoaebcndaaW.PrintWords Go.Proofs.YtnfcbhoaebcndaaW.PrintLast Go.Proofs.YtnfcbhoaebcndaaW.PrintMore Go.Proofs.Ytnfcbhoaebcndaa.Loop
attribute [local go_sem] Oper.semAt_some max2_int min2_int max_two min_two
set_option linter.unusedVariables false
set_option linter.unusedSimpArgs false

/-! ### stats.sums -/
def sumStep (s : Int × Int) (p : S45 × Int) : Int × Int := if p.1.f0 = 1 then (wrap64 (s.1 + wrap64 (p.1.f1 * p.2)), wrap64 (s.2 + p.2)) else s
def sumOf (l : List (S45 × Int)) : Int × Int := l.foldl sumStep (0, 0)
theorem sumOf_snoc (l : List (S45 × Int)) (p : S45 × Int) : sumOf (l ++ [p]) = sumStep (sumOf l) p := by simp [sumOf]

def sumAct (A : Option Addr) (c : Nat) (xs : List S57) (from_ te : Int) (b Bx : Nat) (x : S45 × Int) : Act :=
  { tmps := #[.slice A xs.length c, .int .i64 from_, .int .i64 te, undef, undef, undef, .int .i64 0, .int .i64 0, .pointer (some ⟨b, 0, none⟩), .pointer (some ⟨b + 1, 0, none⟩), .pointer (some ⟨Bx, 0, none⟩), .int .i64 x.2, .slice A xs.length c, .int .i64 from_, .int .i64 te, .func (.func 54) #[] #[.pointer (some ⟨b + 1 + 1 + 1, 0, none⟩), .pointer (some ⟨b + 1 + 1, 0, none⟩), .pointer (some ⟨b + 1 + 1 + 2, 0, none⟩)], .agg #[.int .i64 x.1.f0, .int .i64 x.1.f1], .int .i64 x.2, undef, undef, undef, undef, undef, undef, undef, undef, undef, undef, undef, undef, undef, undef], defers := [] }
set_option maxRecDepth 100000 in
set_option maxHeartbeats 2000000 in
theorem sums_in (A : Option Addr) (c : Nat) (xs : List S57) (from_ te : Int) (hlen : xs.length ≤ 4611686018427387904) (w : World) (hC : Kd.C k57 w A xs.length xs) :
    CallsIn Fence.wide 8 Try.prog 46 #[.slice A xs.length c, .int .i64 from_, .int .i64 te] w fun e w' =>
      e = .returned (.tuple #[.int .i64 (sumOf (pcs te ⟨0, 0⟩ from_ xs)).1, .int .i64 (sumOf (pcs te ⟨0, 0⟩ from_ xs)).2]) ∧ Below w.heap.size w w' := by
  refine callsIn_of_wp_marks Try.func46 rfl trivial ?_ rfl
  simp only [Try.ntmps46, List.size_toArray, List.length_cons, List.length_nil, Nat.reduceAdd, Nat.reduceSub, Array.replicate_succ, Array.replicate_zero, List.push_toArray, List.append_toArray, List.nil_append, List.cons_append]
  gi_wp2_with (refine ⟨trivial, ?_⟩; gi_at_call 43; refine (pieces_in _ _ _ _ _ _ _).mono ?_; rintro e w' ⟨rfl, rfl⟩)
  have bS := (Boxed.new w 2 (.int .i64 0)).alloc (.cells #[.int .i64 0] 2)
  have bN := Boxed.new (w.alloc (.cells #[.int .i64 0] 2)) 2 (.int .i64 0)
  have h0 : Below w.heap.size w ((w.alloc (.cells #[.int .i64 0] 2)).alloc (.cells #[.int .i64 0] 2)) := ((Below.refl _ w).alloc (Nat.le_refl _) _).alloc (by simp) _
  have s0 : ((w.alloc (.cells #[.int .i64 0] 2)).alloc (.cells #[.int .i64 0] 2)).heap.size = w.heap.size + 1 + 1 := by simp
  simp only [World.size_alloc] at bN
  obtain ⟨w0, hw0⟩ : ∃ w0, (w.alloc (.cells #[.int .i64 0] 2)).alloc (.cells #[.int .i64 0] 2) = w0 := ⟨_, rfl⟩
  rw [hw0] at bS bN h0 s0 ⊢
  clear hw0
  have bL := ((Boxed.new w0 22 (.slice A xs.length c)).alloc (.cells #[.int .i64 from_] 3)).alloc (.cells #[.int .i64 te] 3)
  have bF := (Boxed.new (w0.alloc (.cells #[.slice A xs.length c] 22)) 3 (.int .i64 from_)).alloc (.cells #[.int .i64 te] 3)
  have bT := Boxed.new ((w0.alloc (.cells #[.slice A xs.length c] 22)).alloc (.cells #[.int .i64 from_] 3)) 3 (.int .i64 te)
  simp only [World.size_alloc] at bF bT
  rw [Nat.add_assoc] at bT
  have bS1 := ((bS.alloc (.cells #[.slice A xs.length c] 22)).alloc (.cells #[.int .i64 from_] 3)).alloc (.cells #[.int .i64 te] 3)
  have bN1 := ((bN.alloc (.cells #[.slice A xs.length c] 22)).alloc (.cells #[.int .i64 from_] 3)).alloc (.cells #[.int .i64 te] 3)
  have h1 := ((h0.alloc (by omega) (.cells #[.slice A xs.length c] 22)).alloc (by simp; omega) (.cells #[.int .i64 from_] 3)).alloc (by simp; omega) (.cells #[.int .i64 te] 3)
  have s1 : (((w0.alloc (.cells #[.slice A xs.length c] 22)).alloc (.cells #[.int .i64 from_] 3)).alloc (.cells #[.int .i64 te] 3)).heap.size = w.heap.size + 5 := by simp; omega
  obtain ⟨w1, hw1⟩ : ∃ w1, ((w0.alloc (.cells #[.slice A xs.length c] 22)).alloc (.cells #[.int .i64 from_] 3)).alloc (.cells #[.int .i64 te] 3) = w1 := ⟨_, rfl⟩
  rw [hw1] at bL bF bT bS1 bN1 h1 s1 ⊢
  clear hw1
  rw [s0] at bL bF bT
  clear bS bN h0 s0
  refine range_own rfl (by omega) (gf := 54) rfl trivial (enters_of Try.func54 (by kernel_rfl) rfl) (by omega) (M := w.heap.size + 1 + 1) (by omega)
    (pieces_gives 7 (by omega) (w.heap.size + 1 + 1) w.heap.size (w.heap.size + 1 + 1) A c xs from_ te hlen w w1 rfl h1 hC (Nat.le_refl _) bL bF bT) (fun _ => rfl)
    (fun pre W => (Boxed W w.heap.size 2 (.int .i64 (sumOf pre).1) ∧ Boxed W (w.heap.size + 1) 2 (.int .i64 (sumOf pre).2)) ∧ Below w.heap.size w W)
    (fun _ _ _ => False)
    (OwnB.and (OwnB.and (OwnB.box (by omega) _ _) (OwnB.box (by omega) _ _)) (OwnB.below (Nat.le_refl _) (by omega)))
    (fun _ _ _ _ _ hs _ _ => hs)
    ⟨⟨bS1, bN1⟩, h1⟩
    (fun x a' W => ∃ Bx, w.heap.size + 5 ≤ Bx ∧ W.heap[Bx]? = some (.cells #[.int .i64 x.1.f0, .int .i64 x.1.f1] 45 (0, 0)) ∧ a' = sumAct A c xs from_ te w.heap.size Bx x)
    (fun x a' _ X Y row hs hg hr => by
      obtain ⟨Bx, h1, h2, h3⟩ := hs
      exact ⟨Bx, h1, (hg.block _ (Array.getElem?_eq_some_iff.1 h2).1 (fun e => by obtain ⟨_, o, ho, hc⟩ := hr _ e.symm; rw [h2] at ho; cases ho; cases hc)).trans h2, h3⟩)
    ?assign ?body ?done ?stop
  case assign =>
    rintro l pre x W K hsz ⟨⟨b1, b2⟩, hB⟩ hK
    dsimp only [encP]
    gi_wp2
    exact hK _ _ ((KeepsOthers.alloc _ _).from _) (KeepsB.alloc (by omega) _) ⟨⟨b1.alloc _, b2.alloc _⟩, hB.alloc (by omega) _⟩ ⟨W.heap.size, by omega, World.alloc_heap_new W _, rfl⟩
  case body =>
    rintro l pre x a' W hsz ⟨⟨b1, b2⟩, hB⟩ ⟨Bx, hBx, hX, rfl⟩ hlt
    have c1 := b1.cell
    have f1 := b1.frozen
    have c2 := b2.cell
    have f2 := b2.frozen
    obtain ⟨x0, x1, _, _⟩ := pair_cell hX
    dsimp only [sumAct]
    by_cases hk : x.1.f0 = 1
    · have e1 : sumOf (pre ++ [x]) = (wrap64 ((sumOf pre).1 + wrap64 (x.1.f1 * x.2)), wrap64 ((sumOf pre).2 + x.2)) := by rw [sumOf_snoc]; unfold sumStep; rw [if_pos hk]
      have E1 := Lib.hid e1
      clear e1
      have c3 : (W.setCell ⟨w.heap.size, 0, none⟩ (.int .i64 (wrap64 ((sumOf pre).1 + wrap64 (x.1.f1 * x.2))))).cell? ⟨w.heap.size + 1, 0, none⟩ = some (.int .i64 (sumOf pre).2) := (b2.other (by omega) _).cell
      gi_wp2
      refine ⟨((KeepsOthers.setCell _ _ _).trans (KeepsOthers.setCell _ _ _)).from _, (KeepsB.setCell W (by omega) (by omega) _).trans (KeepsB.setCell _ (by omega) (by omega) _), ⟨?_, ?_⟩, (hB.setCell (p := ⟨w.heap.size, 0, none⟩) (Nat.le_refl _) _).setCell (p := ⟨w.heap.size + 1, 0, none⟩) (by simp) _⟩
      · rw [E1.out]; exact (b1.set _).other (by omega) _
      · rw [E1.out]; exact (b2.other (by omega) _).set _
    · have e1 : sumOf (pre ++ [x]) = sumOf pre := by rw [sumOf_snoc]; unfold sumStep; rw [if_neg hk]
      have E1 := Lib.hid e1
      clear e1
      gi_wp2
      exact ⟨KeepsFrom.refl _ _, KeepsB.refl _ _ _, by dsimp only; rw [E1.out]; exact ⟨⟨b1, b2⟩, hB⟩⟩
  case done =>
    rintro D ys W hD rfl ⟨⟨b1, b2⟩, hB⟩ hK
    have c1 := b1.cell
    have c2 := b2.cell
    gi_wp2
    gi_region
    gi_wp2
    have hK' : W.drew.heap[D]? = some (.deferred (some [])) := hK
    refine ⟨by simp, .inl ⟨_, _, rfl, run_takeDeferred hK', ?_⟩⟩
    exact ⟨_, by simp [results, Try.f46, go_sem], rfl, hB.drew.trans (belowK_b (w := w) (Nat.le_refl _) W.drew D _ _ (by omega) hK' rfl rfl)⟩
  case stop =>
    rintro D c pre W _ _ h _
    exact h.elim

def stats_sums.f (l0 : List (S57)) (a1 : Int) (a2 : Int) : Option (Int × Int) := if l0.length ≤ 4611686018427387904 then some (sumOf (pcs a2 ⟨0, 0⟩ a1 l0)) else none
theorem stats_sums.calls (A0 : Option Addr) (c0 : Nat) (l0 : List (S57)) (a1 : Int) (a2 : Int) (r1 : Int) (r2 : Int) (w : World) (hr0 : Kd.C k57 w A0 l0.length l0) (hc0 : l0.length ≤ c0) (h : stats_sums.f l0 a1 a2 = some (r1, r2)) :
    Calls Try.prog 46 #[.slice A0 l0.length c0, .int .i64 a1, .int .i64 a2] w fun e w' => e = .returned (.tuple #[.int .i64 r1, .int .i64 r2]) ∧ Below w.heap.size w w' := by
  unfold stats_sums.f at h
  by_cases hl : l0.length ≤ 4611686018427387904
  · rw [if_pos hl] at h
    have h' := Option.some.inj h
    have := (callsIn_wide (n := 8)).1 (sums_in A0 c0 l0 a1 a2 hl w hr0)
    rw [h'] at this
    exact this
  · rw [if_neg hl] at h
    cases h
end Go.Proofs.Ytnfcbhoaebcndaa.PT
