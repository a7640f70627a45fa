-- stats.Extremes
import Derived.Test.YtnfcbhoaebcndaaIter
import Derived.Test.YtnfcbhoaebcndaaRegs
import Derived.Test.YtnfcbhoaebcndaaPTx6
namespace Go.Proofs.Ytnfcbhoaebcndaa.PT
open Go.RowKit Go.Shelf Go.Proofs.YtnfcbhoaebcndaaW.PrintWords Go.Proofs.YtnfcbhoaebcndaaW.PrintLast Go.Proofs.YtnfcbhoaebcndaaW.PrintMore Go.Proofs.Ytnfcbhoaebcndaa.Loop
attribute [local go_sem] Oper.semAt_some max2_int min2_int max_two min_two
set_option linter.unusedVariables false
set_option linter.unusedSimpArgs false


def exStep (s : Int × Int × Bool) (p : S45 × Int) : Int × Int × Bool := if p.1.f0 = 1 then (if s.2.2 = true then (mn s.1 p.1.f1, mx s.2.1 p.1.f1, true) else (p.1.f1, p.1.f1, true)) else s
def exOf (l : List (S45 × Int)) : Int × Int × Bool := l.foldl exStep (0, 0, false)
theorem exOf_snoc (l : List (S45 × Int)) (p : S45 × Int) : exOf (l ++ [p]) = exStep (exOf l) p := by simp [exOf]
def exRes (s : Int × Int × Bool) : Int × Int × Int := if s.2.2 = true then (s.1, s.2.1, 0) else (0, 0, 9)
def exAct (A : Option Addr) (c : Nat) (xs : List S57) (from_ te : Int) (b f Bx : Nat) (x : S45 × Int) : Act :=
  { tmps := #[.slice A xs.length c, .int .i64 from_, .int .i64 te, undef, undef, undef, .pointer (some ⟨b, 0, none⟩), .pointer (some ⟨b + 1, 0, none⟩), .int .i64 0, .int .i64 0, .pointer (some ⟨f, 0, none⟩), .pointer (some ⟨Bx, 0, none⟩), .slice A xs.length c, .int .i64 from_, .int .i64 te, .int .i64 0, .int .i64 0, .bool false, undef, .slice A xs.length c, .int .i64 from_, .int .i64 te, .func (.func 54) #[] #[.pointer (some ⟨f + 1 + 1, 0, none⟩), .pointer (some ⟨f + 1, 0, none⟩), .pointer (some ⟨f + 1 + 2, 0, none⟩)], .agg #[.int .i64 x.1.f0, .int .i64 x.1.f1], .int .i64 x.2, undef, undef, undef, undef, undef, undef, undef, undef, undef, undef, undef, undef, undef, undef, undef, undef, undef, undef, undef, undef, undef], defers := [] }
set_option maxRecDepth 100000 in
set_option maxHeartbeats 4000000 in
theorem ex_ok (k : Nat) (A : Option Addr) (c : Nat) (xs : List S57) (from_ te : Int) (hlen : xs.length ≤ 4611686018427387904) (w : World) (hC : Kd.C k57 w A xs.length xs) (hc : xs.length ≤ c) (hk : stats_checked.f k xs from_ te = some 0) :
    CallsIn Fence.wide 9 Try.prog 22 #[.slice A xs.length c, .int .i64 from_, .int .i64 te] w fun e w' =>
      e = .returned (.tuple #[.int .i64 (exRes (exOf (pcs te ⟨0, 0⟩ from_ xs))).1, .int .i64 (exRes (exOf (pcs te ⟨0, 0⟩ from_ xs))).2.1, .int .i64 (exRes (exOf (pcs te ⟨0, 0⟩ from_ xs))).2.2]) ∧ Below w.heap.size w w' := by
  have hch := fun W (h : Below w.heap.size w W) => (callsIn_wide (n := 8)).2 (stats_checked.calls k A c xs from_ te 0 W (Kd.C_below hC h) hc hk)
  have HCH := Lib.hid hch
  have HK := Lib.hid hk
  clear hch hk
  refine callsIn_of_wp_marks Try.func22 rfl trivial ?_ rfl
  simp only [Try.ntmps22, List.size_toArray, List.length_cons, List.length_nil, Nat.reduceAdd, Nat.reduceSub, Array.replicate_succ, Array.replicate_zero, List.push_toArray, List.append_toArray, List.nil_append, List.cons_append]
  have h0 : Below w.heap.size w ((w.alloc (.cells #[.int .i64 0] 2)).alloc (.cells #[.int .i64 0] 2)) := ((Below.refl _ w).alloc (Nat.le_refl _) _).alloc (by simp) _
  have H0 := Lib.hid h0
  clear h0
  gi_wp2_with (refine ⟨trivial, ?_⟩; gi_at_call 39; refine (HCH.out _ H0.out).mono ?_; rintro e w' ⟨rfl, hw'⟩)
  refine ⟨trivial, ?_⟩
  have s0 : ((w.alloc (.cells #[.int .i64 0] 2)).alloc (.cells #[.int .i64 0] 2)).heap.size = w.heap.size + 1 + 1 := by simp
  have bl0 : Boxed w' w.heap.size 2 (.int .i64 0) := (hw'.block _ (by omega)).trans ((Boxed.new w 2 (.int .i64 0)).alloc (.cells #[.int .i64 0] 2))
  have bh0 : Boxed w' (w.heap.size + 1) 2 (.int .i64 0) := (hw'.block _ (by omega)).trans (by have := Boxed.new (w.alloc (.cells #[.int .i64 0] 2)) 2 (.int .i64 0); rwa [World.size_alloc] at this)
  have hb' : Below w.heap.size w w' := H0.out.trans (hw'.mono (by omega))
  have hsz : w.heap.size + 1 + 1 ≤ w'.heap.size := by have := hw'.size; omega
  clear hw' s0
  obtain ⟨f, hf⟩ : ∃ f, w'.heap.size = f := ⟨_, rfl⟩
  have bl1 := bl0.alloc (.cells #[.bool false] 4)
  have bh1 := bh0.alloc (.cells #[.bool false] 4)
  have bf1 := Boxed.new w' 4 (.bool false)
  have hb1 := hb'.alloc (by omega) (.cells #[.bool false] 4)
  have s1 : (w'.alloc (.cells #[.bool false] 4)).heap.size = f + 1 := by simp; omega
  rw [hf] at hsz bf1 ⊢
  obtain ⟨w0, hw0⟩ : ∃ w0, w'.alloc (.cells #[.bool false] 4) = w0 := ⟨_, rfl⟩
  rw [hw0] at bl1 bh1 bf1 hb1 s1 ⊢
  clear hw0 bl0 bh0 hb' hf H0 HCH
  clear w'
  refine (pieces_in _ _ _ _ _ _ _).mono ?_
  rintro e w' ⟨rfl, rfl⟩
  gi_wp2
  have bL := ((Boxed.new w0 22 (.slice A xs.length c)).alloc (.cells #[.int .i64 from_] 3)).alloc (.cells #[.int .i64 te] 3)
  have bF := (Boxed.new (w0.alloc (.cells #[.slice A xs.length c] 22)) 3 (.int .i64 from_)).alloc (.cells #[.int .i64 te] 3)
  have bT := Boxed.new ((w0.alloc (.cells #[.slice A xs.length c] 22)).alloc (.cells #[.int .i64 from_] 3)) 3 (.int .i64 te)
  simp only [World.size_alloc] at bF bT
  rw [Nat.add_assoc] at bT
  have bl2 := ((bl1.alloc (.cells #[.slice A xs.length c] 22)).alloc (.cells #[.int .i64 from_] 3)).alloc (.cells #[.int .i64 te] 3)
  have bh2 := ((bh1.alloc (.cells #[.slice A xs.length c] 22)).alloc (.cells #[.int .i64 from_] 3)).alloc (.cells #[.int .i64 te] 3)
  have bf2 := ((bf1.alloc (.cells #[.slice A xs.length c] 22)).alloc (.cells #[.int .i64 from_] 3)).alloc (.cells #[.int .i64 te] 3)
  have h1 := ((hb1.alloc (by omega) (.cells #[.slice A xs.length c] 22)).alloc (by simp; omega) (.cells #[.int .i64 from_] 3)).alloc (by simp; omega) (.cells #[.int .i64 te] 3)
  have s2 : (((w0.alloc (.cells #[.slice A xs.length c] 22)).alloc (.cells #[.int .i64 from_] 3)).alloc (.cells #[.int .i64 te] 3)).heap.size = f + 4 := by simp; omega
  obtain ⟨w1, hw1⟩ : ∃ w1, ((w0.alloc (.cells #[.slice A xs.length c] 22)).alloc (.cells #[.int .i64 from_] 3)).alloc (.cells #[.int .i64 te] 3) = w1 := ⟨_, rfl⟩
  rw [hw1] at bL bF bT bl2 bh2 bf2 h1 s2 ⊢
  rw [s1] at bL bF bT
  clear hw1 bl1 bh1 bf1 hb1 s1
  clear w0
  refine range_own rfl (by omega) (gf := 54) rfl trivial (enters_of Try.func54 (by kernel_rfl) rfl) (by omega) (M := f + 1) (by omega)
    (pieces_gives 8 (by omega) (f + 1) w.heap.size (f + 1) A c xs from_ te hlen w w1 rfl h1 hC (Nat.le_refl _) bL bF bT) (fun _ => rfl)
    (fun pre W => ((Boxed W w.heap.size 2 (.int .i64 (exOf pre).1) ∧ Boxed W (w.heap.size + 1) 2 (.int .i64 (exOf pre).2.1)) ∧ Boxed W f 4 (.bool (exOf pre).2.2)) ∧ Below w.heap.size w W)
    (fun _ _ _ => False)
    (OwnB.and (OwnB.and (OwnB.and (OwnB.box (by omega) _ _) (OwnB.box (by omega) _ _)) (OwnB.box (by omega) _ _)) (OwnB.below (Nat.le_refl _) (by omega)))
    (fun _ _ _ _ _ hs _ _ => hs)
    ⟨⟨⟨bl2, bh2⟩, bf2⟩, h1⟩
    (fun x a' W => ∃ Bx, f + 4 ≤ Bx ∧ W.heap[Bx]? = some (.cells #[.int .i64 x.1.f0, .int .i64 x.1.f1] 45 (0, 0)) ∧ a' = exAct A c xs from_ te w.heap.size f Bx x)
    (fun x a' _ X Y row hs hg hr => by
      obtain ⟨Bx, h1, h2, h3⟩ := hs
      exact ⟨Bx, h1, (hg.block _ (Array.getElem?_eq_some_iff.1 h2).1 (fun e => by obtain ⟨_, o, ho, hc⟩ := hr _ e.symm; rw [h2] at ho; cases ho; cases hc)).trans h2, h3⟩)
    ?assign ?body ?done ?stop
  case assign =>
    rintro l pre x W K hsz ⟨⟨⟨b1, b2⟩, b3⟩, hB⟩ hK
    dsimp only [encP]
    gi_wp2
    exact hK _ _ ((KeepsOthers.alloc _ _).from _) (KeepsB.alloc (by omega) _) ⟨⟨⟨b1.alloc _, b2.alloc _⟩, b3.alloc _⟩, hB.alloc (by omega) _⟩ ⟨W.heap.size, by omega, World.alloc_heap_new W _, rfl⟩
  case body =>
    rintro l pre x a' W hsz ⟨⟨⟨b1, b2⟩, b3⟩, hB⟩ ⟨Bx, hBx, hX, rfl⟩ hlt
    have hm : Try.prog.follows .mixedOrders = true := by kernel_rfl
    have c1 := b1.cell
    have f1 := b1.frozen
    have c2 := b2.cell
    have f2 := b2.frozen
    have c3 := b3.cell
    have f3 := b3.frozen
    have hX' := (Array.getElem?_eq_some_iff.1 hX).1
    obtain ⟨x0, x1, _, _⟩ := pair_cell hX
    have HX := Lib.hid hX
    clear hX
    dsimp only [exAct]
    have hxl : w.heap.size ≠ Bx := by omega
    have hxh : w.heap.size + 1 ≠ Bx := by omega
    have hxf : f ≠ Bx := by omega
    by_cases hk : x.1.f0 = 1
    · by_cases hfd : (exOf pre).2.2 = true
      · have e1 : exOf (pre ++ [x]) = (mn (exOf pre).1 x.1.f1, mx (exOf pre).2.1 x.1.f1, true) := by rw [exOf_snoc]; unfold exStep; rw [if_pos hk, if_pos hfd]
        have E1 := Lib.hid e1
        clear e1
        gi_wp2
        refine region_round hm (by kernel_rfl) ?_
        refine exRegion10 _ w.heap.size (w.heap.size + 1) Bx _ _ _ W c1 f1 c2 f2 x1 (by omega) hxl hxh _ (fun _ _ _ _ _ h => h) ?_
        gi_wp2
        refine ⟨(((KeepsOthers.setCell _ _ _).trans (KeepsOthers.setCell _ _ _)).trans (KeepsOthers.drew _)).from _, ((KeepsB.setCell W (by omega) (by omega) _).trans (KeepsB.setCell _ (by omega) (by omega) _)).drew, ⟨⟨?_, ?_⟩, ?_⟩, ((hB.setCell (p := ⟨w.heap.size, 0, none⟩) (Nat.le_refl _) _).setCell (p := ⟨w.heap.size + 1, 0, none⟩) (by simp) _).drew⟩
        · rw [E1.out]; exact (b1.set _).other (by omega) _
        · rw [E1.out]; exact (b2.other (by omega) _).set _
        · rw [E1.out]; rw [hfd] at b3; exact (b3.other (by omega) _).other (by omega) _
      · have hfd' : (exOf pre).2.2 = false := by simpa using hfd
        have e1 : exOf (pre ++ [x]) = (x.1.f1, x.1.f1, true) := by rw [exOf_snoc]; unfold exStep; rw [if_pos hk, if_neg hfd]
        have E1 := Lib.hid e1
        clear e1
        gi_wp2
        refine region_round hm (by kernel_rfl) ?_
        refine exRegion9 _ w.heap.size (w.heap.size + 1) Bx f _ _ _ _ W c1 f1 c2 f2 x1 (by omega) hxl hxh c3 f3 (by omega) (by omega) hxf _ (fun _ _ _ _ _ h => h) ?_
        gi_wp2
        obtain ⟨W9, hW9⟩ : ∃ W9, (((W.setCell ⟨w.heap.size, 0, none⟩ (.int .i64 x.1.f1)).setCell ⟨w.heap.size + 1, 0, none⟩ (.int .i64 x.1.f1)).setCell ⟨f, 0, none⟩ (.bool true)).drew = W9 := ⟨_, rfl⟩
        have d1 : Boxed W9 w.heap.size 2 (.int .i64 x.1.f1) := by rw [← hW9]; exact ((b1.set _).other (by omega) _).other (by omega) _
        have d2 : Boxed W9 (w.heap.size + 1) 2 (.int .i64 x.1.f1) := by rw [← hW9]; exact ((b2.other (by omega) _).set _).other (by omega) _
        have d3 : Boxed W9 f 4 (.bool true) := by rw [← hW9]; exact ((b3.other (by omega) _).other (by omega) _).set _
        have dK : KeepsFrom w1.heap.size W W9 := by rw [← hW9]; exact ((((KeepsOthers.setCell _ _ _).trans (KeepsOthers.setCell _ _ _)).trans (KeepsOthers.setCell _ _ _)).trans (KeepsOthers.drew _)).from _
        have dB : KeepsB w.heap.size (f + 1) W W9 := by rw [← hW9]; exact (((KeepsB.setCell W (by omega) (by omega) _).trans (KeepsB.setCell _ (by omega) (by omega) _)).trans (KeepsB.setCell _ (by omega) (by omega) _)).drew
        have dX := dB.cells Bx _ (by omega) HX.out rfl
        rw [hW9]
        clear hW9 c1 c2 c3 f1 f2 f3 x0 x1
        obtain ⟨_, x1, _, _⟩ := pair_cell dX
        clear dX
        have c1 := d1.cell
        have f1 := d1.frozen
        have c2 := d2.cell
        have f2 := d2.frozen
        refine region_round hm (by kernel_rfl) ?_
        refine exRegion10 _ w.heap.size (w.heap.size + 1) Bx _ _ _ W9 c1 f1 c2 f2 x1 (by omega) hxl hxh _ (fun _ _ _ _ _ h => h) ?_
        gi_wp2
        refine ⟨dK.trans ((((KeepsOthers.setCell _ _ _).trans (KeepsOthers.setCell _ _ _)).trans (KeepsOthers.drew _)).from _), dB.trans ((KeepsB.setCell W9 (by omega) (by omega) _).trans (KeepsB.setCell _ (by omega) (by omega) _)).drew, ⟨⟨?_, ?_⟩, ?_⟩, (((hB.trans dB.below).setCell (p := ⟨w.heap.size, 0, none⟩) (Nat.le_refl _) _).setCell (p := ⟨w.heap.size + 1, 0, none⟩) (by simp) _).drew⟩
        · rw [E1.out, show mn x.1.f1 x.1.f1 = x.1.f1 by unfold mn; split <;> rfl]; exact (d1.set _).other (by omega) _
        · rw [E1.out, show mx x.1.f1 x.1.f1 = x.1.f1 by unfold mx; split <;> rfl]; exact (d2.other (by omega) _).set _
        · rw [E1.out]; exact (d3.other (by omega) _).other (by omega) _
    · have e1 : exOf (pre ++ [x]) = exOf pre := by rw [exOf_snoc]; unfold exStep; rw [if_neg hk]
      have E1 := Lib.hid e1
      clear e1
      gi_wp2
      exact ⟨KeepsFrom.refl _ _, KeepsB.refl _ _ _, by dsimp only; rw [E1.out]; exact ⟨⟨⟨b1, b2⟩, b3⟩, hB⟩⟩
  case done =>
    rintro D ys W hD rfl ⟨⟨⟨b1, b2⟩, b3⟩, hB⟩ hK
    have c1 := b1.cell
    have f1 := b1.frozen
    have c2 := b2.cell
    have f2 := b2.frozen
    have c3 := b3.cell
    by_cases hfd : (exOf (pcs te ⟨0, 0⟩ from_ xs)).2.2 = true
    · have e1 : exRes (exOf (pcs te ⟨0, 0⟩ from_ xs)) = ((exOf (pcs te ⟨0, 0⟩ from_ xs)).1, (exOf (pcs te ⟨0, 0⟩ from_ xs)).2.1, 0) := by unfold exRes; rw [if_pos hfd]
      have E1 := Lib.hid e1
      clear e1
      gi_wp2
      gi_region
      gi_wp2
      obtain ⟨V, hV⟩ : ∃ V, ((W.setCell ⟨w.heap.size, 0, none⟩ (.int .i64 (exOf (pcs te ⟨0, 0⟩ from_ xs)).1)).setCell ⟨w.heap.size + 1, 0, none⟩ (.int .i64 (exOf (pcs te ⟨0, 0⟩ from_ xs)).2.1)).drew = V := ⟨_, rfl⟩
      have d1 : Boxed V w.heap.size 2 (.int .i64 (exOf (pcs te ⟨0, 0⟩ from_ xs)).1) := by rw [← hV]; exact (b1.set _).other (by omega) _
      have d2 : Boxed V (w.heap.size + 1) 2 (.int .i64 (exOf (pcs te ⟨0, 0⟩ from_ xs)).2.1) := by rw [← hV]; exact (b2.other (by omega) _).set _
      have dB : Below w.heap.size w V := by rw [← hV]; exact ((hB.setCell (p := ⟨w.heap.size, 0, none⟩) (Nat.le_refl _) _).setCell (p := ⟨w.heap.size + 1, 0, none⟩) (by simp) _).drew
      have dK : V.heap[D]? = some (.deferred (some [])) := by rw [← hV]; exact ((KeepsOthers.setCell _ _ _).trans (KeepsOthers.setCell _ _ _)).same D _ hK rfl
      rw [hV]
      have g1 := cell_kept d1.cell (grownBy_putObj' V D (.deferred none)) (fun r e => by cases e; exact ⟨_, dK, rfl⟩)
      have g2 := cell_kept d2.cell (grownBy_putObj' V D (.deferred none)) (fun r e => by cases e; exact ⟨_, dK, rfl⟩)
      refine ⟨by simp, .inl ⟨_, _, rfl, run_takeDeferred dK, ?_⟩⟩
      exact ⟨.tuple #[.int .i64 (exOf (pcs te ⟨0, 0⟩ from_ xs)).1, .int .i64 (exOf (pcs te ⟨0, 0⟩ from_ xs)).2.1, .int .i64 0], by simp [results, Try.f22, go_sem, g1, g2], by rw [E1.out], dB.trans (belowK_b (w := w) (Nat.le_refl _) V D _ _ (by omega) dK rfl rfl)⟩
    · have hfd' : (exOf (pcs te ⟨0, 0⟩ from_ xs)).2.2 = false := by simpa using hfd
      have e1 : exRes (exOf (pcs te ⟨0, 0⟩ from_ xs)) = (0, 0, 9) := by unfold exRes; rw [if_neg hfd]
      have E1 := Lib.hid e1
      clear e1
      gi_wp2
      obtain ⟨V, hV⟩ : ∃ V, ((W.setCell ⟨w.heap.size, 0, none⟩ (.int .i64 0)).setCell ⟨w.heap.size + 1, 0, none⟩ (.int .i64 0)) = V := ⟨_, rfl⟩
      have d1 : Boxed V w.heap.size 2 (.int .i64 0) := by rw [← hV]; exact (b1.set _).other (by omega) _
      have d2 : Boxed V (w.heap.size + 1) 2 (.int .i64 0) := by rw [← hV]; exact (b2.other (by omega) _).set _
      have dB : Below w.heap.size w V := by rw [← hV]; exact (hB.setCell (p := ⟨w.heap.size, 0, none⟩) (Nat.le_refl _) _).setCell (p := ⟨w.heap.size + 1, 0, none⟩) (by simp) _
      have dK : V.heap[D]? = some (.deferred (some [])) := by rw [← hV]; exact ((KeepsOthers.setCell _ _ _).trans (KeepsOthers.setCell _ _ _)).same D _ hK rfl
      rw [hV]
      have g1 := cell_kept d1.cell (grownBy_putObj' V D (.deferred none)) (fun r e => by cases e; exact ⟨_, dK, rfl⟩)
      have g2 := cell_kept d2.cell (grownBy_putObj' V D (.deferred none)) (fun r e => by cases e; exact ⟨_, dK, rfl⟩)
      refine ⟨by simp, .inl ⟨_, _, rfl, run_takeDeferred dK, ?_⟩⟩
      exact ⟨.tuple #[.int .i64 0, .int .i64 0, .int .i64 9], by simp [results, Try.f22, go_sem, g1, g2], by rw [E1.out], dB.trans (belowK_b (w := w) (Nat.le_refl _) V D _ _ (by omega) dK rfl rfl)⟩
  case stop =>
    rintro D c pre W _ _ h _
    exact h.elim

set_option maxRecDepth 100000 in
set_option maxHeartbeats 1000000 in
theorem ex_err (k : Nat) (A : Option Addr) (c : Nat) (xs : List S57) (from_ te r : Int) (hr : r ≠ 0) (w : World) (hC : Kd.C k57 w A xs.length xs) (hc : xs.length ≤ c) (hk : stats_checked.f k xs from_ te = some r) :
    CallsIn Fence.wide 9 Try.prog 22 #[.slice A xs.length c, .int .i64 from_, .int .i64 te] w fun e w' =>
      e = .returned (.tuple #[.int .i64 0, .int .i64 0, .int .i64 r]) ∧ Below w.heap.size w w' := by
  have hch := fun W (h : Below w.heap.size w W) => (callsIn_wide (n := 8)).2 (stats_checked.calls k A c xs from_ te r W (Kd.C_below hC h) hc hk)
  have HCH := Lib.hid hch
  have HK := Lib.hid hk
  clear hch hk
  have hr' : (r == 0) = false := by simpa using hr
  refine callsIn_of_wp Try.func22 rfl trivial ?_ rfl
  simp only [Try.ntmps22, List.size_toArray, List.length_cons, List.length_nil, Nat.reduceAdd, Nat.reduceSub, Array.replicate_succ, Array.replicate_zero, List.push_toArray, List.append_toArray, List.nil_append, List.cons_append]
  have h0 : Below w.heap.size w ((w.alloc (.cells #[.int .i64 0] 2)).alloc (.cells #[.int .i64 0] 2)) := ((Below.refl _ w).alloc (Nat.le_refl _) _).alloc (by simp) _
  have H0 := Lib.hid h0
  clear h0
  gi_wp2
  refine ⟨trivial, ?_⟩
  refine (HCH.out _ H0.out).mono ?_
  rintro e w' ⟨rfl, hw'⟩
  have s0 : ((w.alloc (.cells #[.int .i64 0] 2)).alloc (.cells #[.int .i64 0] 2)).heap.size = w.heap.size + 1 + 1 := by simp
  have b1 : Boxed w' w.heap.size 2 (.int .i64 0) := (hw'.block _ (by omega)).trans ((Boxed.new w 2 (.int .i64 0)).alloc (.cells #[.int .i64 0] 2))
  have b2 : Boxed w' (w.heap.size + 1) 2 (.int .i64 0) := (hw'.block _ (by omega)).trans (by have := Boxed.new (w.alloc (.cells #[.int .i64 0] 2)) 2 (.int .i64 0); rwa [World.size_alloc] at this)
  have hb' : Below w.heap.size w w' := H0.out.trans (hw'.mono (by omega))
  clear hw' s0 H0 HCH
  have c1 := b1.cell
  have f1 := b1.frozen
  have c2 := b2.cell
  have f2 := b2.frozen
  gi_wp2
  have d1 : Boxed ((w'.setCell ⟨w.heap.size, 0, none⟩ (.int .i64 0)).setCell ⟨w.heap.size + 1, 0, none⟩ (.int .i64 0)) w.heap.size 2 (.int .i64 0) := (b1.set _).other (by omega) _
  have d2 : Boxed ((w'.setCell ⟨w.heap.size, 0, none⟩ (.int .i64 0)).setCell ⟨w.heap.size + 1, 0, none⟩ (.int .i64 0)) (w.heap.size + 1) 2 (.int .i64 0) := (b2.other (by omega) _).set _
  refine bodyPost_ret (v := .tuple #[.int .i64 0, .int .i64 0, .int .i64 r]) (by simp [results, Try.f22, go_sem, d1.cell, d2.cell]) rfl ⟨rfl, ?_⟩
  exact (hb'.setCell (p := ⟨w.heap.size, 0, none⟩) (Nat.le_refl _) _).setCell (p := ⟨w.heap.size + 1, 0, none⟩) (by simp) _

def stats_Extremes.f (k : Nat) (l0 : List (S57)) (a1 : Int) (a2 : Int) : Option (Int × Int × Int) :=
  if l0.length ≤ 4611686018427387904 then (stats_checked.f k l0 a1 a2).bind fun e => if e = 0 then some (exRes (exOf (pcs a2 ⟨0, 0⟩ a1 l0))) else some (0, 0, e) else none
theorem stats_Extremes.calls (k : Nat) (A0 : Option Addr) (c0 : Nat) (l0 : List (S57)) (a1 : Int) (a2 : Int) (r1 : Int) (r2 : Int) (r3 : Int) (w : World) (hr0 : Kd.C k57 w A0 l0.length l0) (hc0 : l0.length ≤ c0) (h : stats_Extremes.f k l0 a1 a2 = some (r1, r2, r3)) :
    Calls Try.prog 22 #[.slice A0 l0.length c0, .int .i64 a1, .int .i64 a2] w fun e w' => e = .returned (.tuple #[.int .i64 r1, .int .i64 r2, .int .i64 r3]) ∧ Below w.heap.size w w' := by
  unfold stats_Extremes.f at h
  by_cases hl : l0.length ≤ 4611686018427387904
  · rw [if_pos hl] at h
    obtain ⟨e, he, h⟩ := Option.bind_eq_some_iff.1 h
    by_cases h0 : e = 0
    · subst h0
      rw [if_pos rfl] at h
      have h' := Option.some.inj h
      have := (callsIn_wide (n := 9)).1 (ex_ok k A0 c0 l0 a1 a2 hl w hr0 hc0 he)
      rw [h'] at this
      exact this
    · rw [if_neg h0] at h
      cases h
      exact (callsIn_wide (n := 9)).1 (ex_err k A0 c0 l0 a1 a2 _ h0 w hr0 hc0 he)
  · rw [if_neg hl] at h
    cases h
theorem stats_Extremes.mono : ∀ a0 a1 a2 k, LeO (stats_Extremes.f k a0 a1 a2) (stats_Extremes.f (k + 1) a0 a1 a2) := by
  intro a0 a1 a2 k
  unfold stats_Extremes.f
  repeat' first
    | (with_reducible exact stats_checked.mono _ _ _ _)
    | (with_reducible exact LeO.refl _)
    | (with_reducible exact LeO.none _)
    | (with_reducible refine LeO.ite ?_ ?_)
    | (with_reducible refine LeO.bind ?_ (fun _ => ?_))
end Go.Proofs.Ytnfcbhoaebcndaa.PT
