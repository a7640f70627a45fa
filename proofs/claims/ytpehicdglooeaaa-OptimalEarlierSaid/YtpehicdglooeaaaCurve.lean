-- optimal.Curve.
import Derived.Test.YtpehicdglooeaaaReach
import Derived.Laws.MakeOwn
import Derived.Maps.AppendAt
import Derived.Test.YtpehicdglooeaaaPTx5
namespace Go.Proofs.Ytpehicdglooeaaa.PT
open Go.RowKit Go.Shelf Go.Proofs.YtpehicdglooeaaaW.PrintWords Go.Proofs.YtpehicdglooeaaaW.PrintLast Go.Proofs.YtpehicdglooeaaaW.PrintMore
attribute [local go_sem] Oper.semAt_some max2_int min2_int max_two min_two
set_option linter.unusedVariables false
set_option linter.unusedSimpArgs false

theorem not_row {W : World} {k : Nat} {cs : Array Value} {t e : TypeId} (h : W.heap[k]? = some (.cells cs t (0, 0))) (hte : t ≠ e) {base size n : Nat} {v : Value} {xs : List Value} (hr : W.ownsRow base e size v n xs) : some k ≠ v.ownBlock := by
  rcases hr.2 with ⟨rfl, _⟩ | ⟨g, cap, cur, rfl, _, hg, _⟩
  · simp [Value.ownBlock]
  · intro e'
    obtain rfl : k = g := by simpa [Value.ownBlock] using e'
    rw [h] at hg
    cases hg
    exact hte rfl
theorem CBox.not_row {W : World} {b : Nat} {z0 z1 t0 t1 t2 t3 : Int} {t4 : Bool} {A : Option Addr} {len c : Nat} {from_ on : Int} (h : CBox W b z0 z1 t0 t1 t2 t3 t4 A len c from_ on) {base size n : Nat} {v : Value} {xs : List Value} (hr : W.ownsRow base 2 size v n xs) (k : Nat) (h0 : b ≤ k) (h1 : k < b + 5) : some k ≠ v.ownBlock := by
  have hk : k = b ∨ k = b + 1 ∨ k = b + 2 ∨ k = b + 3 ∨ k = b + 4 := by omega
  rcases hk with rfl | rfl | rfl | rfl | rfl
  · exact PT.not_row h.z (by decide) hr
  · exact PT.not_row h.t (by decide) hr
  · exact PT.not_row h.o (by decide) hr
  · exact PT.not_row h.f (by decide) hr
  · exact PT.not_row h.n (by decide) hr
theorem KpC.appended {W w1 : World} {n₀ b B : Nat} {z0 z1 t0 t1 t2 t3 : Int} {t4 : Bool} {A : Option Addr} {len c : Nat} {from_ on : Int} (h : CBox W b z0 z1 t0 t1 t2 t3 t4 A len c from_ on) {base size n : Nat} {v v' : Value} {xs : List Value} {tmp : Obj} (hr : W.ownsRow base 2 size v n xs)
    (hg : (W.alloc tmp).grownBy w1 v.ownBlock) (hB : B < b ∨ b + 5 ≤ B) (hb : Below n₀ W (w1.setCell ⟨B, 0, none⟩ v')) : KpC n₀ b W (w1.setCell ⟨B, 0, none⟩ v') :=
  ⟨hb, fun k o h0 h1 hk => by
    have hlt := (Array.getElem?_eq_some_iff.1 hk).1
    have e1 := (Below.heap_alloc W tmp k hlt).trans hk
    have e2 := (hg.block k (by simp; omega) (h.not_row hr k h0 h1)).trans e1
    exact ((grownBy_setCell' w1 B v').block k (Array.getElem?_eq_some_iff.1 e2).1 (fun e => by cases e; omega)).trans e2⟩
theorem cells_kept {W W' : World} {row : Option Nat} {k B : Nat} {cs : Array Value} {t : TypeId} (h : W.heap[k]? = some (.cells cs t (0, 0))) (hg : W.grownBy W' row) (hr : ∀ r, row = some r → B ≤ r ∧ ∃ o : Obj, W.heap[r]? = some o ∧ o.isCells = false) : W'.heap[k]? = some (.cells cs t (0, 0)) :=
  (hg.block k (Array.getElem?_eq_some_iff.1 h).1 (fun e => by
    obtain ⟨_, o, ho, hc⟩ := hr k e.symm
    rw [h] at ho
    cases ho
    cases hc)).trans h
theorem CBox.own {β : Type} (B b : Nat) (z0 z1 t0 t1 t2 t3 : Int) (t4 : Bool) (A : Option Addr) (len c : Nat) (from_ on : Int) : OwnFrom B (fun (_ : β) W => CBox W b z0 z1 t0 t1 t2 t3 t4 A len c from_ on) := fun s W W' row hs hg hr =>
  ⟨cells_kept hs.z hg hr, cells_kept hs.t hg hr, cells_kept hs.o hg hr, cells_kept hs.f hg hr, cells_kept hs.n hg hr⟩
def encV (l : List Int) : List Value := l.map (Value.int .i64)
theorem encV_snoc (l : List Int) (x : Int) : encV (l ++ [x]) = encV l ++ [.int .i64 x] := by simp [encV]

set_option maxRecDepth 100000 in
set_option maxHeartbeats 4000000 in
theorem Curve_main (k : Nat) (z0 z1 t0 t1 t2 t3 : Int) (t4 : Bool) (A : Option Addr) (c : Nat) (out : List Int) (on : Int) (hlen : out.length ≤ 4611686018427387904) (hfr : -9223372036854775808 ≤ t2) (ht3 : t3 ≤ 9223372036854775807)
    (k0 : Nat) (xs : List Int) (hxs : cvGo z0 z1 t2 t3 t4 on out k0 t2 t0 = some xs) (hxl : xs.length ≤ 17592186044416) (hon : ¬ on < t2) (hon1 : ¬ on > t3) (w : World) (hC : Kd.C (Kd.int .i64) w A out.length out) (hc : out.length ≤ c)
    (hk : optimal_check.f k z0 z1 t0 t1 t2 t3 t4 out = some 0) :
    CallsIn Fence.wide 9 Try.prog 18 #[.agg #[.int .i64 z0, .int .i64 z1], .agg #[.int .i64 t0, .int .i64 t1, .int .i64 t2, .int .i64 t3, .bool t4], .slice A out.length c, .int .i64 on] w fun e w' =>
      ∃ v0_, e = .returned (.tuple #[v0_, .int .i64 0]) ∧ w'.ownsRow w.heap.size 2 1 v0_ xs.length (encV xs) ∧ Below w.heap.size w w' := by
  have hch := fun W (h : Below w.heap.size w W) => (callsIn_wide (n := 8)).2 (optimal_check.calls k z0 z1 t0 t1 t2 t3 t4 A c out 0 W (Kd.C_below hC h) hc hk)
  have HCH := Lib.hid hch
  have HK := Lib.hid hk
  clear hch hk
  obtain ⟨i0, hi0, hz0, hz1, hz2⟩ := info_parts info2
  refine callsIn_of_wp_marks Try.func18 rfl trivial ?_ rfl
  simp only [Try.ntmps18, List.size_toArray, List.length_cons, List.length_nil, Nat.reduceAdd, Nat.reduceSub, Array.replicate_succ, Array.replicate_zero, List.push_toArray, List.append_toArray, List.nil_append, List.cons_append]
  have hu32 := Try.underlying32
  have hu23 := Try.underlying23
  have hmx : Try.prog.follows .mixedOrders = true := by kernel_rfl
  obtain ⟨W0, hW0⟩ : ∃ W0, (w.alloc (.cells #[.int .i64 z0, .int .i64 z1] 23)).alloc (.cells #[.int .i64 t0, .int .i64 t1, .int .i64 t2, .int .i64 t3, .bool t4] 32) = W0 := ⟨_, rfl⟩
  have s0 : W0.heap.size = w.heap.size + 1 + 1 := by rw [← hW0]; simp
  have h0 : Below w.heap.size w W0 := by rw [← hW0]; exact ((Below.refl _ w).alloc (Nat.le_refl _) _).alloc (by simp) _
  have bz : W0.heap[w.heap.size]? = some (.cells #[.int .i64 z0, .int .i64 z1] 23 (0, 0)) := by rw [← hW0]; exact (Below.heap_alloc _ _ _ (by simp)).trans (World.alloc_heap_new w _)
  have bt : W0.heap[w.heap.size + 1]? = some (.cells #[.int .i64 t0, .int .i64 t1, .int .i64 t2, .int .i64 t3, .bool t4] 32 (0, 0)) := by
    rw [← hW0]
    have := World.alloc_heap_new (w.alloc (.cells #[.int .i64 z0, .int .i64 z1] 23)) (.cells #[.int .i64 t0, .int .i64 t1, .int .i64 t2, .int .i64 t3, .bool t4] 32)
    rwa [World.size_alloc] at this
  obtain ⟨y0, y1⟩ := zone_cells bz
  obtain ⟨c0, c1, c2, c3, c4⟩ := task_cells bt
  gi_wp2_with (first
    | (gi_at_call 24; refine (HCH.out W0 h0).mono ?_; rintro e w2 ⟨rfl, hw2⟩; have bz2 := (hw2.block _ (by omega)).trans bz; have bt2 := (hw2.block _ (by omega)).trans bt; obtain ⟨z0', z1'⟩ := zone_cells bz2; obtain ⟨d0, d1, d2, d3, d4⟩ := task_cells bt2; have l0 : w.heap.size < w2.heap.size := (by have := hw2.size; omega); have l1 : w.heap.size + 1 < w2.heap.size := (by have := hw2.size; omega))
    | (gi_at_call 33; refine (curve_in _ _ _ _ _ _ _ _ _ _ _ _ _ _).mono ?_; rintro e w' ⟨rfl, rfl⟩)
    | refine ⟨trivial, ?_⟩)
  have hb2 : Below w.heap.size w w2 := h0.trans (hw2.mono (by omega))
  clear y0 y1 c0 c1 c2 c3 c4 z0' z1' d0 d1 d2 d3 d4 bz2 bt2 bz bt hW0 HCH hw2
  obtain ⟨w3, hw3⟩ : ∃ w3, w2.alloc (.cells #[.slice none 0 0] 26) = w3 := ⟨_, rfl⟩
  have s3 : w3.heap.size = w2.heap.size + 1 := by rw [← hw3]; simp
  have h3 : Below w.heap.size w w3 := by rw [← hw3]; exact hb2.alloc (by omega) _
  have bB : Boxed w3 w2.heap.size 26 (.slice none 0 0) := by rw [← hw3]; exact Boxed.new w2 26 _
  rw [hw3]
  clear hw3
  obtain ⟨w1, hw1⟩ : ∃ w1, crvWorld w3 z0 z1 t0 t1 t2 t3 t4 A out.length c t2 on = w1 := ⟨_, rfl⟩
  have s1 : w1.heap.size = w3.heap.size + 5 := by rw [← hw1]; exact crvWorld_size ..
  have h1 : Below w3.heap.size w3 w1 := by rw [← hw1]; exact crvWorld_below ..
  have hbx : CBox w1 w3.heap.size z0 z1 t0 t1 t2 t3 t4 A out.length c t2 on := by rw [← hw1]; exact crvWorld_box ..
  have h01 : Below w.heap.size w w1 := h3.trans (h1.mono (by omega))
  have bB1 : Boxed w1 w2.heap.size 26 (.slice none 0 0) := (h1.block _ (by omega)).trans bB
  rw [hw1]
  rw [s3] at hbx s1
  clear hw1 bB h1 h3 s3 w3
  refine wpIn_rangeFunc_ownG rfl (by omega) (gf := 43) rfl trivial (enters_of Try.func43 (by kernel_rfl) rfl)
    (curve_gives 8 (by omega) (w2.heap.size + 1) w.heap.size z0 z1 t0 t1 t2 t3 t4 A c out t2 on hlen hfr ht3 k0 xs hxs w1 (by omega) hbx (fun W' h => Kd.C_below hC (h01.trans h)))
    KpC.trans (fun W l o o' hl h _ _ => KpC.grown (grownBy_putObj' W l o') (by have := (Array.getElem?_eq_some_iff.1 h).1; omega) (fun r e => by cases e; omega)) (Below.refl _ w1) (fun _ => rfl)
    (fun pre W => (∃ v, Boxed W w2.heap.size 26 v ∧ W.ownsRow w.heap.size 2 1 v pre.length (encV pre) ∧ True) ∧ (Below w.heap.size w W ∧ CBox W (w2.heap.size + 1) z0 z1 t0 t1 t2 t3 t4 A out.length c t2 on))
    (fun _ _ _ => False)
    (OwnFrom.and ((holdsRow_own w.heap.size w2.heap.size 26 2 1 (fun (pre : List Int) => pre.length) (fun pre => encV pre) (fun _ _ => True)).from _) (OwnFrom.and (ownFrom_below (Nat.le_refl _) (by omega)) (CBox.own _ _ _ _ _ _ _ _ _ _ _ _ _ _)))
    (fun _ _ _ _ _ hs _ _ => hs)
    ⟨⟨_, bB1, ⟨rfl, .inl ⟨rfl, rfl⟩⟩, trivial⟩, h01, hbx⟩
    (fun x => { tmps := #[Value.agg #[Value.int .i64 z0, Value.int .i64 z1], Value.agg #[Value.int .i64 t0, Value.int .i64 t1, Value.int .i64 t2, Value.int .i64 t3, Value.bool t4], Value.slice A out.length c, Value.int .i64 on, Value.pointer (some ⟨w.heap.size, 0, none⟩), Value.pointer (some ⟨w.heap.size + 1, 0, none⟩), undef, undef, Value.slice none 0 0, Value.int .i64 0, Value.int .i64 0, Value.pointer (some ⟨w2.heap.size, 0, none⟩), Value.int .i64 x, Value.agg #[Value.int .i64 z0, Value.int .i64 z1], Value.agg #[Value.int .i64 t0, Value.int .i64 t1, Value.int .i64 t2, Value.int .i64 t3, Value.bool t4], Value.slice A out.length c, Value.int .i64 0, Value.int .i64 0, Value.bool false, undef, Value.int .i64 on, Value.pointer (some ⟨w.heap.size + 1, 2, none⟩), Value.int .i64 t2, Value.bool (decide (on < t2)), Value.bool (decide (on < t2)), Value.int .i64 on, Value.pointer (some ⟨w.heap.size + 1, 3, none⟩), Value.int .i64 t3, Value.bool (decide (t3 < on)), Value.bool (decide (on < t2) || decide (t3 < on)), Value.agg #[Value.int .i64 z0, Value.int .i64 z1], Value.agg #[Value.int .i64 t0, Value.int .i64 t1, Value.int .i64 t2, Value.int .i64 t3, Value.bool t4], Value.slice A out.length c, Value.pointer (some ⟨w.heap.size + 1, 2, none⟩), Value.int .i64 t2, Value.int .i64 on, crvClo (w2.heap.size + 1), Value.int .i64 x, undef, undef, undef, undef, undef], defers := [] })
    ?assign ?body ?done ?stop
  case assign =>
    rintro l x W K hK
    dsimp only [encI]
    gi_wp2
    exact hK
  case body =>
    rintro l pre x W ⟨⟨v, b1, hrow, _⟩, hB, hcb⟩ hlt
    have c1 := b1.cell
    have f1 := b1.frozen
    have lt1 := b1.lt
    gi_wp2_with (gi_at_builtin; refine wpListIn_append_own _ rfl _ _ 26 rfl w.heap.size 2 i0 (.int .i64 0) 1 8 Try.underlying26 hi0 hz0 hz1 hz2 rfl (by decide) _ _ _ rfl (hrow.alloc _) ⟨W.heap.size, 0, none⟩ 1 1 [.int .i64 x] rfl rfl (cell_one_new _ _ _) (by simp [Value.oneCell']) (by unfold maxLen; omega) (by omega) (by have := hB.size; simp; omega) ?_; intro v' w5 hown' hg5 hnil5; obtain ⟨g', cap', rfl⟩ := ownsRow_succ hown'; have ha := Boxed.appended b1 (by decide) hrow hB.size (by omega) hown' hg5; have c5 := ha.1.cell; have f5 := ha.1.frozen)
    obtain ⟨_, ha2, ha3, ha4, ha5⟩ := ha
    refine ⟨ha4.from _, KpC.appended hcb hrow hg5 (by omega) ha5, ⟨_, ha2, ?_, trivial⟩, hB.trans ha5, hcb.kept (KpC.appended hcb hrow hg5 (by omega) ha5)⟩
    rw [encV_snoc, List.length_append]
    exact ha3
  case done =>
    rintro D ys W hD rfl ⟨⟨v, b1, hrow, _⟩, hB, hcb⟩ hK
    have c1 := b1.cell
    gi_wp2
    refine ⟨by simp, .inl ⟨_, _, rfl, run_takeDeferred hK, ?_⟩⟩
    exact ⟨.tuple #[v, .int .i64 0], by simp [results, Try.f18, go_sem], v, rfl, ownsRow_putObj hrow _ hK rfl, hB.trans (belowK_b (w := w) (Nat.le_refl _) W D _ _ (by omega) hK rfl rfl)⟩
  case stop =>
    rintro D c pre W _ _ h _
    exact h.elim
set_option maxRecDepth 100000 in
set_option maxHeartbeats 1000000 in
theorem Curve_err (k : Nat) (z0 z1 t0 t1 t2 t3 : Int) (t4 : Bool) (A : Option Addr) (c : Nat) (out : List Int) (on r : Int) (w : World) (hC : Kd.C (Kd.int .i64) w A out.length out) (hc : out.length ≤ c)
    (hk : optimal_check.f k z0 z1 t0 t1 t2 t3 t4 out = some r) (hr : r ≠ 0) :
    CallsIn Fence.wide 9 Try.prog 18 #[.agg #[.int .i64 z0, .int .i64 z1], .agg #[.int .i64 t0, .int .i64 t1, .int .i64 t2, .int .i64 t3, .bool t4], .slice A out.length c, .int .i64 on] w fun e w' =>
      e = .returned (.tuple #[.slice none 0 0, .int .i64 r]) ∧ Below w.heap.size w w' := by
  have hr' : (r == 0) = false := by simpa using hr
  have hch := fun W (h : Below w.heap.size w W) => (callsIn_wide (n := 8)).2 (optimal_check.calls k z0 z1 t0 t1 t2 t3 t4 A c out r W (Kd.C_below hC h) hc hk)
  have HCH := Lib.hid hch
  have HK := Lib.hid hk
  clear hch hk
  refine callsIn_of_wp Try.func18 rfl trivial ?_ rfl
  simp only [Try.ntmps18, List.size_toArray, List.length_cons, List.length_nil, Nat.reduceAdd, Nat.reduceSub, Array.replicate_succ, Array.replicate_zero, List.push_toArray, List.append_toArray, List.nil_append, List.cons_append]
  have hu32 := Try.underlying32
  have hu23 := Try.underlying23
  have hmx : Try.prog.follows .mixedOrders = true := by kernel_rfl
  obtain ⟨W0, hW0⟩ : ∃ W0, (w.alloc (.cells #[.int .i64 z0, .int .i64 z1] 23)).alloc (.cells #[.int .i64 t0, .int .i64 t1, .int .i64 t2, .int .i64 t3, .bool t4] 32) = W0 := ⟨_, rfl⟩
  have s0 : W0.heap.size = w.heap.size + 1 + 1 := by rw [← hW0]; simp
  have h0 : Below w.heap.size w W0 := by rw [← hW0]; exact ((Below.refl _ w).alloc (Nat.le_refl _) _).alloc (by simp) _
  have bz : W0.heap[w.heap.size]? = some (.cells #[.int .i64 z0, .int .i64 z1] 23 (0, 0)) := by rw [← hW0]; exact (Below.heap_alloc _ _ _ (by simp)).trans (World.alloc_heap_new w _)
  have bt : W0.heap[w.heap.size + 1]? = some (.cells #[.int .i64 t0, .int .i64 t1, .int .i64 t2, .int .i64 t3, .bool t4] 32 (0, 0)) := by
    rw [← hW0]
    have := World.alloc_heap_new (w.alloc (.cells #[.int .i64 z0, .int .i64 z1] 23)) (.cells #[.int .i64 t0, .int .i64 t1, .int .i64 t2, .int .i64 t3, .bool t4] 32)
    rwa [World.size_alloc] at this
  obtain ⟨y0, y1⟩ := zone_cells bz
  obtain ⟨c0, c1, c2, c3, c4⟩ := task_cells bt
  gi_wp2_with (first | (gi_at_call 24; refine (HCH.out W0 h0).mono ?_; rintro e w2 ⟨rfl, hw2⟩; have bz2 := (hw2.block _ (by omega)).trans bz; have bt2 := (hw2.block _ (by omega)).trans bt; obtain ⟨z0', z1'⟩ := zone_cells bz2; obtain ⟨d0, d1, d2, d3, d4⟩ := task_cells bt2) | refine ⟨trivial, ?_⟩)
  exact bodyPost_ret (v := .tuple #[.slice none 0 0, .int .i64 r]) (by simp [results, Try.f18, go_sem]) rfl ⟨rfl, h0.trans (hw2.mono (by omega))⟩
set_option maxRecDepth 100000 in
set_option maxHeartbeats 1000000 in
theorem Curve_out (k : Nat) (z0 z1 t0 t1 t2 t3 : Int) (t4 : Bool) (A : Option Addr) (c : Nat) (out : List Int) (on : Int) (w : World) (hC : Kd.C (Kd.int .i64) w A out.length out) (hc : out.length ≤ c)
    (hk : optimal_check.f k z0 z1 t0 t1 t2 t3 t4 out = some 0) (hon : on < t2 ∨ on > t3) :
    CallsIn Fence.wide 9 Try.prog 18 #[.agg #[.int .i64 z0, .int .i64 z1], .agg #[.int .i64 t0, .int .i64 t1, .int .i64 t2, .int .i64 t3, .bool t4], .slice A out.length c, .int .i64 on] w fun e w' =>
      e = .returned (.tuple #[.slice none 0 0, .int .i64 1]) ∧ Below w.heap.size w w' := by
  have hch := fun W (h : Below w.heap.size w W) => (callsIn_wide (n := 8)).2 (optimal_check.calls k z0 z1 t0 t1 t2 t3 t4 A c out 0 W (Kd.C_below hC h) hc hk)
  have HCH := Lib.hid hch
  have HK := Lib.hid hk
  clear hch hk
  refine callsIn_of_wp Try.func18 rfl trivial ?_ rfl
  simp only [Try.ntmps18, List.size_toArray, List.length_cons, List.length_nil, Nat.reduceAdd, Nat.reduceSub, Array.replicate_succ, Array.replicate_zero, List.push_toArray, List.append_toArray, List.nil_append, List.cons_append]
  have hu32 := Try.underlying32
  have hu23 := Try.underlying23
  have hmx : Try.prog.follows .mixedOrders = true := by kernel_rfl
  obtain ⟨W0, hW0⟩ : ∃ W0, (w.alloc (.cells #[.int .i64 z0, .int .i64 z1] 23)).alloc (.cells #[.int .i64 t0, .int .i64 t1, .int .i64 t2, .int .i64 t3, .bool t4] 32) = W0 := ⟨_, rfl⟩
  have s0 : W0.heap.size = w.heap.size + 1 + 1 := by rw [← hW0]; simp
  have h0 : Below w.heap.size w W0 := by rw [← hW0]; exact ((Below.refl _ w).alloc (Nat.le_refl _) _).alloc (by simp) _
  have bz : W0.heap[w.heap.size]? = some (.cells #[.int .i64 z0, .int .i64 z1] 23 (0, 0)) := by rw [← hW0]; exact (Below.heap_alloc _ _ _ (by simp)).trans (World.alloc_heap_new w _)
  have bt : W0.heap[w.heap.size + 1]? = some (.cells #[.int .i64 t0, .int .i64 t1, .int .i64 t2, .int .i64 t3, .bool t4] 32 (0, 0)) := by
    rw [← hW0]
    have := World.alloc_heap_new (w.alloc (.cells #[.int .i64 z0, .int .i64 z1] 23)) (.cells #[.int .i64 t0, .int .i64 t1, .int .i64 t2, .int .i64 t3, .bool t4] 32)
    rwa [World.size_alloc] at this
  obtain ⟨y0, y1⟩ := zone_cells bz
  obtain ⟨c0, c1, c2, c3, c4⟩ := task_cells bt
  by_cases hlt : on < t2
  · gi_wp2_with (first | (gi_at_call 24; refine (HCH.out W0 h0).mono ?_; rintro e w2 ⟨rfl, hw2⟩; have bz2 := (hw2.block _ (by omega)).trans bz; have bt2 := (hw2.block _ (by omega)).trans bt; obtain ⟨z0', z1'⟩ := zone_cells bz2; obtain ⟨d0, d1, d2, d3, d4⟩ := task_cells bt2) | refine ⟨trivial, ?_⟩)
    exact bodyPost_ret (v := .tuple #[.slice none 0 0, .int .i64 1]) (by simp [results, Try.f18, go_sem]) rfl ⟨rfl, h0.trans (hw2.mono (by omega))⟩
  · have hgt : t3 < on := by omega
    gi_wp2_with (first | (gi_at_call 24; refine (HCH.out W0 h0).mono ?_; rintro e w2 ⟨rfl, hw2⟩; have bz2 := (hw2.block _ (by omega)).trans bz; have bt2 := (hw2.block _ (by omega)).trans bt; obtain ⟨z0', z1'⟩ := zone_cells bz2; obtain ⟨d0, d1, d2, d3, d4⟩ := task_cells bt2) | refine ⟨trivial, ?_⟩)
    exact bodyPost_ret (v := .tuple #[.slice none 0 0, .int .i64 1]) (by simp [results, Try.f18, go_sem]) rfl ⟨rfl, h0.trans (hw2.mono (by omega))⟩

def optimal_Curve.f (k : Nat) (a0_0 a0_1 a1_0 a1_1 a1_2 a1_3 : Int) (a1_4 : Bool) (l2 : List Int) (a3 : Int) : Option (List Int × Int) :=
  if -9223372036854775808 ≤ a1_2 ∧ a1_3 ≤ 9223372036854775807 ∧ l2.length ≤ 4611686018427387904 then
    (optimal_check.f k a0_0 a0_1 a1_0 a1_1 a1_2 a1_3 a1_4 l2).bind fun e => if e = 0 then (if a3 < a1_2 ∨ a3 > a1_3 then some ([], 1) else
      (cvGo a0_0 a0_1 a1_2 a1_3 a1_4 a3 l2 k a1_2 a1_0).bind fun xs => if xs.length ≤ 17592186044416 then some (xs, 0) else none) else some ([], e)
  else none
theorem optimal_Curve.mono : ∀ a0 a1 a2 a3 a4 a5 a6 a7 a8 k, LeO (optimal_Curve.f k a0 a1 a2 a3 a4 a5 a6 a7 a8) (optimal_Curve.f (k + 1) a0 a1 a2 a3 a4 a5 a6 a7 a8) := by
  intro a0 a1 a2 a3 a4 a5 a6 a7 a8 k
  unfold optimal_Curve.f
  refine LeO.ite ?_ (fun _ h => h)
  refine LeO.bind (optimal_check.mono _ _ _ _ _ _ _ _ _) (fun e => ?_)
  refine LeO.ite (LeO.ite (fun _ h => h) ?_) (fun _ h => h)
  exact LeO.bind (cvGo_mono _ _ _ _ _ _ _ _ _ _) (fun _ _ h => h)
theorem optimal_Curve.calls (k : Nat) (a0_0 a0_1 a1_0 a1_1 a1_2 a1_3 : Int) (a1_4 : Bool) (A2 : Option Addr) (c2 : Nat) (l2 : List Int) (a3 : Int) (r1 : List Int) (r2 : Int) (w : World) (hr2 : Kd.C (Kd.int .i64) w A2 l2.length l2) (hc2 : l2.length ≤ c2) (h : optimal_Curve.f k a0_0 a0_1 a1_0 a1_1 a1_2 a1_3 a1_4 l2 a3 = some (r1, r2)) :
    Calls Try.prog 18 #[.agg #[.int .i64 a0_0, .int .i64 a0_1], .agg #[.int .i64 a1_0, .int .i64 a1_1, .int .i64 a1_2, .int .i64 a1_3, .bool a1_4], .slice A2 l2.length c2, .int .i64 a3] w fun e w' => ∃ v0_ : Value, e = .returned (.tuple #[v0_, .int .i64 r2]) ∧ Kd.R (Kd.int .i64) 2 w' w.heap.size (fun _ => True) v0_ r1 ∧ Below w.heap.size w w' := by
  unfold optimal_Curve.f at h
  by_cases hl : -9223372036854775808 ≤ a1_2 ∧ a1_3 ≤ 9223372036854775807 ∧ l2.length ≤ 4611686018427387904
  · rw [if_pos hl] at h
    obtain ⟨e, he, h⟩ := Option.bind_eq_some_iff.mp h
    by_cases h0 : e = 0
    · subst h0
      rw [if_pos rfl] at h
      by_cases hon : a3 < a1_2 ∨ a3 > a1_3
      · rw [if_pos hon] at h
        cases h
        exact ((callsIn_wide (n := 9)).1 (Curve_out k a0_0 a0_1 a1_0 a1_1 a1_2 a1_3 a1_4 A2 c2 l2 a3 w hr2 hc2 he hon)).mono (fun e w' hh => ⟨_, hh.1, Kd.R_nil _ _ _ _ _, hh.2⟩)
      · rw [if_neg hon] at h
        obtain ⟨xs, hxs, h⟩ := Option.bind_eq_some_iff.mp h
        by_cases hx : xs.length ≤ 17592186044416
        · rw [if_pos hx] at h
          cases h
          refine ((callsIn_wide (n := 9)).1 (Curve_main k a0_0 a0_1 a1_0 a1_1 a1_2 a1_3 a1_4 A2 c2 l2 a3 hl.2.2 hl.1 hl.2.1 k r1 hxs hx (by omega) (by omega) w hr2 hc2 he)).mono (fun e w' hh => ?_)
          obtain ⟨v, hv, ho, hb⟩ := hh
          exact ⟨v, hv, Kd.R_of_own ho (fun _ _ => trivial), hb⟩
        · rw [if_neg hx] at h
          cases h
    · rw [if_neg h0] at h
      cases h
      exact ((callsIn_wide (n := 9)).1 (Curve_err k a0_0 a0_1 a1_0 a1_1 a1_2 a1_3 a1_4 A2 c2 l2 a3 r2 w hr2 hc2 he h0)).mono (fun e w' hh => ⟨_, hh.1, Kd.R_nil _ _ _ _ _, hh.2⟩)
  · rw [if_neg hl] at h
    cases h
end Go.Proofs.Ytpehicdglooeaaa.PT
