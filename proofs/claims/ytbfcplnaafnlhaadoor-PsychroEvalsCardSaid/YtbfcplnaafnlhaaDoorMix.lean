-- psychro.Mix.
import Derived.Test.YtbfcplnaafnlhaaDoorSat
import Derived.Test.YtbfcplnaafnlhaaDoorPTx9
import Derived.RangeFuncRecord
namespace Go.Proofs.YtbfcplnaafnlhaaDoor.PT
open Go.RowKit Go.Shelf Go.Proofs Go.Proofs.YtbfcplnaafnlhaaDoorW.PrintWords Go.Proofs.YtbfcplnaafnlhaaDoorW.PrintLast Go.Proofs.YtbfcplnaafnlhaaDoorW.PrintMore
attribute [local go_sem] Oper.semAt_some max2_int min2_int max_two min_two
set_option linter.unusedVariables false
set_option linter.unusedSimpArgs false
theorem two_cells {W : World} {b : Nat} {x0 x1 : Value} {t : TypeId} (h : W.heap[b]? = some (.cells #[x0, x1] t (0, 0))) : W.cell? ⟨b, 0, none⟩ = some x0 ∧ W.cell? ⟨b, 1, none⟩ = some x1 := by
  simp [World.cell?, h]
def psychro_Mix.f (k : Nat) (a0 a1 a2 a3 a4 a5 : Int) : Option (Int × Int) :=
  if lim 0 1000000000 a2 + lim 0 1000000000 a5 = 0 then some (lim (-100000) 200000 a0, lim 0 1000000 a1) else
    (psychro_Mix_1.f k (lim (-100000) 200000 a0) (lim (-100000) 200000 a3) (lim 0 1000000000 a2) (lim 0 1000000000 a5)).bind fun x => (psychro_Mix_1.f k (lim 0 1000000 a1) (lim 0 1000000 a4) (lim 0 1000000000 a2) (lim 0 1000000000 a5)).bind fun y => some (x, y)
theorem psychro_Mix.mono : ∀ a0 a1 a2 a3 a4 a5 k, LeO (psychro_Mix.f k a0 a1 a2 a3 a4 a5) (psychro_Mix.f (k + 1) a0 a1 a2 a3 a4 a5) := by
  intro a0 a1 a2 a3 a4 a5 k
  unfold psychro_Mix.f
  exact LeO.ite (fun _ h => h) (LeO.bind (psychro_Mix_1.mono _ _ _ _ _) (fun _ => LeO.bind (psychro_Mix_1.mono _ _ _ _ _) (fun _ _ h => h)))
set_option maxRecDepth 100000 in
set_option maxHeartbeats 2000000 in
theorem mix_in (k : Nat) (a0 a1 a2 a3 a4 a5 r1 r2 : Int) (w : World) (h : psychro_Mix.f k a0 a1 a2 a3 a4 a5 = some (r1, r2)) :
    CallsIn Fence.wide 9 Tryd.prog 11 #[.int .i64 a0, .int .i64 a1, .int .i64 a2, .int .i64 a3, .int .i64 a4, .int .i64 a5] w fun e w' => e = .returned (.tuple #[.int .i64 r1, .int .i64 r2]) ∧ Below w.heap.size w w' := by
  have HB := Below.refl w.heap.size w
  have hu43 := Tryd.underlying43
  have hmx : Tryd.prog.follows .mixedOrders = true := by kernel_rfl
  unfold psychro_Mix.f at h
  have l0 : psychro_limit.f a0 (-100000) 200000 = some (lim (-100000) 200000 a0) := rfl
  have l1 : psychro_limit.f a1 0 1000000 = some (lim 0 1000000 a1) := rfl
  have l2 : psychro_limit.f a2 0 1000000000 = some (lim 0 1000000000 a2) := rfl
  have l3 : psychro_limit.f a3 (-100000) 200000 = some (lim (-100000) 200000 a3) := rfl
  have l4 : psychro_limit.f a4 0 1000000 = some (lim 0 1000000 a4) := rfl
  have l5 : psychro_limit.f a5 0 1000000000 = some (lim 0 1000000000 a5) := rfl
  have b2 := lim_bd (lo := 0) (hi := 1000000000) (a := a2) (by omega)
  have b5 := lim_bd (lo := 0) (hi := 1000000000) (a := a5) (by omega)
  generalize lim (-100000) 200000 a0 = t0 at *
  generalize lim (-100000) 200000 a3 = t1 at *
  generalize lim 0 1000000 a1 = w0 at *
  generalize lim 0 1000000 a4 = w1 at *
  generalize lim 0 1000000000 a2 = f0 at *
  generalize lim 0 1000000000 a5 = f1 at *
  refine callsIn_of_wp Tryd.func11 rfl trivial ?_ rfl
  simp only [Tryd.ntmps11, List.size_toArray, List.length_cons, List.length_nil, Nat.reduceAdd, Nat.reduceSub, Array.replicate_succ, Array.replicate_zero, List.push_toArray, List.append_toArray, List.nil_append, List.cons_append]
  by_cases c : f0 + f1 = 0
  · rw [if_pos c] at h
    cases h
    gi_wp2_with (first
      | (gi_at_call 29; refine ((callsIn_wide).2 (psychro_limit.calls _ _ _ _ _ (by assumption))).mono ?_; rintro e w' ⟨rfl, hb⟩)
      | refine ⟨trivial, ?_⟩)
    rename_i v1 hb1 v2 hb2 v3 hb3 v4 hb4 v5 hb5 K1 q1 K2 q2
    have hb6 := hb
    have BT3 : v3.heap[v2.heap.size]? = some (.cells #[.int .i64 r1, .int .i64 t1] 43 (0, 0)) := (hb3.block _ (by simp)).trans (World.alloc_heap_new v2 _)
    have BT4 := (hb4.block _ (Array.getElem?_eq_some_iff.1 BT3).1).trans BT3
    have BT5 := (hb5.block _ (by have := (Array.getElem?_eq_some_iff.1 BT4).1; simp; omega)).trans ((Below.heap_alloc v4 _ _ (Array.getElem?_eq_some_iff.1 BT4).1).trans BT4)
    have BW5 : v5.heap[v4.heap.size]? = some (.cells #[.int .i64 r2, .int .i64 w1] 43 (0, 0)) := (hb5.block _ (by simp)).trans (World.alloc_heap_new v4 _)
    have BT6 := (hb6.block _ (Array.getElem?_eq_some_iff.1 BT5).1).trans BT5
    have BW6 := (hb6.block _ (Array.getElem?_eq_some_iff.1 BW5).1).trans BW5
    have tl := (Array.getElem?_eq_some_iff.1 BT6).1
    have wl := (Array.getElem?_eq_some_iff.1 BW6).1
    have BT7 := (Below.heap_alloc w' (.cells #[.int .i64 f0, .int .i64 f1] 43) _ tl).trans BT6
    have BW7 := (Below.heap_alloc w' (.cells #[.int .i64 f0, .int .i64 f1] 43) _ wl).trans BW6
    have BF7 := World.alloc_heap_new w' (.cells #[.int .i64 f0, .int .i64 f1] 43)
    have H1 : Below w.heap.size w v2 := hb1.trans (hb2.mono hb1.size)
    have H2 : Below w.heap.size w v4 := ((H1.alloc H1.size _).trans (hb3.mono (by have := H1.size; simp; omega))).trans (hb4.mono (by have := H1.size; have := hb3.size; simp at this; omega))
    have H3 : Below w.heap.size w w' := ((H2.alloc H2.size _).trans (hb5.mono (by have := H2.size; simp; omega))).trans (hb6.mono (by have := H2.size; have := hb5.size; simp at this; omega))
    have H4 : Below w.heap.size w (w'.alloc (.cells #[.int .i64 f0, .int .i64 f1] 43)) := H3.alloc H3.size _
    obtain ⟨W, hW⟩ : ∃ W, w'.alloc (.cells #[.int .i64 f0, .int .i64 f1] 43) = W := ⟨_, rfl⟩
    rw [hW] at BT7 BW7 BF7 H4 ⊢
    clear hW
    obtain ⟨ct0, ct1⟩ := two_cells BT7
    obtain ⟨cw0, cw1⟩ := two_cells BW7
    gi_region_with_o (refine ⟨trivial, ?_⟩)
    all_goals (
      gi_wp2
      exact bodyPost_ret (v := .tuple #[.int .i64 r1, .int .i64 r2]) (by simp [results, Tryd.f11, go_sem]) rfl ⟨rfl, H4.drew⟩)
  · rw [if_neg c] at h
    obtain ⟨x, hx, h⟩ := Option.bind_eq_some_iff.mp h
    obtain ⟨y, hy, h⟩ := Option.bind_eq_some_iff.mp h
    cases h
    gi_wp2_with (first
      | (gi_at_call 29; refine ((callsIn_wide).2 (psychro_limit.calls _ _ _ _ _ (by assumption))).mono ?_; rintro e w' ⟨rfl, hb⟩)
      | refine ⟨trivial, ?_⟩)
    rename_i v1 hb1 v2 hb2 v3 hb3 v4 hb4 v5 hb5 K1 q1 K2
    have hb6 := hb
    have BT3 : v3.heap[v2.heap.size]? = some (.cells #[.int .i64 t0, .int .i64 t1] 43 (0, 0)) := (hb3.block _ (by simp)).trans (World.alloc_heap_new v2 _)
    have BT4 := (hb4.block _ (Array.getElem?_eq_some_iff.1 BT3).1).trans BT3
    have BT5 := (hb5.block _ (by have := (Array.getElem?_eq_some_iff.1 BT4).1; simp; omega)).trans ((Below.heap_alloc v4 _ _ (Array.getElem?_eq_some_iff.1 BT4).1).trans BT4)
    have BW5 : v5.heap[v4.heap.size]? = some (.cells #[.int .i64 w0, .int .i64 w1] 43 (0, 0)) := (hb5.block _ (by simp)).trans (World.alloc_heap_new v4 _)
    have BT6 := (hb6.block _ (Array.getElem?_eq_some_iff.1 BT5).1).trans BT5
    have BW6 := (hb6.block _ (Array.getElem?_eq_some_iff.1 BW5).1).trans BW5
    have tl := (Array.getElem?_eq_some_iff.1 BT6).1
    have wl := (Array.getElem?_eq_some_iff.1 BW6).1
    have BT7 := (Below.heap_alloc w' (.cells #[.int .i64 f0, .int .i64 f1] 43) _ tl).trans BT6
    have BW7 := (Below.heap_alloc w' (.cells #[.int .i64 f0, .int .i64 f1] 43) _ wl).trans BW6
    have BF7 := World.alloc_heap_new w' (.cells #[.int .i64 f0, .int .i64 f1] 43)
    have H1 : Below w.heap.size w v2 := hb1.trans (hb2.mono hb1.size)
    have H2 : Below w.heap.size w v4 := ((H1.alloc H1.size _).trans (hb3.mono (by have := H1.size; simp; omega))).trans (hb4.mono (by have := H1.size; have := hb3.size; simp at this; omega))
    have H3 : Below w.heap.size w w' := ((H2.alloc H2.size _).trans (hb5.mono (by have := H2.size; simp; omega))).trans (hb6.mono (by have := H2.size; have := hb5.size; simp at this; omega))
    have H4 : Below w.heap.size w (w'.alloc (.cells #[.int .i64 f0, .int .i64 f1] 43)) := H3.alloc H3.size _
    obtain ⟨W, hW⟩ : ∃ W, w'.alloc (.cells #[.int .i64 f0, .int .i64 f1] 43) = W := ⟨_, rfl⟩
    rw [hW] at BT7 BW7 BF7 H4 ⊢
    clear hW
    obtain ⟨ct0, ct1⟩ := two_cells BT7
    obtain ⟨cw0, cw1⟩ := two_cells BW7
    have HX := Lib.hid hx
    have HY := Lib.hid hy
    clear hx hy
    have BF7' : W.drew.heap[w'.heap.size]? = some (.cells #[.int .i64 f0, .int .i64 f1] 43 (0, 0)) := BF7
    gi_region_with_o (first
      | (gi_at_call 30; refine ((callsIn_wide).2 (psychro_Mix_1.calls k _ _ _ _ _ _ (by first | exact HX.out | exact HY.out) (by assumption))).mono ?_; rintro e W1 ⟨rfl, hbX⟩; have BW8 := (hbX.block _ (by first | exact (Array.getElem?_eq_some_iff.1 BW7).1 | exact Nat.lt_of_lt_of_le (Array.getElem?_eq_some_iff.1 BW7).1 hbX.size)).trans BW7; have BF8 := (hbX.block _ (Array.getElem?_eq_some_iff.1 BF7').1).trans BF7'; obtain ⟨cv0, cv1⟩ := two_cells BW8)
      | (gi_at_call 30; refine ((callsIn_wide).2 (psychro_Mix_1.calls k _ _ _ _ _ _ (by first | exact HX.out | exact HY.out) (by assumption))).mono ?_; rintro e W2 ⟨rfl, hbY⟩)
      | refine ⟨trivial, ?_⟩)
    all_goals (
      gi_wp2
      exact bodyPost_ret (v := .tuple #[.int .i64 r1, .int .i64 r2]) (by simp [results, Tryd.f11, go_sem]) rfl ⟨rfl, (H4.drew.trans (hbX.mono H4.size)).trans (hbY.mono (by have := H4.size; have := hbX.size; exact Nat.le_trans H4.size hbX.size))⟩)
theorem psychro_Mix.calls (k : Nat) (a0 a1 a2 a3 a4 a5 : Int) (r1 r2 : Int) (w : World) (h : psychro_Mix.f k a0 a1 a2 a3 a4 a5 = some (r1, r2)) :
    Calls Tryd.prog 11 #[.int .i64 a0, .int .i64 a1, .int .i64 a2, .int .i64 a3, .int .i64 a4, .int .i64 a5] w fun e w' => e = .returned (.tuple #[.int .i64 r1, .int .i64 r2]) ∧ Below w.heap.size w w' := (callsIn_wide (n := 9)).1 (mix_in k a0 a1 a2 a3 a4 a5 r1 r2 w h)
end Go.Proofs.YtbfcplnaafnlhaaDoor.PT
