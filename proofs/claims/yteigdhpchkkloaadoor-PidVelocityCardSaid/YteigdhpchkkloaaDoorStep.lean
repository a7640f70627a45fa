-- pid.Step, at the one input at which it is called.
import Derived.Test.YteigdhpchkkloaaDoorLaid
import Derived.Test.YteigdhpchkkloaaDoorPTx23
import Derived.Test.YteigdhpchkkloaaDoorPTx25
import Derived.Test.YteigdhpchkkloaaDoorPTx17
import Derived.Scope
import Derived.LoopNIn
import Derived.Laws.EntriesVeiled
import Derived.Sort.QuietIn
import Derived.Shelf.RegionOpen
import Derived.Lib.Hide
namespace Go.Proofs.YteigdhpchkkloaaDoor.PT
open Go.RowKit Go.Shelf Go.Proofs.YteigdhpchkkloaaDoorW.PrintWords Go.Proofs.YteigdhpchkkloaaDoorW.PrintLast Go.Proofs.YteigdhpchkkloaaDoorW.PrintMore
attribute [local go_sem] Oper.semAt_some max2_int min2_int max_two min_two
set_option pp.deepTerms true
set_option pp.maxSteps 1000000
set_option linter.unusedVariables false
set_option linter.unusedSimpArgs false
def stepIn : List S43 := [⟨1, 21000⟩, ⟨1, 20000⟩, ⟨2, 1⟩]
def pid_Step.f (a0 : ByteArray) (l1 l2 : List Int) (l3 : List S43) (a4 : Int) : Option (List Int × Int × Int × Int) :=
  if a0.data.toList = [112, 105, 100] ∧ l1 = [2000, 60, 0, 100000, 0] ∧ l2 = [0, 0, 0] ∧ l3.map (fun x => (x.f0, x.f1)) = [(1, 21000), (1, 20000), (2, 1)] ∧ a4 = 30 then some ([1, -1000, 0], 1, 1000, 0) else none
theorem results_tct {P : Program} {fn : Func} {p u v : Tmp} {ty : TypeId} (h : fn.results = #[.tmp u, .cell p ty, .tmp v]) (tmps : Array Value) (w : World) (g : Nat) (t : TypeId) (cs : Array Value) (fr : Nat × Nat) (d : TypeDesc)
    (hp : tmps.getD p undef = .pointer (some ⟨g, 0, none⟩)) (hg : w.heap[g]? = some (.cells cs t fr))
    (hu : P.underlying ty = some d) (hd : (match d with | .struct _ | .array _ _ => true | _ => false) = true) (hi : (P.info? ty).map (·.size) = some cs.size) :
    (results fn tmps).run P w = .ok (.tuple #[tmps.getD u undef, .agg cs, tmps.getD v undef]) w := by
  have hp' : tmps[p]?.getD undef = .pointer (some ⟨g, 0, none⟩) := by simpa using hp
  simp [results, h, hp', asAddr, run_loadVar_row w g t ty cs fr d hg hu hd hi]
/-- What abides while the block is stepped: the block's row, the result's box, the inputs. -/
structure SF (w W : World) (kb b off cap g o : Nat) : Prop where
  hb : Below w.heap.size w W
  bk : W.heap[kb]? = some (.cells #[.int .i64 5, .int .i64 3, .slice (some ⟨b, off, none⟩) 3 cap, .func (.func 60) #[] #[], .func (.func 62) #[] #[]] 56 (0, 0))
  br : W.heap[w.heap.size]? = some (.cells #[.int .i64 0, .int .i64 0] 43 (0, 0))
  y0 : W.cell? ⟨b, off, none⟩ = some (.int .i64 1)
  y1 : W.cell? ⟨b, off + 1, none⟩ = some (.int .i64 1)
  y2 : W.cell? ⟨b, off + 2, none⟩ = some (.int .i64 2)
  i0 : W.cell? ⟨g, o, none⟩ = some (.int .i64 1)
  i1 : W.cell? ⟨g, o + 1, none⟩ = some (.int .i64 21000)
  i2 : W.cell? ⟨g, o + 2, none⟩ = some (.int .i64 1)
  i3 : W.cell? ⟨g, o + 3, none⟩ = some (.int .i64 20000)
  i4 : W.cell? ⟨g, o + 4, none⟩ = some (.int .i64 2)
  i5 : W.cell? ⟨g, o + 5, none⟩ = some (.int .i64 1)
theorem SF.below {w W W' : World} {kb b off cap g o : Nat} (f : SF w W kb b off cap g o) (h : Below W.heap.size W W') : SF w W' kb b off cap g o :=
  have c : ∀ {x z : Nat} {v : Value}, W.cell? ⟨x, z, none⟩ = some v → W'.cell? ⟨x, z, none⟩ = some v := fun hx => below_cell h (Nat.le_refl _) hx (World.block_lt_of_cell? W _ hx)
  ⟨f.hb.trans (h.mono f.hb.size), blk_below f.bk h, blk_below f.br h, c f.y0, c f.y1, c f.y2, c f.i0, c f.i1, c f.i2, c f.i3, c f.i4, c f.i5⟩
theorem SF.alloc {w W : World} {kb b off cap g o : Nat} (f : SF w W kb b off cap g o) (x : Obj) : SF w (W.alloc x) kb b off cap g o := f.below (below_alloc (Below.refl _ _) x)
theorem ins_open {w : World} {A : Option Addr} (h : Kd.C k43 w A 3 stepIn) : ∃ g o, A = some ⟨g, o, none⟩ ∧ w.cell? ⟨g, o, none⟩ = some (.int .i64 1) ∧ w.cell? ⟨g, o + 1, none⟩ = some (.int .i64 21000) ∧ w.cell? ⟨g, o + 2, none⟩ = some (.int .i64 1) ∧ w.cell? ⟨g, o + 3, none⟩ = some (.int .i64 20000) ∧ w.cell? ⟨g, o + 4, none⟩ = some (.int .i64 2) ∧ w.cell? ⟨g, o + 5, none⟩ = some (.int .i64 1) := by
  obtain ⟨ad, hA, c0, c1⟩ := at_T43 h 0 (by omega) (by omega)
  obtain ⟨ad', hA', c2, c3⟩ := at_T43 h 1 (by omega) (by omega)
  obtain ⟨ad'', hA'', c4, c5⟩ := at_T43 h 2 (by omega) (by omega)
  subst hA
  obtain rfl := Option.some.inj hA'
  obtain rfl := Option.some.inj hA''
  obtain ⟨g, o, spot⟩ := ad
  have hspot : spot = none := by simpa [Addr.add] using World.cell?_spot c0
  subst hspot
  exact ⟨g, o, rfl, c0, c1, c2, c3, c4, c5⟩
set_option maxRecDepth 100000 in
set_option maxHeartbeats 4000000 in
theorem step_in (A1 A2 A3 : Option Addr) (c1 c2 c3 : Nat) (w : World) (hL : LaidT w) (hr1 : Kd.C (Kd.int .i64) w A1 5 [2000, 60, 0, 100000, 0]) (hc1 : 5 ≤ c1) (hr2 : Kd.C (Kd.int .i64) w A2 3 [0, 0, 0]) (hc2 : 3 ≤ c2) (hr3 : Kd.C k43 w A3 3 stepIn) (hc3 : 3 ≤ c3) :
    CallsIn Fence.wide 9 Tryd.prog 15 #[.string pidS, .slice A1 5 c1, .slice A2 3 c2, .slice A3 3 c3, .int .i64 30] w fun e w' => ∃ v0_ : Value, e = .returned (.tuple #[v0_, .agg #[.int .i64 1, .int .i64 1000], .int .i64 0]) ∧ Kd.R (Kd.int .i64) 2 w' w.heap.size (fun _ => True) v0_ [1, -1000, 0] ∧ Below w.heap.size w w' := by
  have HB := Below.refl w.heap.size w
  have hu43 := Tryd.underlying43
  have hu56 := Tryd.underlying56
  have hu58 := Tryd.underlying58
  have hmx : Tryd.prog.follows .mixedOrders = true := by kernel_rfl
  refine callsIn_of_wp Tryd.func15 rfl trivial ?_ rfl
  simp only [Tryd.ntmps15, List.size_toArray, List.length_cons, List.length_nil, Nat.reduceAdd, Nat.reduceSub, Array.replicate_succ, Array.replicate_zero, List.push_toArray, List.append_toArray, List.nil_append, List.cons_append]
  obtain ⟨g, o, rfl, j0, j1, j2, j3, j4, j5⟩ := ins_open hr3
  obtain ⟨W0, hW0⟩ : ∃ W0, w.alloc (.cells #[.int .i64 0, .int .i64 0] 43) = W0 := ⟨_, rfl⟩
  have h0 : Below w.heap.size w W0 := by rw [← hW0]; exact (Below.refl _ w).alloc (Nat.le_refl _) _
  have br0 : W0.heap[w.heap.size]? = some (.cells #[.int .i64 0, .int .i64 0] 43 (0, 0)) := by rw [← hW0]; exact blk_new w _
  have jl := World.block_lt_of_cell? w _ j0
  obtain ⟨bm, b, off, cap, x0, x1, hcap, hbl, y0, y1, y2⟩ := (hL.below h0).look
  unfold kindV at x1
  have hF : ∀ W : World, W0.alloc (.cells #[.int .i64 5, .int .i64 3, .slice (some ⟨b, off, none⟩) 3 cap, .func (.func 60) #[] #[], .func (.func 62) #[] #[]] 56) = W → SF w W W0.heap.size b off cap g o := fun W hW => by
    have hB1 : Below W0.heap.size W0 W := by rw [← hW]; exact below_alloc (Below.refl _ _) _
    have hB2 : Below w.heap.size w W := h0.trans (hB1.mono h0.size)
    have c : ∀ {x z : Nat} {v : Value}, W0.cell? ⟨x, z, none⟩ = some v → W.cell? ⟨x, z, none⟩ = some v := fun hx => below_cell hB1 (Nat.le_refl _) hx (World.block_lt_of_cell? W0 _ hx)
    have d : ∀ {x z : Nat} {v : Value}, w.cell? ⟨x, z, none⟩ = some v → W.cell? ⟨x, z, none⟩ = some v := fun hx => below_cell hB2 (Nat.le_refl _) hx (World.block_lt_of_cell? w _ hx)
    exact ⟨hB2, by rw [← hW]; exact blk_new W0 _, blk_below br0 hB1, c y0, c y1, c y2, d j0, d j1, d j2, d j3, d j4, d j5⟩
  have hv : ∀ W : World, Below w.heap.size w W → CallsIn Fence.wide 8 Tryd.prog 60 #[.slice A1 5 c1, .slice A2 3 c2] W fun e w' => e = .returned (.bool true) ∧ Below W.heap.size W w' := fun W h => callsIn_wide.2 (pid_blocks_1.calls 40 A1 c1 [2000, 60, 0, 100000, 0] A2 c2 [0, 0, 0] true W (Kd.C_below hr1 h) hc1 (Kd.C_below hr2 h) hc2 (by decide +kernel))
  have HV := Lib.hid hv
  have HF := Lib.hid hF
  clear hv hF
  gi_wp2_with (first
    | (gi_at_call 60; refine (HV.out _ (HF.out _ rfl).hb).mono ?_; rintro e w2 ⟨rfl, hb2⟩; have F2 := (HF.out _ rfl).below hb2)
    | (gi_at_call 21; refine (callsIn_wide.2 (pid_seconds.calls 30 true _ rfl)).mono ?_; rintro e w3 ⟨rfl, hb3⟩; have F3 := F2.below hb3.below; have k2 : w3.cell? ⟨W0.heap.size, 2, none⟩ = some (.slice (some ⟨b, off, none⟩) 3 cap) := (blk_cell F3.bk 2).trans rfl)
    | refine ⟨trivial, ?_⟩)
  refine wpIn_loop_rounds 4 ?_
  rw [roundsIn_succ]
  obtain ⟨-, -, -, y00, y01, y02, i00, i01, i02, i03, i04, i05⟩ := id F3
  have s0 := blk_lt F3.bk
  gi_wp2
  obtain ⟨W04, hW04⟩ : ∃ W, w3.alloc (.cells #[.int .i64 1, .int .i64 21000] 43) = W := ⟨_, rfl⟩
  have FW04 : SF w W04 W0.heap.size b off cap g o := by rw [← hW04]; exact F3.alloc _
  have bW04 : W04.heap[w3.heap.size]? = some (.cells #[.int .i64 1, .int .i64 21000] 43 (0, 0)) := by rw [← hW04]; exact blk_new _ _
  have v0a : W04.cell? ⟨w3.heap.size, 0, none⟩ = some (.int .i64 1) := (blk_cell bW04 0).trans rfl
  have v0b : W04.cell? ⟨w3.heap.size, 1, none⟩ = some (.int .i64 21000) := (blk_cell bW04 1).trans rfl
  have k02 : W04.cell? ⟨W0.heap.size, 2, none⟩ = some (.slice (some ⟨b, off, none⟩) 3 cap) := (blk_cell FW04.bk 2).trans rfl
  have z00 := FW04.y0
  have z01 := FW04.y1
  have z02 := FW04.y2
  rw [hW04]
  clear hW04
  gi_quiet (fail)
  obtain ⟨w05, hw05⟩ : ∃ W, W04.drewN nq = W := ⟨_, rfl⟩
  have Fw05 : SF w w05 W0.heap.size b off cap g o := by rw [← hw05]; exact FW04.below (pw_below_drewN (Below.refl _ _) nq)
  rw [hw05]
  clear hw05 y00 y01 y02 i00 i01 i02 i03 i04 i05 v0a v0b k02 z00 z01 z02
  gi_wp2
  rw [roundsIn_succ]
  obtain ⟨-, -, -, y10, y11, y12, i10, i11, i12, i13, i14, i15⟩ := id Fw05
  have s1 := blk_lt Fw05.bk
  gi_wp2
  obtain ⟨W14, hW14⟩ : ∃ W, w05.alloc (.cells #[.int .i64 1, .int .i64 20000] 43) = W := ⟨_, rfl⟩
  have FW14 : SF w W14 W0.heap.size b off cap g o := by rw [← hW14]; exact Fw05.alloc _
  have bW14 : W14.heap[w05.heap.size]? = some (.cells #[.int .i64 1, .int .i64 20000] 43 (0, 0)) := by rw [← hW14]; exact blk_new _ _
  have v1a : W14.cell? ⟨w05.heap.size, 0, none⟩ = some (.int .i64 1) := (blk_cell bW14 0).trans rfl
  have v1b : W14.cell? ⟨w05.heap.size, 1, none⟩ = some (.int .i64 20000) := (blk_cell bW14 1).trans rfl
  have k12 : W14.cell? ⟨W0.heap.size, 2, none⟩ = some (.slice (some ⟨b, off, none⟩) 3 cap) := (blk_cell FW14.bk 2).trans rfl
  have z10 := FW14.y0
  have z11 := FW14.y1
  have z12 := FW14.y2
  rw [hW14]
  clear hW14
  gi_quiet (fail)
  obtain ⟨w15, hw15⟩ : ∃ W, W14.drewN nq = W := ⟨_, rfl⟩
  have Fw15 : SF w w15 W0.heap.size b off cap g o := by rw [← hw15]; exact FW14.below (pw_below_drewN (Below.refl _ _) nq)
  rw [hw15]
  clear hw15 y10 y11 y12 i10 i11 i12 i13 i14 i15 v1a v1b k12 z10 z11 z12
  gi_wp2
  rw [roundsIn_succ]
  obtain ⟨-, -, -, y20, y21, y22, i20, i21, i22, i23, i24, i25⟩ := id Fw15
  have s2 := blk_lt Fw15.bk
  gi_wp2
  obtain ⟨W24, hW24⟩ : ∃ W, w15.alloc (.cells #[.int .i64 2, .int .i64 1] 43) = W := ⟨_, rfl⟩
  have FW24 : SF w W24 W0.heap.size b off cap g o := by rw [← hW24]; exact Fw15.alloc _
  have bW24 : W24.heap[w15.heap.size]? = some (.cells #[.int .i64 2, .int .i64 1] 43 (0, 0)) := by rw [← hW24]; exact blk_new _ _
  have v2a : W24.cell? ⟨w15.heap.size, 0, none⟩ = some (.int .i64 2) := (blk_cell bW24 0).trans rfl
  have v2b : W24.cell? ⟨w15.heap.size, 1, none⟩ = some (.int .i64 1) := (blk_cell bW24 1).trans rfl
  have k22 : W24.cell? ⟨W0.heap.size, 2, none⟩ = some (.slice (some ⟨b, off, none⟩) 3 cap) := (blk_cell FW24.bk 2).trans rfl
  have z20 := FW24.y0
  have z21 := FW24.y1
  have z22 := FW24.y2
  rw [hW24]
  clear hW24
  gi_quiet (fail)
  obtain ⟨w25, hw25⟩ : ∃ W, W24.drewN nq = W := ⟨_, rfl⟩
  have Fw25 : SF w w25 W0.heap.size b off cap g o := by rw [← hw25]; exact FW24.below (pw_below_drewN (Below.refl _ _) nq)
  rw [hw25]
  clear hw25 y20 y21 y22 i20 i21 i22 i23 i24 i25 v2a v2b k22 z20 z21 z22
  gi_wp2
  rw [roundsIn_succ]
  have k4 : w25.cell? ⟨W0.heap.size, 4, none⟩ = some (.func (.func 62) #[] #[]) := (blk_cell Fw25.bk 4).trans rfl
  have hs : CallsIn Fence.wide 8 Tryd.prog 62 #[.slice A1 5 c1, .slice A2 3 c2, .slice (some ⟨g, o, none⟩) 3 c3, .int .i64 30] w25 fun e w' => ∃ v0_ : Value, e = .returned (.tuple #[v0_, .int .i64 1000]) ∧ Kd.R (Kd.int .i64) 2 w' w25.heap.size (fun _ => True) v0_ [1, -1000, 0] ∧ Below w25.heap.size w25 w' :=
    callsIn_wide.2 (pid_blocks_2.calls 100 A1 c1 [2000, 60, 0, 100000, 0] A2 c2 [0, 0, 0] (some ⟨g, o, none⟩) c3 stepIn 30 [1, -1000, 0] 1000 w25 (Kd.C_below hr1 Fw25.hb) hc1 (Kd.C_below hr2 Fw25.hb) hc2 (Kd.C_below hr3 Fw25.hb) hc3 (by decide +kernel))
  have HS := Lib.hid hs
  clear hs
  gi_wp2_with (first
    | (gi_at_call 62; refine HS.out.mono ?_; rintro e w9 ⟨v0, rfl, hR, hb9⟩; have F9 := Fw25.below hb9; have q0 : w9.cell? ⟨w.heap.size, 0, none⟩ = some (.int .i64 0) := (blk_cell F9.br 0).trans rfl; have q1 : w9.cell? ⟨w.heap.size, 1, none⟩ = some (.int .i64 0) := (blk_cell F9.br 1).trans rfl; have f0 := blk_frozen F9.br 0; have f1 := blk_frozen F9.br 1)
    | refine ⟨trivial, ?_⟩)
  refine bodyPost_ret (results_tct (ty := 43) rfl _ _ w.heap.size 43 #[.int .i64 1, .int .i64 1000] (0, 0) _ rfl (blk_put (cs := #[.int .i64 1, .int .i64 0]) (blk_put (cs := #[.int .i64 0, .int .i64 0]) F9.br 0 _ rfl) 1 _ rfl) Tryd.underlying43 rfl (by kernel_rfl)) rfl ⟨v0, rfl, ?_, below_set (below_set F9.hb (Nat.le_refl _)) (Nat.le_refl _)⟩
  have hlt := blk_lt Fw25.br
  have h1 := Kd.R_lower (Kd.R_far (Kd.R_far (Kd.R_bound hR) (p := ⟨w.heap.size, 0, none⟩) (fun k hk => by have := hk.2.1; simp only; omega) (.int .i64 1)) (p := ⟨w.heap.size, 1, none⟩) (fun k hk => by have := hk.2.1; simp only; omega) (.int .i64 1000)) (Nat.le_of_lt hlt)
  exact Kd.R_mono h1 (fun _ _ => trivial)
theorem pid_Step.calls (a0 : ByteArray) (A1 : Option Addr) (c1 : Nat) (l1 : List Int) (A2 : Option Addr) (c2 : Nat) (l2 : List Int) (A3 : Option Addr) (c3 : Nat) (l3 : List (S43)) (a4 : Int) (r1 : List Int) (r2 : Int) (r3 : Int) (r4 : Int) (w : World) (hL : LaidT w) (hr1 : Kd.C (Kd.int .i64) w A1 l1.length l1) (hc1 : l1.length ≤ c1) (hr2 : Kd.C (Kd.int .i64) w A2 l2.length l2) (hc2 : l2.length ≤ c2) (hr3 : Kd.C k43 w A3 l3.length l3) (hc3 : l3.length ≤ c3) (h : pid_Step.f a0 l1 l2 l3 a4 = some (r1, r2, r3, r4)) :
    Calls Tryd.prog 15 #[.string a0, .slice A1 l1.length c1, .slice A2 l2.length c2, .slice A3 l3.length c3, .int .i64 a4] w fun e w' => ∃ v0_ : Value, e = .returned (.tuple #[v0_, .agg #[.int .i64 r2, .int .i64 r3], .int .i64 r4]) ∧ Kd.R (Kd.int .i64) 2 w' w.heap.size (fun _ => True) v0_ r1 ∧ Below w.heap.size w w' := by
  unfold pid_Step.f at h
  split at h
  · rename_i hc
    obtain ⟨e0, rfl, rfl, e3, rfl⟩ := hc
    have ha : a0 = pidS := by
      obtain ⟨⟨l⟩⟩ := a0
      simp only at e0
      subst e0
      rfl
    subst ha
    have hl3 : l3 = stepIn := by
      match l3, e3 with
      | [⟨a, b⟩, ⟨c, d⟩, ⟨e, f⟩], e3 =>
        simp at e3
        obtain ⟨⟨rfl, rfl⟩, ⟨rfl, rfl⟩, rfl, rfl⟩ := e3
        rfl
    subst hl3
    simp only [Option.some.injEq, Prod.mk.injEq] at h
    obtain ⟨rfl, rfl, rfl, rfl⟩ := h
    exact (callsIn_wide (n := 9)).1 (step_in A1 A2 A3 c1 c2 c3 w hL hr1 hc1 hr2 hc2 hr3 hc3)
  · cases h
end Go.Proofs.YteigdhpchkkloaaDoor.PT
