-- Laid by hp.py (a program of this session's) through the kit's printer. (squeezed)
import Derived.Test.YteigdhpchkkloaaDoorPTx0
import Derived.Test.YteigdhpchkkloaaDoorLaid
import Derived.Test.YteigdhpchkkloaaDoorPTx18
import Derived.Test.YteigdhpchkkloaaDoorPTx28
import Derived.Test.YteigdhpchkkloaaDoorPTx36
namespace Go.Proofs.YteigdhpchkkloaaDoor.PT
open Go.RowKit Go.Proofs.YteigdhpchkkloaaDoorW.PrintWords Go.Proofs.YteigdhpchkkloaaDoorW.PrintLast Go.Proofs.YteigdhpchkkloaaDoorW.PrintMore
attribute [local go_sem] max2_int min2_int max_two min_two max_three min_three max_four min_four   -- for this text's walks alone
set_option linter.unusedVariables false
set_option linter.unusedSimpArgs false
/-! ### plenumlaw20_PidTracks: function 6 -/
mutual
def plenumlaw20_PidTracks.j0 : Nat → Int → Int → Int → Int → Bool → Int → Int → Int → Int → Bool → Int → Int → Int → Int → Bool → Bool → Int → Int → Option (Bool)
 | 0, _, _, _, _, _, _, _, _, _, _, _, _, _, _, _, _, _, _ => none
 | k + 1, x1, x2, x3, x4, x45, x310000, x310001, x310002, x310003, x310004, x311000, x311001, x311002, x311003, x311004, x316000, x316001, x316002 => if x45 = true then ((plenumlaw20_awake.f).bind fun t316 => (some t316)) else (plenumlaw20_PidTracks.l0 k x1 x2 x3 x4 0 x310000 x310001 x310002 x310003 x310004 x311000 x311001 x311002 x311003 x311004 x316000 x316001 x316002)
def plenumlaw20_PidTracks.l0 : Nat → Int → Int → Int → Int → Int → Int → Int → Int → Int → Bool → Int → Int → Int → Int → Bool → Bool → Int → Int → Option (Bool)
 | 0, _, _, _, _, _, _, _, _, _, _, _, _, _, _, _, _, _, _ => none
 | k + 1, x1, x2, x3, x4, x14, x310000, x310001, x310002, x310003, x310004, x311000, x311001, x311002, x311003, x311004, x316000, x316001, x316002 => if x14 < x4 then ((pid_Control.f k x311000 x311001 x311002 x311003 x311004 x316000 x316001 x316002 x1 x1 x3).bind fun bt317 => (if bt317.2.2.2.2 = 0 then (if bt317.2.2.2.1 = (mx x310002 (mn x310003 x2)) then (plenumlaw20_PidTracks.l0 k x1 x2 x3 x4 (wrap64 (x14 + 1)) x310000 x310001 x310002 x310003 x310004 x311000 x311001 x311002 x311003 x311004 bt317.1 bt317.2.1 bt317.2.2.1) else (some false)) else (some false))) else ((plenumlaw20_awake.f).bind fun t323 => (some t323))
end
def plenumlaw20_PidTracks.f (k : Nat) (a0_0 : Int) (a0_1 : Int) (a0_2 : Int) (a0_3 : Int) (a0_4 : Bool) (a1 : Int) (a2 : Int) (a3 : Int) (a4 : Int) : Option (Bool) := (pid_Track.f k a0_0 a0_1 a0_2 a0_3 a0_4 a1 a1 a2).bind fun bt311 => (if bt311.2.2.2 = 0 then (if a3 < 1 then (plenumlaw20_PidTracks.j0 k a1 a2 a3 a4 true a0_0 a0_1 a0_2 a0_3 a0_4 a0_0 a0_1 a0_2 a0_3 a0_4 bt311.1 bt311.2.1 bt311.2.2.1) else (if a3 > 86400 then (plenumlaw20_PidTracks.j0 k a1 a2 a3 a4 true a0_0 a0_1 a0_2 a0_3 a0_4 a0_0 a0_1 a0_2 a0_3 a0_4 bt311.1 bt311.2.1 bt311.2.2.1) else (if a0_1 = 0 then (plenumlaw20_PidTracks.j0 k a1 a2 a3 a4 true a0_0 a0_1 a0_2 a0_3 a0_4 a0_0 a0_1 a0_2 a0_3 a0_4 bt311.1 bt311.2.1 bt311.2.2.1) else (plenumlaw20_PidTracks.j0 k a1 a2 a3 a4 (decide (a4 > 30)) a0_0 a0_1 a0_2 a0_3 a0_4 a0_0 a0_1 a0_2 a0_3 a0_4 bt311.1 bt311.2.1 bt311.2.2.1)))) else (plenumlaw20_PidTracks.j0 k a1 a2 a3 a4 true a0_0 a0_1 a0_2 a0_3 a0_4 a0_0 a0_1 a0_2 a0_3 a0_4 bt311.1 bt311.2.1 bt311.2.2.1))
theorem plenumlaw20_PidTracks.mono_l : ∀ k, (∀ y0 y1 y2 y3 y4 y5 y6 y7 y8 y9 y10 y11 y12 y13 y14 y15 y16 y17, LeO (plenumlaw20_PidTracks.j0 k y0 y1 y2 y3 y4 y5 y6 y7 y8 y9 y10 y11 y12 y13 y14 y15 y16 y17) (plenumlaw20_PidTracks.j0 (k + 1) y0 y1 y2 y3 y4 y5 y6 y7 y8 y9 y10 y11 y12 y13 y14 y15 y16 y17)) ∧ (∀ y0 y1 y2 y3 y4 y5 y6 y7 y8 y9 y10 y11 y12 y13 y14 y15 y16 y17, LeO (plenumlaw20_PidTracks.l0 k y0 y1 y2 y3 y4 y5 y6 y7 y8 y9 y10 y11 y12 y13 y14 y15 y16 y17) (plenumlaw20_PidTracks.l0 (k + 1) y0 y1 y2 y3 y4 y5 y6 y7 y8 y9 y10 y11 y12 y13 y14 y15 y16 y17))
 | 0 => ⟨fun _ _ _ _ _ _ _ _ _ _ _ _ _ _ _ _ _ _ r h => by simp [plenumlaw20_PidTracks.j0] at h, fun _ _ _ _ _ _ _ _ _ _ _ _ _ _ _ _ _ _ r h => by simp [plenumlaw20_PidTracks.l0] at h⟩
 | k + 1 => by
  obtain ⟨ih0, ih1⟩ := plenumlaw20_PidTracks.mono_l k
  refine ⟨?_, ?_⟩
  ·
   intro y0 y1 y2 y3 y4 y5 y6 y7 y8 y9 y10 y11 y12 y13 y14 y15 y16 y17
   unfold plenumlaw20_PidTracks.j0
   repeat' first
   | (with_reducible exact ih0 _ _ _ _ _ _ _ _ _ _ _ _ _ _ _ _ _ _)
   | (with_reducible exact ih1 _ _ _ _ _ _ _ _ _ _ _ _ _ _ _ _ _ _)
   | (with_reducible exact pid_Control.mono _ _ _ _ _ _ _ _ _ _ _ _)
   | (with_reducible exact pid_Track.mono _ _ _ _ _ _ _ _ _)
   | (with_reducible exact LeO.refl _)
   | (with_reducible exact LeO.none _)
   | (with_reducible refine LeO.ite ?_ ?_)
   | (with_reducible refine LeO.bind ?_ (fun _ => ?_))
   | exact ih0 _ _ _ _ _ _ _ _ _ _ _ _ _ _ _ _ _ _
   | exact ih1 _ _ _ _ _ _ _ _ _ _ _ _ _ _ _ _ _ _
   | exact pid_Control.mono _ _ _ _ _ _ _ _ _ _ _ _
   | exact pid_Track.mono _ _ _ _ _ _ _ _ _
   | exact LeO.none _
   | refine LeO.ite ?_ ?_
   | refine LeO.bind ?_ (fun _ => ?_)
  ·
   intro y0 y1 y2 y3 y4 y5 y6 y7 y8 y9 y10 y11 y12 y13 y14 y15 y16 y17
   unfold plenumlaw20_PidTracks.l0
   repeat' first
   | (with_reducible exact ih0 _ _ _ _ _ _ _ _ _ _ _ _ _ _ _ _ _ _)
   | (with_reducible exact ih1 _ _ _ _ _ _ _ _ _ _ _ _ _ _ _ _ _ _)
   | (with_reducible exact pid_Control.mono _ _ _ _ _ _ _ _ _ _ _ _)
   | (with_reducible exact pid_Track.mono _ _ _ _ _ _ _ _ _)
   | (with_reducible exact LeO.refl _)
   | (with_reducible exact LeO.none _)
   | (with_reducible refine LeO.ite ?_ ?_)
   | (with_reducible refine LeO.bind ?_ (fun _ => ?_))
   | exact ih0 _ _ _ _ _ _ _ _ _ _ _ _ _ _ _ _ _ _
   | exact ih1 _ _ _ _ _ _ _ _ _ _ _ _ _ _ _ _ _ _
   | exact pid_Control.mono _ _ _ _ _ _ _ _ _ _ _ _
   | exact pid_Track.mono _ _ _ _ _ _ _ _ _
   | exact LeO.none _
   | refine LeO.ite ?_ ?_
   | refine LeO.bind ?_ (fun _ => ?_)
theorem plenumlaw20_PidTracks.mono : ∀ a0 a1 a2 a3 a4 a5 a6 a7 a8 k, LeO (plenumlaw20_PidTracks.f k a0 a1 a2 a3 a4 a5 a6 a7 a8) (plenumlaw20_PidTracks.f (k + 1) a0 a1 a2 a3 a4 a5 a6 a7 a8) := by
 intro a0 a1 a2 a3 a4 a5 a6 a7 a8 k
 obtain ⟨ih0, ih1⟩ := plenumlaw20_PidTracks.mono_l k
 unfold plenumlaw20_PidTracks.f
 repeat' first
  | (with_reducible exact ih0 _ _ _ _ _ _ _ _ _ _ _ _ _ _ _ _ _ _)
  | (with_reducible exact ih1 _ _ _ _ _ _ _ _ _ _ _ _ _ _ _ _ _ _)
  | (with_reducible exact pid_Control.mono _ _ _ _ _ _ _ _ _ _ _ _)
  | (with_reducible exact pid_Track.mono _ _ _ _ _ _ _ _ _)
  | (with_reducible exact LeO.refl _)
  | (with_reducible exact LeO.none _)
  | (with_reducible refine LeO.ite ?_ ?_)
  | (with_reducible refine LeO.bind ?_ (fun _ => ?_))
  | exact ih0 _ _ _ _ _ _ _ _ _ _ _ _ _ _ _ _ _ _
  | exact ih1 _ _ _ _ _ _ _ _ _ _ _ _ _ _ _ _ _ _
  | exact pid_Control.mono _ _ _ _ _ _ _ _ _ _ _ _
  | exact pid_Track.mono _ _ _ _ _ _ _ _ _
  | exact LeO.none _
  | refine LeO.ite ?_ ?_
  | refine LeO.bind ?_ (fun _ => ?_)
set_option maxHeartbeats 8000000 in
set_option maxRecDepth 100000 in
theorem plenumlaw20_PidTracks.calls (k : Nat) (a0_0 : Int) (a0_1 : Int) (a0_2 : Int) (a0_3 : Int) (a0_4 : Bool) (a1 : Int) (a2 : Int) (a3 : Int) (a4 : Int) (r : Bool) (w : World) (hL : LaidT w) (h : plenumlaw20_PidTracks.f k a0_0 a0_1 a0_2 a0_3 a0_4 a1 a2 a3 a4 = some r) :
 Calls Tryd.prog 6 #[.agg #[.int .i64 a0_0, .int .i64 a0_1, .int .i64 a0_2, .int .i64 a0_3, .bool a0_4], .int .i64 a1, .int .i64 a2, .int .i64 a3, .int .i64 a4] w fun e w' => e = .returned (.bool r) ∧ Below w.heap.size w w' := by
 have HL := Aside0.mk hL
 have hu23 := Tryd.underlying23
 have hu26 := Tryd.underlying26
 have hu28 := Tryd.underlying28
 have HB := Aside0.mk (Below.refl w.heap.size w)
 have H : ((pid_Track.f k a0_0 a0_1 a0_2 a0_3 a0_4 a1 a1 a2).bind fun bt311 => (if bt311.2.2.2 = 0 then (if a3 < 1 then (plenumlaw20_PidTracks.j0 k a1 a2 a3 a4 true a0_0 a0_1 a0_2 a0_3 a0_4 a0_0 a0_1 a0_2 a0_3 a0_4 bt311.1 bt311.2.1 bt311.2.2.1) else (if a3 > 86400 then (plenumlaw20_PidTracks.j0 k a1 a2 a3 a4 true a0_0 a0_1 a0_2 a0_3 a0_4 a0_0 a0_1 a0_2 a0_3 a0_4 bt311.1 bt311.2.1 bt311.2.2.1) else (if a0_1 = 0 then (plenumlaw20_PidTracks.j0 k a1 a2 a3 a4 true a0_0 a0_1 a0_2 a0_3 a0_4 a0_0 a0_1 a0_2 a0_3 a0_4 bt311.1 bt311.2.1 bt311.2.2.1) else (plenumlaw20_PidTracks.j0 k a1 a2 a3 a4 (decide (a4 > 30)) a0_0 a0_1 a0_2 a0_3 a0_4 a0_0 a0_1 a0_2 a0_3 a0_4 bt311.1 bt311.2.1 bt311.2.2.1)))) else (plenumlaw20_PidTracks.j0 k a1 a2 a3 a4 true a0_0 a0_1 a0_2 a0_3 a0_4 a0_0 a0_1 a0_2 a0_3 a0_4 bt311.1 bt311.2.1 bt311.2.2.1))) = some r := h
 clear h
 replace H := Option.bind_eq_some_iff.mp H
 obtain ⟨⟨t311, t312, t313, t314⟩, A60, H⟩ := H
 replace H : (if t314 = 0 then (if a3 < 1 then (plenumlaw20_PidTracks.j0 k a1 a2 a3 a4 true a0_0 a0_1 a0_2 a0_3 a0_4 a0_0 a0_1 a0_2 a0_3 a0_4 t311 t312 t313) else (if a3 > 86400 then (plenumlaw20_PidTracks.j0 k a1 a2 a3 a4 true a0_0 a0_1 a0_2 a0_3 a0_4 a0_0 a0_1 a0_2 a0_3 a0_4 t311 t312 t313) else (if a0_1 = 0 then (plenumlaw20_PidTracks.j0 k a1 a2 a3 a4 true a0_0 a0_1 a0_2 a0_3 a0_4 a0_0 a0_1 a0_2 a0_3 a0_4 t311 t312 t313) else (plenumlaw20_PidTracks.j0 k a1 a2 a3 a4 (decide (a4 > 30)) a0_0 a0_1 a0_2 a0_3 a0_4 a0_0 a0_1 a0_2 a0_3 a0_4 t311 t312 t313)))) else (plenumlaw20_PidTracks.j0 k a1 a2 a3 a4 true a0_0 a0_1 a0_2 a0_3 a0_4 a0_0 a0_1 a0_2 a0_3 a0_4 t311 t312 t313)) = some r := H
 have A6 := Aside0.mk A60
 clear A60
 have HC7 := Aside0.mk H
 clear H
 go_enter Tryd.func6, Tryd.ntmps6
 go_upto_region 3 with (first | ((with_reducible refine gate_dst (N := 5) rfl ?_); (try (refine gate_guard (by rfl) ?_; dsimp only)); refine box_event ?hg (N := 5) ?hd (cs := #[.int .i64 a0_0, .int .i64 a0_1, .int .i64 a0_2, .int .i64 a0_3, .bool a0_4]) (t := 23) ?hr ?_; (case hd => rfl); (case hg => rfl); (case hr => first | (go_simp; done) | (go_simp; rfl)); intro gb309 hg w8 hbox hb; have n0_ := Aside0.mk (below_step (by repeat (first | (with_reducible first | exact HB.out | apply below_alloc | apply pw_below_drewN | apply below_drew1) | exact HB.out)) hb); have n1_ := Aside0.mk (hbox); have n2_ := Aside0.mk ((by rw [hg]; exact (below_size (by repeat (first | (with_reducible first | exact HB.out | apply below_alloc | apply pw_below_drewN | apply below_drew1) | exact HB.out))) : w.heap.size ≤ gb309)); have n3_ := Aside0.mk ((by rw [hg]; exact (below_size (by repeat (first | (with_reducible first | exact HB.out | apply below_alloc | apply pw_below_drewN | apply below_drew1) | exact HB.out))) : w.heap.size ≤ gb309)); clear HB; have HB := n0_; have BK309 := n1_; have GW309 := n2_; have GE309 := n3_; clear n0_ n1_ n2_ n3_; clear hb hbox hg; have hcz9_0 : w8.cell? ⟨gb309, 0, none⟩ = some (.int .i64 a0_0) := (blk_cell BK309.out 0).trans rfl; have hcz9_1 : w8.cell? ⟨gb309, 1, none⟩ = some (.int .i64 a0_1) := (blk_cell BK309.out 1).trans rfl; have hcz9_2 : w8.cell? ⟨gb309, 2, none⟩ = some (.int .i64 a0_2) := (blk_cell BK309.out 2).trans rfl; have hcz9_3 : w8.cell? ⟨gb309, 3, none⟩ = some (.int .i64 a0_3) := (blk_cell BK309.out 3).trans rfl; have hcz9_4 : w8.cell? ⟨gb309, 4, none⟩ = some (.bool a0_4) := (blk_cell BK309.out 4).trans rfl; have hfz9_0 := blk_frozen BK309.out 0; have hfz9_1 := blk_frozen BK309.out 1; have hfz9_2 := blk_frozen BK309.out 2; have hfz9_3 := blk_frozen BK309.out 3; have hfz9_4 := blk_frozen BK309.out 4) | ((with_reducible refine gate_dst (N := 11) rfl ?_); (try (refine gate_guard (by rfl) ?_; dsimp only)); refine box_event ?hg (N := 11) ?hd (cs := #[.int .i64 0, .int .i64 0, .int .i64 0, .int .i64 0, .bool false]) (t := 26) ?hr ?_; (case hd => rfl); (case hg => rfl); (case hr => first | (go_simp; done) | (go_simp; rfl)); intro gb310 hg w10 hbox hb; have n0_ := Aside0.mk (blk_below (g := gb309) (o := .cells #[.int .i64 a0_0, .int .i64 a0_1, .int .i64 a0_2, .int .i64 a0_3, .bool a0_4] 23 (0, 0)) (by (with_reducible repeat (first | refine blk_drewN ?_ _ | refine blk_drew ?_ | refine blk_alloc ?_ _)); exact BK309.out) hb); have n1_ := Aside0.mk (below_step (by repeat (first | (with_reducible first | exact HB.out | apply below_alloc | apply pw_below_drewN | apply below_drew1 | refine below_set ?_ GE309.out) | exact HB.out)) hb); have n2_ := Aside0.mk (hbox); have n3_ := Aside0.mk ((by rw [hg]; exact (below_size (by repeat (first | (with_reducible first | exact HB.out | apply below_alloc | apply pw_below_drewN | apply below_drew1 | refine below_set ?_ GE309.out) | exact HB.out))) : w.heap.size ≤ gb310)); have n4_ := Aside0.mk ((by rw [hg]; exact (below_size (by repeat (first | (with_reducible first | exact HB.out | apply below_alloc | apply pw_below_drewN | apply below_drew1 | refine below_set ?_ GE309.out) | exact HB.out))) : w.heap.size ≤ gb310)); have n5_ := Aside0.mk ((by rw [hg]; exact Nat.ne_of_lt (blk_lt (g := gb309) (o := .cells #[.int .i64 a0_0, .int .i64 a0_1, .int .i64 a0_2, .int .i64 a0_3, .bool a0_4] 23 (0, 0)) (by (with_reducible repeat (first | refine blk_drewN ?_ _ | refine blk_drew ?_ | refine blk_alloc ?_ _)); exact BK309.out)) : gb309 ≠ gb310)); have n6_ := Aside0.mk ((by rw [hg]; exact Nat.ne_of_gt (blk_lt (g := gb309) (o := .cells #[.int .i64 a0_0, .int .i64 a0_1, .int .i64 a0_2, .int .i64 a0_3, .bool a0_4] 23 (0, 0)) (by (with_reducible repeat (first | refine blk_drewN ?_ _ | refine blk_drew ?_ | refine blk_alloc ?_ _)); exact BK309.out)) : gb310 ≠ gb309)); clear BK309; clear HB; have BK309 := n0_; have HB := n1_; have BK310 := n2_; have GW310 := n3_; have GE310 := n4_; have NB309_310 := n5_; have NB310_309 := n6_; clear n0_ n1_ n2_ n3_ n4_ n5_ n6_; clear hb hbox hg; have hnb11 := NB310_309.out; have hnc11 := NB309_310.out; have hcz12_0 : w10.cell? ⟨gb310, 0, none⟩ = some (.int .i64 0) := (blk_cell BK310.out 0).trans rfl; have hcz12_1 : w10.cell? ⟨gb310, 1, none⟩ = some (.int .i64 0) := (blk_cell BK310.out 1).trans rfl; have hcz12_2 : w10.cell? ⟨gb310, 2, none⟩ = some (.int .i64 0) := (blk_cell BK310.out 2).trans rfl; have hcz12_3 : w10.cell? ⟨gb310, 3, none⟩ = some (.int .i64 0) := (blk_cell BK310.out 3).trans rfl; have hcz12_4 : w10.cell? ⟨gb310, 4, none⟩ = some (.bool false) := (blk_cell BK310.out 4).trans rfl; have hfz12_0 := blk_frozen BK310.out 0; have hfz12_1 := blk_frozen BK310.out 1; have hfz12_2 := blk_frozen BK310.out 2; have hfz12_3 := blk_frozen BK310.out 3; have hfz12_4 := blk_frozen BK310.out 4) | ((with_reducible refine gate_callee (f := 14) rfl ?_); refine goesL_ (some 24) rfl rfl Tryd.func14 (by kernel_rfl) rfl #[.agg #[.int .i64 a0_0, .int .i64 a0_1, .int .i64 a0_2, .int .i64 a0_3, .bool a0_4], .int .i64 a1, .int .i64 a1, .int .i64 a2] rfl (by (try simp only [List.map_toArray, List.map_cons, List.map_nil]); first | done | rfl | (simp only [List.length_drop, List.length_take]; rfl)) ?_; (with_reducible refine (pid_Track.calls k a0_0 a0_1 a0_2 a0_3 a0_4 a1 a1 a2 t311 t312 t313 t314 _ A6.out).mono ?_); rintro e w13 ⟨rfl, hb⟩; refine ⟨_, rfl, ?_⟩; have n0_ := Aside0.mk (blk_below (g := gb309) (o := .cells #[.int .i64 a0_0, .int .i64 a0_1, .int .i64 a0_2, .int .i64 a0_3, .bool a0_4] 23 (0, 0)) (by (with_reducible repeat (first | refine blk_drewN ?_ _ | refine blk_drew ?_ | refine blk_alloc ?_ _)); refine blk_far ?_ NB309_310.out _; (with_reducible repeat (first | refine blk_drewN ?_ _ | refine blk_drew ?_ | refine blk_alloc ?_ _)); refine blk_far ?_ NB309_310.out _; (with_reducible repeat (first | refine blk_drewN ?_ _ | refine blk_drew ?_ | refine blk_alloc ?_ _)); refine blk_far ?_ NB309_310.out _; (with_reducible repeat (first | refine blk_drewN ?_ _ | refine blk_drew ?_ | refine blk_alloc ?_ _)); refine blk_far ?_ NB309_310.out _; (with_reducible repeat (first | refine blk_drewN ?_ _ | refine blk_drew ?_ | refine blk_alloc ?_ _)); refine blk_far ?_ NB309_310.out _; (with_reducible repeat (first | refine blk_drewN ?_ _ | refine blk_drew ?_ | refine blk_alloc ?_ _)); exact BK309.out) hb); have n1_ := Aside0.mk (blk_below (g := gb310) (o := .cells #[.int .i64 a0_0, .int .i64 a0_1, .int .i64 a0_2, .int .i64 a0_3, .bool a0_4] 26 (0, 0)) (by (with_reducible repeat (first | refine blk_drewN ?_ _ | refine blk_drew ?_ | refine blk_alloc ?_ _)); refine blk_put (cs := #[.int .i64 a0_0, .int .i64 a0_1, .int .i64 a0_2, .int .i64 a0_3, .bool false]) ?_ 4 _ rfl; (with_reducible repeat (first | refine blk_drewN ?_ _ | refine blk_drew ?_ | refine blk_alloc ?_ _)); refine blk_put (cs := #[.int .i64 a0_0, .int .i64 a0_1, .int .i64 a0_2, .int .i64 0, .bool false]) ?_ 3 _ rfl; (with_reducible repeat (first | refine blk_drewN ?_ _ | refine blk_drew ?_ | refine blk_alloc ?_ _)); refine blk_put (cs := #[.int .i64 a0_0, .int .i64 a0_1, .int .i64 0, .int .i64 0, .bool false]) ?_ 2 _ rfl; (with_reducible repeat (first | refine blk_drewN ?_ _ | refine blk_drew ?_ | refine blk_alloc ?_ _)); refine blk_put (cs := #[.int .i64 a0_0, .int .i64 0, .int .i64 0, .int .i64 0, .bool false]) ?_ 1 _ rfl; (with_reducible repeat (first | refine blk_drewN ?_ _ | refine blk_drew ?_ | refine blk_alloc ?_ _)); refine blk_put (cs := #[.int .i64 0, .int .i64 0, .int .i64 0, .int .i64 0, .bool false]) ?_ 0 _ rfl; (with_reducible repeat (first | refine blk_drewN ?_ _ | refine blk_drew ?_ | refine blk_alloc ?_ _)); exact BK310.out) hb); have n2_ := Aside0.mk (below_step (by repeat (first | (with_reducible first | exact HB.out | apply below_alloc | apply pw_below_drewN | apply below_drew1 | refine below_set ?_ GE309.out | refine below_set ?_ GE310.out) | exact HB.out)) hb); clear BK309; clear BK310; clear HB; have BK309 := n0_; have BK310 := n1_; have HB := n2_; clear n0_ n1_ n2_; (try clear hb); (try clear hb2); (try clear hk); (try clear hi)) | ((with_reducible refine gate_dst (N := 12) rfl ?_); (try (refine gate_guard (by rfl) ?_; dsimp only)); refine box_event ?hg (N := 12) ?hd (cs := #[.bool false, .int .i64 0, .int .i64 0]) (t := 28) ?hr ?_; (case hd => rfl); (case hg => rfl); (case hr => first | (go_simp; done) | (go_simp; rfl)); intro gb315 hg w14 hbox hb; have n0_ := Aside0.mk (blk_below (g := gb309) (o := .cells #[.int .i64 a0_0, .int .i64 a0_1, .int .i64 a0_2, .int .i64 a0_3, .bool a0_4] 23 (0, 0)) (by (with_reducible repeat (first | refine blk_drewN ?_ _ | refine blk_drew ?_ | refine blk_alloc ?_ _)); exact BK309.out) hb); have n1_ := Aside0.mk (blk_below (g := gb310) (o := .cells #[.int .i64 a0_0, .int .i64 a0_1, .int .i64 a0_2, .int .i64 a0_3, .bool a0_4] 26 (0, 0)) (by (with_reducible repeat (first | refine blk_drewN ?_ _ | refine blk_drew ?_ | refine blk_alloc ?_ _)); exact BK310.out) hb); have n2_ := Aside0.mk (below_step (by repeat (first | (with_reducible first | exact HB.out | apply below_alloc | apply pw_below_drewN | apply below_drew1 | refine below_set ?_ GE309.out | refine below_set ?_ GE310.out) | exact HB.out)) hb); have n3_ := Aside0.mk (hbox); have n4_ := Aside0.mk ((by rw [hg]; exact (below_size (by repeat (first | (with_reducible first | exact HB.out | apply below_alloc | apply pw_below_drewN | apply below_drew1 | refine below_set ?_ GE309.out | refine below_set ?_ GE310.out) | exact HB.out))) : w.heap.size ≤ gb315)); have n5_ := Aside0.mk ((by rw [hg]; exact (below_size (by repeat (first | (with_reducible first | exact HB.out | apply below_alloc | apply pw_below_drewN | apply below_drew1 | refine below_set ?_ GE309.out | refine below_set ?_ GE310.out) | exact HB.out))) : w.heap.size ≤ gb315)); have n6_ := Aside0.mk ((by rw [hg]; exact Nat.ne_of_lt (blk_lt (g := gb309) (o := .cells #[.int .i64 a0_0, .int .i64 a0_1, .int .i64 a0_2, .int .i64 a0_3, .bool a0_4] 23 (0, 0)) (by (with_reducible repeat (first | refine blk_drewN ?_ _ | refine blk_drew ?_ | refine blk_alloc ?_ _)); exact BK309.out)) : gb309 ≠ gb315)); have n7_ := Aside0.mk ((by rw [hg]; exact Nat.ne_of_gt (blk_lt (g := gb309) (o := .cells #[.int .i64 a0_0, .int .i64 a0_1, .int .i64 a0_2, .int .i64 a0_3, .bool a0_4] 23 (0, 0)) (by (with_reducible repeat (first | refine blk_drewN ?_ _ | refine blk_drew ?_ | refine blk_alloc ?_ _)); exact BK309.out)) : gb315 ≠ gb309)); have n8_ := Aside0.mk ((by rw [hg]; exact Nat.ne_of_lt (blk_lt (g := gb310) (o := .cells #[.int .i64 a0_0, .int .i64 a0_1, .int .i64 a0_2, .int .i64 a0_3, .bool a0_4] 26 (0, 0)) (by (with_reducible repeat (first | refine blk_drewN ?_ _ | refine blk_drew ?_ | refine blk_alloc ?_ _)); exact BK310.out)) : gb310 ≠ gb315)); have n9_ := Aside0.mk ((by rw [hg]; exact Nat.ne_of_gt (blk_lt (g := gb310) (o := .cells #[.int .i64 a0_0, .int .i64 a0_1, .int .i64 a0_2, .int .i64 a0_3, .bool a0_4] 26 (0, 0)) (by (with_reducible repeat (first | refine blk_drewN ?_ _ | refine blk_drew ?_ | refine blk_alloc ?_ _)); exact BK310.out)) : gb315 ≠ gb310)); clear BK309; clear BK310; clear HB; have BK309 := n0_; have BK310 := n1_; have HB := n2_; have BK315 := n3_; have GW315 := n4_; have GE315 := n5_; have NB309_315 := n6_; have NB315_309 := n7_; have NB310_315 := n8_; have NB315_310 := n9_; clear n0_ n1_ n2_ n3_ n4_ n5_ n6_ n7_ n8_ n9_; clear hb hbox hg; have hnb15 := NB315_309.out; have hnc15 := NB309_315.out; have hnb16 := NB315_310.out; have hnc16 := NB310_315.out; have hcz17_0 : w14.cell? ⟨gb315, 0, none⟩ = some (.bool false) := (blk_cell BK315.out 0).trans rfl; have hcz17_1 : w14.cell? ⟨gb315, 1, none⟩ = some (.int .i64 0) := (blk_cell BK315.out 1).trans rfl; have hcz17_2 : w14.cell? ⟨gb315, 2, none⟩ = some (.int .i64 0) := (blk_cell BK315.out 2).trans rfl; have hfz17_0 := blk_frozen BK315.out 0; have hfz17_1 := blk_frozen BK315.out 1; have hfz17_2 := blk_frozen BK315.out 2))
 (try simp only [Act.put, List.setIfInBounds_toArray, List.set_cons_zero, List.set_cons_succ])
 go_cut [45] (fun v45 wc => ∃ (kq : Nat) (x45_6 : Bool), v45 = .bool x45_6 ∧ Aside0 (plenumlaw20_PidTracks.j0 kq a1 a2 a3 a4 x45_6 a0_0 a0_1 a0_2 a0_3 a0_4 a0_0 a0_1 a0_2 a0_3 a0_4 t311 t312 t313 = some r) ∧ Aside0 (kq ≤ k) ∧ Aside0 (wc.heap[gb309]? = some (.cells #[.int .i64 a0_0, .int .i64 a0_1, .int .i64 a0_2, .int .i64 a0_3, .bool a0_4] 23 (0, 0))) ∧ Aside0 (wc.heap[gb310]? = some (.cells #[.int .i64 a0_0, .int .i64 a0_1, .int .i64 a0_2, .int .i64 a0_3, .bool a0_4] 26 (0, 0))) ∧ Aside0 (wc.heap[gb315]? = some (.cells #[.bool t311, .int .i64 t312, .int .i64 t313] 28 (0, 0))) ∧ Aside0 (Below w.heap.size w wc))
 case first =>
  have H := HC7.out
  clear HC7
  by_cases c18 : t314 = 0
  ·
   rw [if_pos c18] at H
   have c18b0 : (t314 == 0) = true := beq_iff_eq.mpr c18
   have c18b1 : (t314 != 0) = false := bne_eq_false_iff_eq.mpr c18
   clear c18
   (first | rw [c18b0] | (simp only [i64_w, i32_w]; rw [c18b0]) | skip)
   by_cases c19 : a3 < 1
   ·
    rw [if_pos c19] at H
    have c19b0 : decide (a3 < 1) = true := decide_eq_true c19
    clear c19
    have H' := Aside0.mk H
    clear H
    go_wp2
    go_meet
    case rel => exact ⟨_, (true), (by first | rfl | (simp; done) | (simp [*]; done)), H', ⟨by first | omega | exact Nat.le_refl _⟩, ⟨by (with_reducible repeat (first | refine blk_drewN ?_ _ | refine blk_drew ?_ | refine blk_alloc ?_ _)); refine blk_far ?_ NB309_315.out _; (with_reducible repeat (first | refine blk_drewN ?_ _ | refine blk_drew ?_ | refine blk_alloc ?_ _)); refine blk_far ?_ NB309_315.out _; (with_reducible repeat (first | refine blk_drewN ?_ _ | refine blk_drew ?_ | refine blk_alloc ?_ _)); refine blk_far ?_ NB309_315.out _; (with_reducible repeat (first | refine blk_drewN ?_ _ | refine blk_drew ?_ | refine blk_alloc ?_ _)); exact BK309.out⟩, ⟨by (with_reducible repeat (first | refine blk_drewN ?_ _ | refine blk_drew ?_ | refine blk_alloc ?_ _)); refine blk_far ?_ NB310_315.out _; (with_reducible repeat (first | refine blk_drewN ?_ _ | refine blk_drew ?_ | refine blk_alloc ?_ _)); refine blk_far ?_ NB310_315.out _; (with_reducible repeat (first | refine blk_drewN ?_ _ | refine blk_drew ?_ | refine blk_alloc ?_ _)); refine blk_far ?_ NB310_315.out _; (with_reducible repeat (first | refine blk_drewN ?_ _ | refine blk_drew ?_ | refine blk_alloc ?_ _)); exact BK310.out⟩, ⟨by (with_reducible repeat (first | refine blk_drewN ?_ _ | refine blk_drew ?_ | refine blk_alloc ?_ _)); refine blk_put (cs := #[.bool t311, .int .i64 t312, .int .i64 0]) ?_ 2 _ rfl; (with_reducible repeat (first | refine blk_drewN ?_ _ | refine blk_drew ?_ | refine blk_alloc ?_ _)); refine blk_put (cs := #[.bool t311, .int .i64 0, .int .i64 0]) ?_ 1 _ rfl; (with_reducible repeat (first | refine blk_drewN ?_ _ | refine blk_drew ?_ | refine blk_alloc ?_ _)); refine blk_put (cs := #[.bool false, .int .i64 0, .int .i64 0]) ?_ 0 _ rfl; (with_reducible repeat (first | refine blk_drewN ?_ _ | refine blk_drew ?_ | refine blk_alloc ?_ _)); exact BK315.out⟩, ⟨by repeat (first | (with_reducible first | exact HB.out | apply below_alloc | apply pw_below_drewN | apply below_drew1 | refine below_set ?_ GE309.out | refine below_set ?_ GE310.out | refine below_set ?_ GE315.out) | exact HB.out)⟩⟩
   ·
    rw [if_neg c19] at H
    have c19b0 : decide (a3 < 1) = false := decide_eq_false c19
    clear c19
    by_cases c20 : a3 > 86400
    ·
     rw [if_pos c20] at H
     have c20b0 : decide (86400 < a3) = true := decide_eq_true c20
     clear c20
     have H' := Aside0.mk H
     clear H
     go_wp2
     go_meet
     case rel => exact ⟨_, (true), (by first | rfl | (simp; done) | (simp [*]; done)), H', ⟨by first | omega | exact Nat.le_refl _⟩, ⟨by (with_reducible repeat (first | refine blk_drewN ?_ _ | refine blk_drew ?_ | refine blk_alloc ?_ _)); refine blk_far ?_ NB309_315.out _; (with_reducible repeat (first | refine blk_drewN ?_ _ | refine blk_drew ?_ | refine blk_alloc ?_ _)); refine blk_far ?_ NB309_315.out _; (with_reducible repeat (first | refine blk_drewN ?_ _ | refine blk_drew ?_ | refine blk_alloc ?_ _)); refine blk_far ?_ NB309_315.out _; (with_reducible repeat (first | refine blk_drewN ?_ _ | refine blk_drew ?_ | refine blk_alloc ?_ _)); exact BK309.out⟩, ⟨by (with_reducible repeat (first | refine blk_drewN ?_ _ | refine blk_drew ?_ | refine blk_alloc ?_ _)); refine blk_far ?_ NB310_315.out _; (with_reducible repeat (first | refine blk_drewN ?_ _ | refine blk_drew ?_ | refine blk_alloc ?_ _)); refine blk_far ?_ NB310_315.out _; (with_reducible repeat (first | refine blk_drewN ?_ _ | refine blk_drew ?_ | refine blk_alloc ?_ _)); refine blk_far ?_ NB310_315.out _; (with_reducible repeat (first | refine blk_drewN ?_ _ | refine blk_drew ?_ | refine blk_alloc ?_ _)); exact BK310.out⟩, ⟨by (with_reducible repeat (first | refine blk_drewN ?_ _ | refine blk_drew ?_ | refine blk_alloc ?_ _)); refine blk_put (cs := #[.bool t311, .int .i64 t312, .int .i64 0]) ?_ 2 _ rfl; (with_reducible repeat (first | refine blk_drewN ?_ _ | refine blk_drew ?_ | refine blk_alloc ?_ _)); refine blk_put (cs := #[.bool t311, .int .i64 0, .int .i64 0]) ?_ 1 _ rfl; (with_reducible repeat (first | refine blk_drewN ?_ _ | refine blk_drew ?_ | refine blk_alloc ?_ _)); refine blk_put (cs := #[.bool false, .int .i64 0, .int .i64 0]) ?_ 0 _ rfl; (with_reducible repeat (first | refine blk_drewN ?_ _ | refine blk_drew ?_ | refine blk_alloc ?_ _)); exact BK315.out⟩, ⟨by repeat (first | (with_reducible first | exact HB.out | apply below_alloc | apply pw_below_drewN | apply below_drew1 | refine below_set ?_ GE309.out | refine below_set ?_ GE310.out | refine below_set ?_ GE315.out) | exact HB.out)⟩⟩
    ·
     rw [if_neg c20] at H
     have c20b0 : decide (86400 < a3) = false := decide_eq_false c20
     clear c20
     by_cases c21 : a0_1 = 0
     ·
      rw [if_pos c21] at H
      have c21b0 : (a0_1 == 0) = true := beq_iff_eq.mpr c21
      have c21b1 : (a0_1 != 0) = false := bne_eq_false_iff_eq.mpr c21
      clear c21
      have H' := Aside0.mk H
      clear H
      have hnb22 := NB309_310.out
      have hnc22 := NB310_309.out
      have hnb23 := NB309_315.out
      have hnc23 := NB315_309.out
      have hcz24_0 : w14.cell? ⟨gb309, 0, none⟩ = some (.int .i64 a0_0) := (blk_cell BK309.out 0).trans rfl
      have hcz24_1 : w14.cell? ⟨gb309, 1, none⟩ = some (.int .i64 a0_1) := (blk_cell BK309.out 1).trans rfl
      have hcz24_2 : w14.cell? ⟨gb309, 2, none⟩ = some (.int .i64 a0_2) := (blk_cell BK309.out 2).trans rfl
      have hcz24_3 : w14.cell? ⟨gb309, 3, none⟩ = some (.int .i64 a0_3) := (blk_cell BK309.out 3).trans rfl
      have hcz24_4 : w14.cell? ⟨gb309, 4, none⟩ = some (.bool a0_4) := (blk_cell BK309.out 4).trans rfl
      have hfz24_0 := blk_frozen BK309.out 0
      have hfz24_1 := blk_frozen BK309.out 1
      have hfz24_2 := blk_frozen BK309.out 2
      have hfz24_3 := blk_frozen BK309.out 3
      have hfz24_4 := blk_frozen BK309.out 4
      go_wp2
      go_meet
      case rel => exact ⟨_, (true), (by first | rfl | (simp; done) | (simp [*]; done)), H', ⟨by first | omega | exact Nat.le_refl _⟩, ⟨by (with_reducible repeat (first | refine blk_drewN ?_ _ | refine blk_drew ?_ | refine blk_alloc ?_ _)); refine blk_far ?_ NB309_315.out _; (with_reducible repeat (first | refine blk_drewN ?_ _ | refine blk_drew ?_ | refine blk_alloc ?_ _)); refine blk_far ?_ NB309_315.out _; (with_reducible repeat (first | refine blk_drewN ?_ _ | refine blk_drew ?_ | refine blk_alloc ?_ _)); refine blk_far ?_ NB309_315.out _; (with_reducible repeat (first | refine blk_drewN ?_ _ | refine blk_drew ?_ | refine blk_alloc ?_ _)); exact BK309.out⟩, ⟨by (with_reducible repeat (first | refine blk_drewN ?_ _ | refine blk_drew ?_ | refine blk_alloc ?_ _)); refine blk_far ?_ NB310_315.out _; (with_reducible repeat (first | refine blk_drewN ?_ _ | refine blk_drew ?_ | refine blk_alloc ?_ _)); refine blk_far ?_ NB310_315.out _; (with_reducible repeat (first | refine blk_drewN ?_ _ | refine blk_drew ?_ | refine blk_alloc ?_ _)); refine blk_far ?_ NB310_315.out _; (with_reducible repeat (first | refine blk_drewN ?_ _ | refine blk_drew ?_ | refine blk_alloc ?_ _)); exact BK310.out⟩, ⟨by (with_reducible repeat (first | refine blk_drewN ?_ _ | refine blk_drew ?_ | refine blk_alloc ?_ _)); refine blk_put (cs := #[.bool t311, .int .i64 t312, .int .i64 0]) ?_ 2 _ rfl; (with_reducible repeat (first | refine blk_drewN ?_ _ | refine blk_drew ?_ | refine blk_alloc ?_ _)); refine blk_put (cs := #[.bool t311, .int .i64 0, .int .i64 0]) ?_ 1 _ rfl; (with_reducible repeat (first | refine blk_drewN ?_ _ | refine blk_drew ?_ | refine blk_alloc ?_ _)); refine blk_put (cs := #[.bool false, .int .i64 0, .int .i64 0]) ?_ 0 _ rfl; (with_reducible repeat (first | refine blk_drewN ?_ _ | refine blk_drew ?_ | refine blk_alloc ?_ _)); exact BK315.out⟩, ⟨by repeat (first | (with_reducible first | exact HB.out | apply below_alloc | apply pw_below_drewN | apply below_drew1 | refine below_set ?_ GE309.out | refine below_set ?_ GE310.out | refine below_set ?_ GE315.out) | exact HB.out)⟩⟩
     ·
      rw [if_neg c21] at H
      have c21b0 : (a0_1 == 0) = false := beq_eq_false_iff_ne.mpr c21
      have c21b1 : (a0_1 != 0) = true := bne_iff_ne.mpr c21
      have H' := Aside0.mk H
      clear H
      have hnb25 := NB309_310.out
      have hnc25 := NB310_309.out
      have hnb26 := NB309_315.out
      have hnc26 := NB315_309.out
      have hcz27_0 : w14.cell? ⟨gb309, 0, none⟩ = some (.int .i64 a0_0) := (blk_cell BK309.out 0).trans rfl
      have hcz27_1 : w14.cell? ⟨gb309, 1, none⟩ = some (.int .i64 a0_1) := (blk_cell BK309.out 1).trans rfl
      have hcz27_2 : w14.cell? ⟨gb309, 2, none⟩ = some (.int .i64 a0_2) := (blk_cell BK309.out 2).trans rfl
      have hcz27_3 : w14.cell? ⟨gb309, 3, none⟩ = some (.int .i64 a0_3) := (blk_cell BK309.out 3).trans rfl
      have hcz27_4 : w14.cell? ⟨gb309, 4, none⟩ = some (.bool a0_4) := (blk_cell BK309.out 4).trans rfl
      have hfz27_0 := blk_frozen BK309.out 0
      have hfz27_1 := blk_frozen BK309.out 1
      have hfz27_2 := blk_frozen BK309.out 2
      have hfz27_3 := blk_frozen BK309.out 3
      have hfz27_4 := blk_frozen BK309.out 4
      go_wp2
      go_meet
      case rel => exact ⟨_, (decide (a4 > 30)), (by first | rfl | (simp; done) | (simp [*]; done)), H', ⟨by first | omega | exact Nat.le_refl _⟩, ⟨by (with_reducible repeat (first | refine blk_drewN ?_ _ | refine blk_drew ?_ | refine blk_alloc ?_ _)); refine blk_far ?_ NB309_315.out _; (with_reducible repeat (first | refine blk_drewN ?_ _ | refine blk_drew ?_ | refine blk_alloc ?_ _)); refine blk_far ?_ NB309_315.out _; (with_reducible repeat (first | refine blk_drewN ?_ _ | refine blk_drew ?_ | refine blk_alloc ?_ _)); refine blk_far ?_ NB309_315.out _; (with_reducible repeat (first | refine blk_drewN ?_ _ | refine blk_drew ?_ | refine blk_alloc ?_ _)); exact BK309.out⟩, ⟨by (with_reducible repeat (first | refine blk_drewN ?_ _ | refine blk_drew ?_ | refine blk_alloc ?_ _)); refine blk_far ?_ NB310_315.out _; (with_reducible repeat (first | refine blk_drewN ?_ _ | refine blk_drew ?_ | refine blk_alloc ?_ _)); refine blk_far ?_ NB310_315.out _; (with_reducible repeat (first | refine blk_drewN ?_ _ | refine blk_drew ?_ | refine blk_alloc ?_ _)); refine blk_far ?_ NB310_315.out _; (with_reducible repeat (first | refine blk_drewN ?_ _ | refine blk_drew ?_ | refine blk_alloc ?_ _)); exact BK310.out⟩, ⟨by (with_reducible repeat (first | refine blk_drewN ?_ _ | refine blk_drew ?_ | refine blk_alloc ?_ _)); refine blk_put (cs := #[.bool t311, .int .i64 t312, .int .i64 0]) ?_ 2 _ rfl; (with_reducible repeat (first | refine blk_drewN ?_ _ | refine blk_drew ?_ | refine blk_alloc ?_ _)); refine blk_put (cs := #[.bool t311, .int .i64 0, .int .i64 0]) ?_ 1 _ rfl; (with_reducible repeat (first | refine blk_drewN ?_ _ | refine blk_drew ?_ | refine blk_alloc ?_ _)); refine blk_put (cs := #[.bool false, .int .i64 0, .int .i64 0]) ?_ 0 _ rfl; (with_reducible repeat (first | refine blk_drewN ?_ _ | refine blk_drew ?_ | refine blk_alloc ?_ _)); exact BK315.out⟩, ⟨by repeat (first | (with_reducible first | exact HB.out | apply below_alloc | apply pw_below_drewN | apply below_drew1 | refine below_set ?_ GE309.out | refine below_set ?_ GE310.out | refine below_set ?_ GE315.out) | exact HB.out)⟩⟩
  ·
   rw [if_neg c18] at H
   have c18b0 : (t314 == 0) = false := beq_eq_false_iff_ne.mpr c18
   have c18b1 : (t314 != 0) = true := bne_iff_ne.mpr c18
   (first | rw [c18b0] | (simp only [i64_w, i32_w]; rw [c18b0]) | skip)
   have H' := Aside0.mk H
   clear H
   go_wp2
   go_meet
   case rel => exact ⟨_, (true), (by first | rfl | (simp; done) | (simp [*]; done)), H', ⟨by first | omega | exact Nat.le_refl _⟩, ⟨by (with_reducible repeat (first | refine blk_drewN ?_ _ | refine blk_drew ?_ | refine blk_alloc ?_ _)); refine blk_far ?_ NB309_315.out _; (with_reducible repeat (first | refine blk_drewN ?_ _ | refine blk_drew ?_ | refine blk_alloc ?_ _)); refine blk_far ?_ NB309_315.out _; (with_reducible repeat (first | refine blk_drewN ?_ _ | refine blk_drew ?_ | refine blk_alloc ?_ _)); refine blk_far ?_ NB309_315.out _; (with_reducible repeat (first | refine blk_drewN ?_ _ | refine blk_drew ?_ | refine blk_alloc ?_ _)); exact BK309.out⟩, ⟨by (with_reducible repeat (first | refine blk_drewN ?_ _ | refine blk_drew ?_ | refine blk_alloc ?_ _)); refine blk_far ?_ NB310_315.out _; (with_reducible repeat (first | refine blk_drewN ?_ _ | refine blk_drew ?_ | refine blk_alloc ?_ _)); refine blk_far ?_ NB310_315.out _; (with_reducible repeat (first | refine blk_drewN ?_ _ | refine blk_drew ?_ | refine blk_alloc ?_ _)); refine blk_far ?_ NB310_315.out _; (with_reducible repeat (first | refine blk_drewN ?_ _ | refine blk_drew ?_ | refine blk_alloc ?_ _)); exact BK310.out⟩, ⟨by (with_reducible repeat (first | refine blk_drewN ?_ _ | refine blk_drew ?_ | refine blk_alloc ?_ _)); refine blk_put (cs := #[.bool t311, .int .i64 t312, .int .i64 0]) ?_ 2 _ rfl; (with_reducible repeat (first | refine blk_drewN ?_ _ | refine blk_drew ?_ | refine blk_alloc ?_ _)); refine blk_put (cs := #[.bool t311, .int .i64 0, .int .i64 0]) ?_ 1 _ rfl; (with_reducible repeat (first | refine blk_drewN ?_ _ | refine blk_drew ?_ | refine blk_alloc ?_ _)); refine blk_put (cs := #[.bool false, .int .i64 0, .int .i64 0]) ?_ 0 _ rfl; (with_reducible repeat (first | refine blk_drewN ?_ _ | refine blk_drew ?_ | refine blk_alloc ?_ _)); exact BK315.out⟩, ⟨by repeat (first | (with_reducible first | exact HB.out | apply below_alloc | apply pw_below_drewN | apply below_drew1 | refine below_set ?_ GE309.out | refine below_set ?_ GE310.out | refine below_set ?_ GE315.out) | exact HB.out)⟩⟩
 case rest =>
  clear HC7
  try clear c1
  try clear c2
  try clear p2
  try clear c6
  try clear c11
  try clear c14
  try clear c15
  try clear c16
  try clear c18
  try clear c18b0
  try clear c18b1
  try clear c19
  try clear c19b0
  try clear c20
  try clear c20b0
  try clear c21
  try clear c21b0
  try clear c21b1
  try clear c22
  try clear c23
  try clear c25
  try clear c26
  try clear hcz12_0
  try clear hcz12_1
  try clear hcz12_2
  try clear hcz12_3
  try clear hcz12_4
  try clear hcz17_0
  try clear hcz17_1
  try clear hcz17_2
  try clear hcz24_0
  try clear hcz24_1
  try clear hcz24_2
  try clear hcz24_3
  try clear hcz24_4
  try clear hcz27_0
  try clear hcz27_1
  try clear hcz27_2
  try clear hcz27_3
  try clear hcz27_4
  try clear hcz9_0
  try clear hcz9_1
  try clear hcz9_2
  try clear hcz9_3
  try clear hcz9_4
  try clear hfz12_0
  try clear hfz12_1
  try clear hfz12_2
  try clear hfz12_3
  try clear hfz12_4
  try clear hfz17_0
  try clear hfz17_1
  try clear hfz17_2
  try clear hfz24_0
  try clear hfz24_1
  try clear hfz24_2
  try clear hfz24_3
  try clear hfz24_4
  try clear hfz27_0
  try clear hfz27_1
  try clear hfz27_2
  try clear hfz27_3
  try clear hfz27_4
  try clear hfz9_0
  try clear hfz9_1
  try clear hfz9_2
  try clear hfz9_3
  try clear hfz9_4
  obtain ⟨kq, x45_6, rfl, HA, HJ6, BK309, BK310, BK315, HB⟩ := hcut
  cases kq with
  | zero => exact absurd HA.out (by simp [plenumlaw20_PidTracks.j0])
  | succ kj6 =>
   have H := HA.out
   clear HA
   simp only [plenumlaw20_PidTracks.j0] at H
   by_cases c28 : x45_6 = true
   ·
    subst c28
    have H1 : ((plenumlaw20_awake.f).bind fun t316 => (some t316)) = some r := by rw [if_pos rfl] at H; exact H
    clear H
    have H := H1
    clear H1
    replace H := Option.bind_eq_some_iff.mp H
    obtain ⟨t316, A290, H⟩ := H
    replace H : (some t316) = some r := H
    have A29 := Aside0.mk A290
    clear A290
    obtain rfl := Option.some.inj H
    go_wp2_with (first | ((with_reducible refine gate_callee (f := 7) rfl ?_); refine goesL_ (some 46) rfl rfl Tryd.func7 (by kernel_rfl) rfl #[] rfl (by (try simp only [List.map_toArray, List.map_cons, List.map_nil]); first | done | rfl | (simp only [List.length_drop, List.length_take]; rfl)) ?_; (with_reducible refine (plenumlaw20_awake.calls  t316 _ ?sideL A29.out).mono ?_); (case sideL => exact LaidT.below HL.out (by repeat (first | (with_reducible first | exact HB.out | apply below_alloc | apply pw_below_drewN | apply below_drew1 | refine below_set ?_ (Aside0.out (by assumption))) | exact HB.out))); rintro e w30 ⟨rfl, hb⟩; refine ⟨_, rfl, ?_⟩; have n0_ := Aside0.mk (blk_below (g := gb309) (o := .cells #[.int .i64 a0_0, .int .i64 a0_1, .int .i64 a0_2, .int .i64 a0_3, .bool a0_4] 23 (0, 0)) (by (with_reducible repeat (first | refine blk_drewN ?_ _ | refine blk_drew ?_ | refine blk_alloc ?_ _)); exact BK309.out) hb); have n1_ := Aside0.mk (blk_below (g := gb310) (o := .cells #[.int .i64 a0_0, .int .i64 a0_1, .int .i64 a0_2, .int .i64 a0_3, .bool a0_4] 26 (0, 0)) (by (with_reducible repeat (first | refine blk_drewN ?_ _ | refine blk_drew ?_ | refine blk_alloc ?_ _)); exact BK310.out) hb); have n2_ := Aside0.mk (blk_below (g := gb315) (o := .cells #[.bool t311, .int .i64 t312, .int .i64 t313] 28 (0, 0)) (by (with_reducible repeat (first | refine blk_drewN ?_ _ | refine blk_drew ?_ | refine blk_alloc ?_ _)); exact BK315.out) hb); have n3_ := Aside0.mk (below_step (by repeat (first | (with_reducible first | exact HB.out | apply below_alloc | apply pw_below_drewN | apply below_drew1 | refine below_set ?_ GE309.out | refine below_set ?_ GE310.out | refine below_set ?_ GE315.out) | exact HB.out)) hb); clear BK309; clear BK310; clear BK315; clear HB; have BK309 := n0_; have BK310 := n1_; have BK315 := n2_; have HB := n3_; clear n0_ n1_ n2_ n3_; (try clear hb); (try clear hb2); (try clear hk); (try clear hi)))
    go_ret
    exact ⟨by first | rfl | (simp [errW_none, errW_some] <;> rfl) | (simp [*, errW_none, errW_some] <;> rfl), by repeat (first | (with_reducible first | exact HB.out | apply below_alloc | apply pw_below_drewN | apply below_drew1 | refine below_set ?_ GE309.out | refine below_set ?_ GE310.out | refine below_set ?_ GE315.out) | exact HB.out)⟩
   ·
    replace c28 := Bool.eq_false_iff.mpr c28
    subst c28
    have H1 : (plenumlaw20_PidTracks.l0 kj6 a1 a2 a3 a4 0 a0_0 a0_1 a0_2 a0_3 a0_4 a0_0 a0_1 a0_2 a0_3 a0_4 t311 t312 t313) = some r := by rw [if_neg (show ¬ (false = true) by decide)] at H; exact H
    clear H
    have H := H1
    clear H1
    have H' := Aside0.mk H
    clear H
    go_wp2
    go_loopg [14] kj6 (fun kq v14 w' => ∃ (x14_2 : Int) (x316000_2 : Bool) (x316001_2 : Int) (x316002_2 : Int), v14 = .int .i64 x14_2 ∧ Aside0 (plenumlaw20_PidTracks.l0 kq a1 a2 a3 a4 x14_2 a0_0 a0_1 a0_2 a0_3 a0_4 a0_0 a0_1 a0_2 a0_3 a0_4 x316000_2 x316001_2 x316002_2 = some r) ∧ Aside0 (kq ≤ kj6) ∧ Aside0 (w'.heap[gb309]? = some (.cells #[.int .i64 a0_0, .int .i64 a0_1, .int .i64 a0_2, .int .i64 a0_3, .bool a0_4] 23 (0, 0))) ∧ Aside0 (w'.heap[gb310]? = some (.cells #[.int .i64 a0_0, .int .i64 a0_1, .int .i64 a0_2, .int .i64 a0_3, .bool a0_4] 26 (0, 0))) ∧ Aside0 (w'.heap[gb315]? = some (.cells #[.bool x316000_2, .int .i64 x316001_2, .int .i64 x316002_2] 28 (0, 0))) ∧ Aside0 (Below w.heap.size w w'))
    case atStart => exact ⟨(0), (t311), (t312), (t313), (by first | rfl | (simp; done) | (simp [*]; done)), H', ⟨Nat.le_refl _⟩, ⟨by (with_reducible repeat (first | refine blk_drewN ?_ _ | refine blk_drew ?_ | refine blk_alloc ?_ _)); exact BK309.out⟩, ⟨by (with_reducible repeat (first | refine blk_drewN ?_ _ | refine blk_drew ?_ | refine blk_alloc ?_ _)); exact BK310.out⟩, ⟨by (with_reducible repeat (first | refine blk_drewN ?_ _ | refine blk_drew ?_ | refine blk_alloc ?_ _)); exact BK315.out⟩, ⟨by repeat (first | (with_reducible first | exact HB.out | apply below_alloc | apply pw_below_drewN | apply below_drew1 | refine below_set ?_ GE309.out | refine below_set ?_ GE310.out | refine below_set ?_ GE315.out) | exact HB.out)⟩⟩
    case round =>
     clear H'
     try clear c1
     try clear c2
     try clear p2
     try clear c6
     try clear c7
     try clear c11
     try clear c14
     try clear c15
     try clear c16
     try clear c18
     try clear c18b0
     try clear c18b1
     try clear c19
     try clear c19b0
     try clear c20
     try clear c20b0
     try clear c21
     try clear c21b0
     try clear c21b1
     try clear c22
     try clear c23
     try clear c25
     try clear c26
     try clear c28
     try clear hcz12_0
     try clear hcz12_1
     try clear hcz12_2
     try clear hcz12_3
     try clear hcz12_4
     try clear hcz17_0
     try clear hcz17_1
     try clear hcz17_2
     try clear hcz24_0
     try clear hcz24_1
     try clear hcz24_2
     try clear hcz24_3
     try clear hcz24_4
     try clear hcz27_0
     try clear hcz27_1
     try clear hcz27_2
     try clear hcz27_3
     try clear hcz27_4
     try clear hcz9_0
     try clear hcz9_1
     try clear hcz9_2
     try clear hcz9_3
     try clear hcz9_4
     try clear hfz12_0
     try clear hfz12_1
     try clear hfz12_2
     try clear hfz12_3
     try clear hfz12_4
     try clear hfz17_0
     try clear hfz17_1
     try clear hfz17_2
     try clear hfz24_0
     try clear hfz24_1
     try clear hfz24_2
     try clear hfz24_3
     try clear hfz24_4
     try clear hfz27_0
     try clear hfz27_1
     try clear hfz27_2
     try clear hfz27_3
     try clear hfz27_4
     try clear hfz9_0
     try clear hfz9_1
     try clear hfz9_2
     try clear hfz9_3
     try clear hfz9_4
     try clear p2
     obtain ⟨x14_2, x316000_2, x316001_2, x316002_2, rfl, HA, HK2, BK309, BK310, BK315, HB⟩ := hrel
     cases gk with
     | zero => exact absurd HA.out (by simp [plenumlaw20_PidTracks.l0])
     | succ k2 =>
      have H := HA.out
      clear HA
      simp only [plenumlaw20_PidTracks.l0] at H
      by_cases c31 : x14_2 < a4
      ·
       rw [if_pos c31] at H
       have c31b0 : decide (x14_2 < a4) = true := decide_eq_true c31
       clear c31
       replace H := Option.bind_eq_some_iff.mp H
       obtain ⟨⟨t317, t318, t319, t320, t321⟩, A320, H⟩ := H
       replace H : (if t321 = 0 then (if t320 = (mx a0_2 (mn a0_3 a2)) then (plenumlaw20_PidTracks.l0 k2 a1 a2 a3 a4 (wrap64 (x14_2 + 1)) a0_0 a0_1 a0_2 a0_3 a0_4 a0_0 a0_1 a0_2 a0_3 a0_4 t317 t318 t319) else (some false)) else (some false)) = some r := H
       have A32 := Aside0.mk A320
       clear A320
       by_cases c33 : t321 = 0
       ·
        rw [if_pos c33] at H
        have c33b0 : (t321 == 0) = true := beq_iff_eq.mpr c33
        have c33b1 : (t321 != 0) = false := bne_eq_false_iff_eq.mpr c33
        clear c33
        obtain ⟨ji34, hji34⟩ : ∃ j_ : Int, (mn a0_3 a2) = j_ := ⟨_, rfl⟩
        replace H : (if t320 = (mx a0_2 (ji34)) then (plenumlaw20_PidTracks.l0 k2 a1 a2 a3 a4 (wrap64 (x14_2 + 1)) a0_0 a0_1 a0_2 a0_3 a0_4 a0_0 a0_1 a0_2 a0_3 a0_4 t317 t318 t319) else (some false)) = some r := by first | (rw [hji34] at H; exact H) | (simp only [hji34] at H ⊢; exact H)
        (try rw [hji34] at A32)
        have hji34_ : (if a2 < a0_3 then a2 else a0_3) = ji34 := hji34
        obtain ⟨ji35, hji35⟩ : ∃ j_ : Int, (mx a0_2 (ji34)) = j_ := ⟨_, rfl⟩
        replace H : (if t320 = (ji35) then (plenumlaw20_PidTracks.l0 k2 a1 a2 a3 a4 (wrap64 (x14_2 + 1)) a0_0 a0_1 a0_2 a0_3 a0_4 a0_0 a0_1 a0_2 a0_3 a0_4 t317 t318 t319) else (some false)) = some r := by first | (rw [hji35] at H; exact H) | (simp only [hji35] at H ⊢; exact H)
        (try rw [hji35] at A32)
        have hji35_ : (if a0_2 < (ji34) then (ji34) else a0_2) = ji35 := hji35
        by_cases c36 : t320 = (ji35)
        ·
         rw [if_pos c36] at H
         have c36b0 : (t320 == (ji35)) = true := beq_iff_eq.mpr c36
         have c36b1 : (t320 != (ji35)) = false := bne_eq_false_iff_eq.mpr c36
         clear c36
         have H' := Aside0.mk H
         clear H
         have hnb37 := NB310_309.out
         have hnc37 := NB309_310.out
         have hnb38 := NB310_315.out
         have hnc38 := NB315_310.out
         have hcz39_0 : wr.cell? ⟨gb310, 0, none⟩ = some (.int .i64 a0_0) := (blk_cell BK310.out 0).trans rfl
         have hcz39_1 : wr.cell? ⟨gb310, 1, none⟩ = some (.int .i64 a0_1) := (blk_cell BK310.out 1).trans rfl
         have hcz39_2 : wr.cell? ⟨gb310, 2, none⟩ = some (.int .i64 a0_2) := (blk_cell BK310.out 2).trans rfl
         have hcz39_3 : wr.cell? ⟨gb310, 3, none⟩ = some (.int .i64 a0_3) := (blk_cell BK310.out 3).trans rfl
         have hcz39_4 : wr.cell? ⟨gb310, 4, none⟩ = some (.bool a0_4) := (blk_cell BK310.out 4).trans rfl
         have hfz39_0 := blk_frozen BK310.out 0
         have hfz39_1 := blk_frozen BK310.out 1
         have hfz39_2 := blk_frozen BK310.out 2
         have hfz39_3 := blk_frozen BK310.out 3
         have hfz39_4 := blk_frozen BK310.out 4
         have hnb40 := NB315_309.out
         have hnc40 := NB309_315.out
         have hcz41_0 : wr.cell? ⟨gb315, 0, none⟩ = some (.bool x316000_2) := (blk_cell BK315.out 0).trans rfl
         have hcz41_1 : wr.cell? ⟨gb315, 1, none⟩ = some (.int .i64 x316001_2) := (blk_cell BK315.out 1).trans rfl
         have hcz41_2 : wr.cell? ⟨gb315, 2, none⟩ = some (.int .i64 x316002_2) := (blk_cell BK315.out 2).trans rfl
         have hfz41_0 := blk_frozen BK315.out 0
         have hfz41_1 := blk_frozen BK315.out 1
         have hfz41_2 := blk_frozen BK315.out 2
         go_wp2_with (first | ((with_reducible refine gate_callee (f := 9) rfl ?_); refine goesL_ (some 58) rfl rfl Tryd.func9 (by kernel_rfl) rfl #[.agg #[.int .i64 a0_0, .int .i64 a0_1, .int .i64 a0_2, .int .i64 a0_3, .bool a0_4], .agg #[.bool x316000_2, .int .i64 x316001_2, .int .i64 x316002_2], .int .i64 a1, .int .i64 a1, .int .i64 a3] rfl (by (try simp only [List.map_toArray, List.map_cons, List.map_nil]); first | done | rfl | (simp only [List.length_drop, List.length_take]; rfl)) ?_; (with_reducible refine (pid_Control.calls k2 a0_0 a0_1 a0_2 a0_3 a0_4 x316000_2 x316001_2 x316002_2 a1 a1 a3 t317 t318 t319 t320 t321 _ A32.out).mono ?_); rintro e w42 ⟨rfl, hb⟩; refine ⟨_, rfl, ?_⟩; have n0_ := Aside0.mk (blk_below (g := gb309) (o := .cells #[.int .i64 a0_0, .int .i64 a0_1, .int .i64 a0_2, .int .i64 a0_3, .bool a0_4] 23 (0, 0)) (by (with_reducible repeat (first | refine blk_drewN ?_ _ | refine blk_drew ?_ | refine blk_alloc ?_ _)); exact BK309.out) hb); have n1_ := Aside0.mk (blk_below (g := gb310) (o := .cells #[.int .i64 a0_0, .int .i64 a0_1, .int .i64 a0_2, .int .i64 a0_3, .bool a0_4] 26 (0, 0)) (by (with_reducible repeat (first | refine blk_drewN ?_ _ | refine blk_drew ?_ | refine blk_alloc ?_ _)); exact BK310.out) hb); have n2_ := Aside0.mk (blk_below (g := gb315) (o := .cells #[.bool x316000_2, .int .i64 x316001_2, .int .i64 x316002_2] 28 (0, 0)) (by (with_reducible repeat (first | refine blk_drewN ?_ _ | refine blk_drew ?_ | refine blk_alloc ?_ _)); exact BK315.out) hb); have n3_ := Aside0.mk (below_step (by repeat (first | (with_reducible first | exact HB.out | apply below_alloc | apply pw_below_drewN | apply below_drew1 | refine below_set ?_ GE309.out | refine below_set ?_ GE310.out | refine below_set ?_ GE315.out) | exact HB.out)) hb); clear BK309; clear BK310; clear BK315; clear HB; have BK309 := n0_; have BK310 := n1_; have BK315 := n2_; have HB := n3_; clear n0_ n1_ n2_ n3_; (try clear hb); (try clear hb2); (try clear hk); (try clear hi)) | ((with_reducible refine gate_dst (N := 15) rfl ?_); (try (refine gate_guard (by rfl) ?_; dsimp only)); refine box_event ?hg (N := 15) ?hd (cs := #[.bool false, .int .i64 0, .int .i64 0]) (t := 28) ?hr ?_; (case hd => rfl); (case hg => rfl); (case hr => first | (go_simp; done) | (go_simp; rfl)); intro gb322 hg w43 hbox hb; have n0_ := Aside0.mk (blk_below (g := gb309) (o := .cells #[.int .i64 a0_0, .int .i64 a0_1, .int .i64 a0_2, .int .i64 a0_3, .bool a0_4] 23 (0, 0)) (by (with_reducible repeat (first | refine blk_drewN ?_ _ | refine blk_drew ?_ | refine blk_alloc ?_ _)); exact BK309.out) hb); have n1_ := Aside0.mk (blk_below (g := gb310) (o := .cells #[.int .i64 a0_0, .int .i64 a0_1, .int .i64 a0_2, .int .i64 a0_3, .bool a0_4] 26 (0, 0)) (by (with_reducible repeat (first | refine blk_drewN ?_ _ | refine blk_drew ?_ | refine blk_alloc ?_ _)); exact BK310.out) hb); have n2_ := Aside0.mk (blk_below (g := gb315) (o := .cells #[.bool x316000_2, .int .i64 x316001_2, .int .i64 x316002_2] 28 (0, 0)) (by (with_reducible repeat (first | refine blk_drewN ?_ _ | refine blk_drew ?_ | refine blk_alloc ?_ _)); exact BK315.out) hb); have n3_ := Aside0.mk (below_step (by repeat (first | (with_reducible first | exact HB.out | apply below_alloc | apply pw_below_drewN | apply below_drew1 | refine below_set ?_ GE309.out | refine below_set ?_ GE310.out | refine below_set ?_ GE315.out) | exact HB.out)) hb); have n4_ := Aside0.mk (hbox); have n5_ := Aside0.mk ((by rw [hg]; exact (below_size (by repeat (first | (with_reducible first | exact HB.out | apply below_alloc | apply pw_below_drewN | apply below_drew1 | refine below_set ?_ GE309.out | refine below_set ?_ GE310.out | refine below_set ?_ GE315.out) | exact HB.out))) : w.heap.size ≤ gb322)); have n6_ := Aside0.mk ((by rw [hg]; exact (below_size (by repeat (first | (with_reducible first | exact HB.out | apply below_alloc | apply pw_below_drewN | apply below_drew1 | refine below_set ?_ GE309.out | refine below_set ?_ GE310.out | refine below_set ?_ GE315.out) | exact HB.out))) : w.heap.size ≤ gb322)); have n7_ := Aside0.mk ((by rw [hg]; exact Nat.ne_of_lt (blk_lt (g := gb309) (o := .cells #[.int .i64 a0_0, .int .i64 a0_1, .int .i64 a0_2, .int .i64 a0_3, .bool a0_4] 23 (0, 0)) (by (with_reducible repeat (first | refine blk_drewN ?_ _ | refine blk_drew ?_ | refine blk_alloc ?_ _)); exact BK309.out)) : gb309 ≠ gb322)); have n8_ := Aside0.mk ((by rw [hg]; exact Nat.ne_of_gt (blk_lt (g := gb309) (o := .cells #[.int .i64 a0_0, .int .i64 a0_1, .int .i64 a0_2, .int .i64 a0_3, .bool a0_4] 23 (0, 0)) (by (with_reducible repeat (first | refine blk_drewN ?_ _ | refine blk_drew ?_ | refine blk_alloc ?_ _)); exact BK309.out)) : gb322 ≠ gb309)); have n9_ := Aside0.mk ((by rw [hg]; exact Nat.ne_of_lt (blk_lt (g := gb310) (o := .cells #[.int .i64 a0_0, .int .i64 a0_1, .int .i64 a0_2, .int .i64 a0_3, .bool a0_4] 26 (0, 0)) (by (with_reducible repeat (first | refine blk_drewN ?_ _ | refine blk_drew ?_ | refine blk_alloc ?_ _)); exact BK310.out)) : gb310 ≠ gb322)); have n10_ := Aside0.mk ((by rw [hg]; exact Nat.ne_of_gt (blk_lt (g := gb310) (o := .cells #[.int .i64 a0_0, .int .i64 a0_1, .int .i64 a0_2, .int .i64 a0_3, .bool a0_4] 26 (0, 0)) (by (with_reducible repeat (first | refine blk_drewN ?_ _ | refine blk_drew ?_ | refine blk_alloc ?_ _)); exact BK310.out)) : gb322 ≠ gb310)); have n11_ := Aside0.mk ((by rw [hg]; exact Nat.ne_of_lt (blk_lt (g := gb315) (o := .cells #[.bool x316000_2, .int .i64 x316001_2, .int .i64 x316002_2] 28 (0, 0)) (by (with_reducible repeat (first | refine blk_drewN ?_ _ | refine blk_drew ?_ | refine blk_alloc ?_ _)); exact BK315.out)) : gb315 ≠ gb322)); have n12_ := Aside0.mk ((by rw [hg]; exact Nat.ne_of_gt (blk_lt (g := gb315) (o := .cells #[.bool x316000_2, .int .i64 x316001_2, .int .i64 x316002_2] 28 (0, 0)) (by (with_reducible repeat (first | refine blk_drewN ?_ _ | refine blk_drew ?_ | refine blk_alloc ?_ _)); exact BK315.out)) : gb322 ≠ gb315)); clear BK309; clear BK310; clear BK315; clear HB; have BK309 := n0_; have BK310 := n1_; have BK315 := n2_; have HB := n3_; have BK322 := n4_; have GW322 := n5_; have GE322 := n6_; have NB309_322 := n7_; have NB322_309 := n8_; have NB310_322 := n9_; have NB322_310 := n10_; have NB315_322 := n11_; have NB322_315 := n12_; clear n0_ n1_ n2_ n3_ n4_ n5_ n6_ n7_ n8_ n9_ n10_ n11_ n12_; clear hb hbox hg; have hnb44 := NB322_309.out; have hnc44 := NB309_322.out; have hnb45 := NB322_310.out; have hnc45 := NB310_322.out; have hnb46 := NB322_315.out; have hnc46 := NB315_322.out; have hcz47_0 : w43.cell? ⟨gb322, 0, none⟩ = some (.bool false) := (blk_cell BK322.out 0).trans rfl; have hcz47_1 : w43.cell? ⟨gb322, 1, none⟩ = some (.int .i64 0) := (blk_cell BK322.out 1).trans rfl; have hcz47_2 : w43.cell? ⟨gb322, 2, none⟩ = some (.int .i64 0) := (blk_cell BK322.out 2).trans rfl; have hfz47_0 := blk_frozen BK322.out 0; have hfz47_1 := blk_frozen BK322.out 1; have hfz47_2 := blk_frozen BK322.out 2; have hcz48_0 : w43.cell? ⟨gb309, 0, none⟩ = some (.int .i64 a0_0) := (blk_cell BK309.out 0).trans rfl; have hcz48_1 : w43.cell? ⟨gb309, 1, none⟩ = some (.int .i64 a0_1) := (blk_cell BK309.out 1).trans rfl; have hcz48_2 : w43.cell? ⟨gb309, 2, none⟩ = some (.int .i64 a0_2) := (blk_cell BK309.out 2).trans rfl; have hcz48_3 : w43.cell? ⟨gb309, 3, none⟩ = some (.int .i64 a0_3) := (blk_cell BK309.out 3).trans rfl; have hcz48_4 : w43.cell? ⟨gb309, 4, none⟩ = some (.bool a0_4) := (blk_cell BK309.out 4).trans rfl; have hfz48_0 := blk_frozen BK309.out 0; have hfz48_1 := blk_frozen BK309.out 1; have hfz48_2 := blk_frozen BK309.out 2; have hfz48_3 := blk_frozen BK309.out 3; have hfz48_4 := blk_frozen BK309.out 4; have hcz49_0 : w43.cell? ⟨gb315, 0, none⟩ = some (.bool x316000_2) := (blk_cell BK315.out 0).trans rfl; have hcz49_1 : w43.cell? ⟨gb315, 1, none⟩ = some (.int .i64 x316001_2) := (blk_cell BK315.out 1).trans rfl; have hcz49_2 : w43.cell? ⟨gb315, 2, none⟩ = some (.int .i64 x316002_2) := (blk_cell BK315.out 2).trans rfl; have hfz49_0 := blk_frozen BK315.out 0; have hfz49_1 := blk_frozen BK315.out 1; have hfz49_2 := blk_frozen BK315.out 2))
         go_roundg k2
         case measure => have := HJ6.out; have := HK2.out; omega
         case rel => exact ⟨(wrap64 (x14_2 + 1)), (t317), (t318), (t319), (by first | rfl | (simp; done) | (simp [*]; done)), H', ⟨by have := HJ6.out; have := HK2.out; omega⟩, ⟨by (with_reducible repeat (first | refine blk_drewN ?_ _ | refine blk_drew ?_ | refine blk_alloc ?_ _)); refine blk_far ?_ NB309_315.out _; (with_reducible repeat (first | refine blk_drewN ?_ _ | refine blk_drew ?_ | refine blk_alloc ?_ _)); refine blk_far ?_ NB309_315.out _; (with_reducible repeat (first | refine blk_drewN ?_ _ | refine blk_drew ?_ | refine blk_alloc ?_ _)); refine blk_far ?_ NB309_315.out _; (with_reducible repeat (first | refine blk_drewN ?_ _ | refine blk_drew ?_ | refine blk_alloc ?_ _)); refine blk_far ?_ NB309_322.out _; (with_reducible repeat (first | refine blk_drewN ?_ _ | refine blk_drew ?_ | refine blk_alloc ?_ _)); refine blk_far ?_ NB309_322.out _; (with_reducible repeat (first | refine blk_drewN ?_ _ | refine blk_drew ?_ | refine blk_alloc ?_ _)); refine blk_far ?_ NB309_322.out _; (with_reducible repeat (first | refine blk_drewN ?_ _ | refine blk_drew ?_ | refine blk_alloc ?_ _)); exact BK309.out⟩, ⟨by (with_reducible repeat (first | refine blk_drewN ?_ _ | refine blk_drew ?_ | refine blk_alloc ?_ _)); refine blk_far ?_ NB310_315.out _; (with_reducible repeat (first | refine blk_drewN ?_ _ | refine blk_drew ?_ | refine blk_alloc ?_ _)); refine blk_far ?_ NB310_315.out _; (with_reducible repeat (first | refine blk_drewN ?_ _ | refine blk_drew ?_ | refine blk_alloc ?_ _)); refine blk_far ?_ NB310_315.out _; (with_reducible repeat (first | refine blk_drewN ?_ _ | refine blk_drew ?_ | refine blk_alloc ?_ _)); refine blk_far ?_ NB310_322.out _; (with_reducible repeat (first | refine blk_drewN ?_ _ | refine blk_drew ?_ | refine blk_alloc ?_ _)); refine blk_far ?_ NB310_322.out _; (with_reducible repeat (first | refine blk_drewN ?_ _ | refine blk_drew ?_ | refine blk_alloc ?_ _)); refine blk_far ?_ NB310_322.out _; (with_reducible repeat (first | refine blk_drewN ?_ _ | refine blk_drew ?_ | refine blk_alloc ?_ _)); exact BK310.out⟩, ⟨by (with_reducible repeat (first | refine blk_drewN ?_ _ | refine blk_drew ?_ | refine blk_alloc ?_ _)); refine blk_put (cs := #[.bool t317, .int .i64 t318, .int .i64 x316002_2]) ?_ 2 _ rfl; (with_reducible repeat (first | refine blk_drewN ?_ _ | refine blk_drew ?_ | refine blk_alloc ?_ _)); refine blk_put (cs := #[.bool t317, .int .i64 x316001_2, .int .i64 x316002_2]) ?_ 1 _ rfl; (with_reducible repeat (first | refine blk_drewN ?_ _ | refine blk_drew ?_ | refine blk_alloc ?_ _)); refine blk_put (cs := #[.bool x316000_2, .int .i64 x316001_2, .int .i64 x316002_2]) ?_ 0 _ rfl; (with_reducible repeat (first | refine blk_drewN ?_ _ | refine blk_drew ?_ | refine blk_alloc ?_ _)); refine blk_far ?_ NB315_322.out _; (with_reducible repeat (first | refine blk_drewN ?_ _ | refine blk_drew ?_ | refine blk_alloc ?_ _)); refine blk_far ?_ NB315_322.out _; (with_reducible repeat (first | refine blk_drewN ?_ _ | refine blk_drew ?_ | refine blk_alloc ?_ _)); refine blk_far ?_ NB315_322.out _; (with_reducible repeat (first | refine blk_drewN ?_ _ | refine blk_drew ?_ | refine blk_alloc ?_ _)); exact BK315.out⟩, ⟨by repeat (first | (with_reducible first | exact HB.out | apply below_alloc | apply pw_below_drewN | apply below_drew1 | refine below_set ?_ GE309.out | refine below_set ?_ GE310.out | refine below_set ?_ GE315.out | refine below_set ?_ GE322.out) | exact HB.out)⟩⟩
        ·
         rw [if_neg c36] at H
         have c36b0 : (t320 == (ji35)) = false := beq_eq_false_iff_ne.mpr c36
         have c36b1 : (t320 != (ji35)) = true := bne_iff_ne.mpr c36
         obtain rfl := Option.some.inj H
         have hnb50 := NB310_309.out
         have hnc50 := NB309_310.out
         have hnb51 := NB310_315.out
         have hnc51 := NB315_310.out
         have hcz52_0 : wr.cell? ⟨gb310, 0, none⟩ = some (.int .i64 a0_0) := (blk_cell BK310.out 0).trans rfl
         have hcz52_1 : wr.cell? ⟨gb310, 1, none⟩ = some (.int .i64 a0_1) := (blk_cell BK310.out 1).trans rfl
         have hcz52_2 : wr.cell? ⟨gb310, 2, none⟩ = some (.int .i64 a0_2) := (blk_cell BK310.out 2).trans rfl
         have hcz52_3 : wr.cell? ⟨gb310, 3, none⟩ = some (.int .i64 a0_3) := (blk_cell BK310.out 3).trans rfl
         have hcz52_4 : wr.cell? ⟨gb310, 4, none⟩ = some (.bool a0_4) := (blk_cell BK310.out 4).trans rfl
         have hfz52_0 := blk_frozen BK310.out 0
         have hfz52_1 := blk_frozen BK310.out 1
         have hfz52_2 := blk_frozen BK310.out 2
         have hfz52_3 := blk_frozen BK310.out 3
         have hfz52_4 := blk_frozen BK310.out 4
         have hnb53 := NB315_309.out
         have hnc53 := NB309_315.out
         have hcz54_0 : wr.cell? ⟨gb315, 0, none⟩ = some (.bool x316000_2) := (blk_cell BK315.out 0).trans rfl
         have hcz54_1 : wr.cell? ⟨gb315, 1, none⟩ = some (.int .i64 x316001_2) := (blk_cell BK315.out 1).trans rfl
         have hcz54_2 : wr.cell? ⟨gb315, 2, none⟩ = some (.int .i64 x316002_2) := (blk_cell BK315.out 2).trans rfl
         have hfz54_0 := blk_frozen BK315.out 0
         have hfz54_1 := blk_frozen BK315.out 1
         have hfz54_2 := blk_frozen BK315.out 2
         go_wp2_with (first | ((with_reducible refine gate_callee (f := 9) rfl ?_); refine goesL_ (some 58) rfl rfl Tryd.func9 (by kernel_rfl) rfl #[.agg #[.int .i64 a0_0, .int .i64 a0_1, .int .i64 a0_2, .int .i64 a0_3, .bool a0_4], .agg #[.bool x316000_2, .int .i64 x316001_2, .int .i64 x316002_2], .int .i64 a1, .int .i64 a1, .int .i64 a3] rfl (by (try simp only [List.map_toArray, List.map_cons, List.map_nil]); first | done | rfl | (simp only [List.length_drop, List.length_take]; rfl)) ?_; (with_reducible refine (pid_Control.calls k2 a0_0 a0_1 a0_2 a0_3 a0_4 x316000_2 x316001_2 x316002_2 a1 a1 a3 t317 t318 t319 t320 t321 _ A32.out).mono ?_); rintro e w55 ⟨rfl, hb⟩; refine ⟨_, rfl, ?_⟩; have n0_ := Aside0.mk (blk_below (g := gb309) (o := .cells #[.int .i64 a0_0, .int .i64 a0_1, .int .i64 a0_2, .int .i64 a0_3, .bool a0_4] 23 (0, 0)) (by (with_reducible repeat (first | refine blk_drewN ?_ _ | refine blk_drew ?_ | refine blk_alloc ?_ _)); exact BK309.out) hb); have n1_ := Aside0.mk (blk_below (g := gb310) (o := .cells #[.int .i64 a0_0, .int .i64 a0_1, .int .i64 a0_2, .int .i64 a0_3, .bool a0_4] 26 (0, 0)) (by (with_reducible repeat (first | refine blk_drewN ?_ _ | refine blk_drew ?_ | refine blk_alloc ?_ _)); exact BK310.out) hb); have n2_ := Aside0.mk (blk_below (g := gb315) (o := .cells #[.bool x316000_2, .int .i64 x316001_2, .int .i64 x316002_2] 28 (0, 0)) (by (with_reducible repeat (first | refine blk_drewN ?_ _ | refine blk_drew ?_ | refine blk_alloc ?_ _)); exact BK315.out) hb); have n3_ := Aside0.mk (below_step (by repeat (first | (with_reducible first | exact HB.out | apply below_alloc | apply pw_below_drewN | apply below_drew1 | refine below_set ?_ GE309.out | refine below_set ?_ GE310.out | refine below_set ?_ GE315.out) | exact HB.out)) hb); clear BK309; clear BK310; clear BK315; clear HB; have BK309 := n0_; have BK310 := n1_; have BK315 := n2_; have HB := n3_; clear n0_ n1_ n2_ n3_; (try clear hb); (try clear hb2); (try clear hk); (try clear hi)) | ((with_reducible refine gate_dst (N := 15) rfl ?_); (try (refine gate_guard (by rfl) ?_; dsimp only)); refine box_event ?hg (N := 15) ?hd (cs := #[.bool false, .int .i64 0, .int .i64 0]) (t := 28) ?hr ?_; (case hd => rfl); (case hg => rfl); (case hr => first | (go_simp; done) | (go_simp; rfl)); intro gb322 hg w56 hbox hb; have n0_ := Aside0.mk (blk_below (g := gb309) (o := .cells #[.int .i64 a0_0, .int .i64 a0_1, .int .i64 a0_2, .int .i64 a0_3, .bool a0_4] 23 (0, 0)) (by (with_reducible repeat (first | refine blk_drewN ?_ _ | refine blk_drew ?_ | refine blk_alloc ?_ _)); exact BK309.out) hb); have n1_ := Aside0.mk (blk_below (g := gb310) (o := .cells #[.int .i64 a0_0, .int .i64 a0_1, .int .i64 a0_2, .int .i64 a0_3, .bool a0_4] 26 (0, 0)) (by (with_reducible repeat (first | refine blk_drewN ?_ _ | refine blk_drew ?_ | refine blk_alloc ?_ _)); exact BK310.out) hb); have n2_ := Aside0.mk (blk_below (g := gb315) (o := .cells #[.bool x316000_2, .int .i64 x316001_2, .int .i64 x316002_2] 28 (0, 0)) (by (with_reducible repeat (first | refine blk_drewN ?_ _ | refine blk_drew ?_ | refine blk_alloc ?_ _)); exact BK315.out) hb); have n3_ := Aside0.mk (below_step (by repeat (first | (with_reducible first | exact HB.out | apply below_alloc | apply pw_below_drewN | apply below_drew1 | refine below_set ?_ GE309.out | refine below_set ?_ GE310.out | refine below_set ?_ GE315.out) | exact HB.out)) hb); have n4_ := Aside0.mk (hbox); have n5_ := Aside0.mk ((by rw [hg]; exact (below_size (by repeat (first | (with_reducible first | exact HB.out | apply below_alloc | apply pw_below_drewN | apply below_drew1 | refine below_set ?_ GE309.out | refine below_set ?_ GE310.out | refine below_set ?_ GE315.out) | exact HB.out))) : w.heap.size ≤ gb322)); have n6_ := Aside0.mk ((by rw [hg]; exact (below_size (by repeat (first | (with_reducible first | exact HB.out | apply below_alloc | apply pw_below_drewN | apply below_drew1 | refine below_set ?_ GE309.out | refine below_set ?_ GE310.out | refine below_set ?_ GE315.out) | exact HB.out))) : w.heap.size ≤ gb322)); have n7_ := Aside0.mk ((by rw [hg]; exact Nat.ne_of_lt (blk_lt (g := gb309) (o := .cells #[.int .i64 a0_0, .int .i64 a0_1, .int .i64 a0_2, .int .i64 a0_3, .bool a0_4] 23 (0, 0)) (by (with_reducible repeat (first | refine blk_drewN ?_ _ | refine blk_drew ?_ | refine blk_alloc ?_ _)); exact BK309.out)) : gb309 ≠ gb322)); have n8_ := Aside0.mk ((by rw [hg]; exact Nat.ne_of_gt (blk_lt (g := gb309) (o := .cells #[.int .i64 a0_0, .int .i64 a0_1, .int .i64 a0_2, .int .i64 a0_3, .bool a0_4] 23 (0, 0)) (by (with_reducible repeat (first | refine blk_drewN ?_ _ | refine blk_drew ?_ | refine blk_alloc ?_ _)); exact BK309.out)) : gb322 ≠ gb309)); have n9_ := Aside0.mk ((by rw [hg]; exact Nat.ne_of_lt (blk_lt (g := gb310) (o := .cells #[.int .i64 a0_0, .int .i64 a0_1, .int .i64 a0_2, .int .i64 a0_3, .bool a0_4] 26 (0, 0)) (by (with_reducible repeat (first | refine blk_drewN ?_ _ | refine blk_drew ?_ | refine blk_alloc ?_ _)); exact BK310.out)) : gb310 ≠ gb322)); have n10_ := Aside0.mk ((by rw [hg]; exact Nat.ne_of_gt (blk_lt (g := gb310) (o := .cells #[.int .i64 a0_0, .int .i64 a0_1, .int .i64 a0_2, .int .i64 a0_3, .bool a0_4] 26 (0, 0)) (by (with_reducible repeat (first | refine blk_drewN ?_ _ | refine blk_drew ?_ | refine blk_alloc ?_ _)); exact BK310.out)) : gb322 ≠ gb310)); have n11_ := Aside0.mk ((by rw [hg]; exact Nat.ne_of_lt (blk_lt (g := gb315) (o := .cells #[.bool x316000_2, .int .i64 x316001_2, .int .i64 x316002_2] 28 (0, 0)) (by (with_reducible repeat (first | refine blk_drewN ?_ _ | refine blk_drew ?_ | refine blk_alloc ?_ _)); exact BK315.out)) : gb315 ≠ gb322)); have n12_ := Aside0.mk ((by rw [hg]; exact Nat.ne_of_gt (blk_lt (g := gb315) (o := .cells #[.bool x316000_2, .int .i64 x316001_2, .int .i64 x316002_2] 28 (0, 0)) (by (with_reducible repeat (first | refine blk_drewN ?_ _ | refine blk_drew ?_ | refine blk_alloc ?_ _)); exact BK315.out)) : gb322 ≠ gb315)); clear BK309; clear BK310; clear BK315; clear HB; have BK309 := n0_; have BK310 := n1_; have BK315 := n2_; have HB := n3_; have BK322 := n4_; have GW322 := n5_; have GE322 := n6_; have NB309_322 := n7_; have NB322_309 := n8_; have NB310_322 := n9_; have NB322_310 := n10_; have NB315_322 := n11_; have NB322_315 := n12_; clear n0_ n1_ n2_ n3_ n4_ n5_ n6_ n7_ n8_ n9_ n10_ n11_ n12_; clear hb hbox hg; have hnb57 := NB322_309.out; have hnc57 := NB309_322.out; have hnb58 := NB322_310.out; have hnc58 := NB310_322.out; have hnb59 := NB322_315.out; have hnc59 := NB315_322.out; have hcz60_0 : w56.cell? ⟨gb322, 0, none⟩ = some (.bool false) := (blk_cell BK322.out 0).trans rfl; have hcz60_1 : w56.cell? ⟨gb322, 1, none⟩ = some (.int .i64 0) := (blk_cell BK322.out 1).trans rfl; have hcz60_2 : w56.cell? ⟨gb322, 2, none⟩ = some (.int .i64 0) := (blk_cell BK322.out 2).trans rfl; have hfz60_0 := blk_frozen BK322.out 0; have hfz60_1 := blk_frozen BK322.out 1; have hfz60_2 := blk_frozen BK322.out 2; have hcz61_0 : w56.cell? ⟨gb309, 0, none⟩ = some (.int .i64 a0_0) := (blk_cell BK309.out 0).trans rfl; have hcz61_1 : w56.cell? ⟨gb309, 1, none⟩ = some (.int .i64 a0_1) := (blk_cell BK309.out 1).trans rfl; have hcz61_2 : w56.cell? ⟨gb309, 2, none⟩ = some (.int .i64 a0_2) := (blk_cell BK309.out 2).trans rfl; have hcz61_3 : w56.cell? ⟨gb309, 3, none⟩ = some (.int .i64 a0_3) := (blk_cell BK309.out 3).trans rfl; have hcz61_4 : w56.cell? ⟨gb309, 4, none⟩ = some (.bool a0_4) := (blk_cell BK309.out 4).trans rfl; have hfz61_0 := blk_frozen BK309.out 0; have hfz61_1 := blk_frozen BK309.out 1; have hfz61_2 := blk_frozen BK309.out 2; have hfz61_3 := blk_frozen BK309.out 3; have hfz61_4 := blk_frozen BK309.out 4))
         go_ret
         exact ⟨by first | rfl | (simp [errW_none, errW_some] <;> rfl) | (simp only [← hji34, ← hji35]; first | rfl | (simp [errW_none, errW_some] <;> rfl)) | (simp [*, errW_none, errW_some] <;> rfl), by repeat (first | (with_reducible first | exact HB.out | apply below_alloc | apply pw_below_drewN | apply below_drew1 | refine below_set ?_ GE309.out | refine below_set ?_ GE310.out | refine below_set ?_ GE315.out | refine below_set ?_ GE322.out) | exact HB.out)⟩
       ·
        rw [if_neg c33] at H
        have c33b0 : (t321 == 0) = false := beq_eq_false_iff_ne.mpr c33
        have c33b1 : (t321 != 0) = true := bne_iff_ne.mpr c33
        obtain rfl := Option.some.inj H
        have hnb62 := NB310_309.out
        have hnc62 := NB309_310.out
        have hnb63 := NB310_315.out
        have hnc63 := NB315_310.out
        have hcz64_0 : wr.cell? ⟨gb310, 0, none⟩ = some (.int .i64 a0_0) := (blk_cell BK310.out 0).trans rfl
        have hcz64_1 : wr.cell? ⟨gb310, 1, none⟩ = some (.int .i64 a0_1) := (blk_cell BK310.out 1).trans rfl
        have hcz64_2 : wr.cell? ⟨gb310, 2, none⟩ = some (.int .i64 a0_2) := (blk_cell BK310.out 2).trans rfl
        have hcz64_3 : wr.cell? ⟨gb310, 3, none⟩ = some (.int .i64 a0_3) := (blk_cell BK310.out 3).trans rfl
        have hcz64_4 : wr.cell? ⟨gb310, 4, none⟩ = some (.bool a0_4) := (blk_cell BK310.out 4).trans rfl
        have hfz64_0 := blk_frozen BK310.out 0
        have hfz64_1 := blk_frozen BK310.out 1
        have hfz64_2 := blk_frozen BK310.out 2
        have hfz64_3 := blk_frozen BK310.out 3
        have hfz64_4 := blk_frozen BK310.out 4
        have hnb65 := NB315_309.out
        have hnc65 := NB309_315.out
        have hcz66_0 : wr.cell? ⟨gb315, 0, none⟩ = some (.bool x316000_2) := (blk_cell BK315.out 0).trans rfl
        have hcz66_1 : wr.cell? ⟨gb315, 1, none⟩ = some (.int .i64 x316001_2) := (blk_cell BK315.out 1).trans rfl
        have hcz66_2 : wr.cell? ⟨gb315, 2, none⟩ = some (.int .i64 x316002_2) := (blk_cell BK315.out 2).trans rfl
        have hfz66_0 := blk_frozen BK315.out 0
        have hfz66_1 := blk_frozen BK315.out 1
        have hfz66_2 := blk_frozen BK315.out 2
        go_wp2_with (first | ((with_reducible refine gate_callee (f := 9) rfl ?_); refine goesL_ (some 58) rfl rfl Tryd.func9 (by kernel_rfl) rfl #[.agg #[.int .i64 a0_0, .int .i64 a0_1, .int .i64 a0_2, .int .i64 a0_3, .bool a0_4], .agg #[.bool x316000_2, .int .i64 x316001_2, .int .i64 x316002_2], .int .i64 a1, .int .i64 a1, .int .i64 a3] rfl (by (try simp only [List.map_toArray, List.map_cons, List.map_nil]); first | done | rfl | (simp only [List.length_drop, List.length_take]; rfl)) ?_; (with_reducible refine (pid_Control.calls k2 a0_0 a0_1 a0_2 a0_3 a0_4 x316000_2 x316001_2 x316002_2 a1 a1 a3 t317 t318 t319 t320 t321 _ A32.out).mono ?_); rintro e w67 ⟨rfl, hb⟩; refine ⟨_, rfl, ?_⟩; have n0_ := Aside0.mk (blk_below (g := gb309) (o := .cells #[.int .i64 a0_0, .int .i64 a0_1, .int .i64 a0_2, .int .i64 a0_3, .bool a0_4] 23 (0, 0)) (by (with_reducible repeat (first | refine blk_drewN ?_ _ | refine blk_drew ?_ | refine blk_alloc ?_ _)); exact BK309.out) hb); have n1_ := Aside0.mk (blk_below (g := gb310) (o := .cells #[.int .i64 a0_0, .int .i64 a0_1, .int .i64 a0_2, .int .i64 a0_3, .bool a0_4] 26 (0, 0)) (by (with_reducible repeat (first | refine blk_drewN ?_ _ | refine blk_drew ?_ | refine blk_alloc ?_ _)); exact BK310.out) hb); have n2_ := Aside0.mk (blk_below (g := gb315) (o := .cells #[.bool x316000_2, .int .i64 x316001_2, .int .i64 x316002_2] 28 (0, 0)) (by (with_reducible repeat (first | refine blk_drewN ?_ _ | refine blk_drew ?_ | refine blk_alloc ?_ _)); exact BK315.out) hb); have n3_ := Aside0.mk (below_step (by repeat (first | (with_reducible first | exact HB.out | apply below_alloc | apply pw_below_drewN | apply below_drew1 | refine below_set ?_ GE309.out | refine below_set ?_ GE310.out | refine below_set ?_ GE315.out) | exact HB.out)) hb); clear BK309; clear BK310; clear BK315; clear HB; have BK309 := n0_; have BK310 := n1_; have BK315 := n2_; have HB := n3_; clear n0_ n1_ n2_ n3_; (try clear hb); (try clear hb2); (try clear hk); (try clear hi)) | ((with_reducible refine gate_dst (N := 15) rfl ?_); (try (refine gate_guard (by rfl) ?_; dsimp only)); refine box_event ?hg (N := 15) ?hd (cs := #[.bool false, .int .i64 0, .int .i64 0]) (t := 28) ?hr ?_; (case hd => rfl); (case hg => rfl); (case hr => first | (go_simp; done) | (go_simp; rfl)); intro gb322 hg w68 hbox hb; have n0_ := Aside0.mk (blk_below (g := gb309) (o := .cells #[.int .i64 a0_0, .int .i64 a0_1, .int .i64 a0_2, .int .i64 a0_3, .bool a0_4] 23 (0, 0)) (by (with_reducible repeat (first | refine blk_drewN ?_ _ | refine blk_drew ?_ | refine blk_alloc ?_ _)); exact BK309.out) hb); have n1_ := Aside0.mk (blk_below (g := gb310) (o := .cells #[.int .i64 a0_0, .int .i64 a0_1, .int .i64 a0_2, .int .i64 a0_3, .bool a0_4] 26 (0, 0)) (by (with_reducible repeat (first | refine blk_drewN ?_ _ | refine blk_drew ?_ | refine blk_alloc ?_ _)); exact BK310.out) hb); have n2_ := Aside0.mk (blk_below (g := gb315) (o := .cells #[.bool x316000_2, .int .i64 x316001_2, .int .i64 x316002_2] 28 (0, 0)) (by (with_reducible repeat (first | refine blk_drewN ?_ _ | refine blk_drew ?_ | refine blk_alloc ?_ _)); exact BK315.out) hb); have n3_ := Aside0.mk (below_step (by repeat (first | (with_reducible first | exact HB.out | apply below_alloc | apply pw_below_drewN | apply below_drew1 | refine below_set ?_ GE309.out | refine below_set ?_ GE310.out | refine below_set ?_ GE315.out) | exact HB.out)) hb); have n4_ := Aside0.mk (hbox); have n5_ := Aside0.mk ((by rw [hg]; exact (below_size (by repeat (first | (with_reducible first | exact HB.out | apply below_alloc | apply pw_below_drewN | apply below_drew1 | refine below_set ?_ GE309.out | refine below_set ?_ GE310.out | refine below_set ?_ GE315.out) | exact HB.out))) : w.heap.size ≤ gb322)); have n6_ := Aside0.mk ((by rw [hg]; exact (below_size (by repeat (first | (with_reducible first | exact HB.out | apply below_alloc | apply pw_below_drewN | apply below_drew1 | refine below_set ?_ GE309.out | refine below_set ?_ GE310.out | refine below_set ?_ GE315.out) | exact HB.out))) : w.heap.size ≤ gb322)); have n7_ := Aside0.mk ((by rw [hg]; exact Nat.ne_of_lt (blk_lt (g := gb309) (o := .cells #[.int .i64 a0_0, .int .i64 a0_1, .int .i64 a0_2, .int .i64 a0_3, .bool a0_4] 23 (0, 0)) (by (with_reducible repeat (first | refine blk_drewN ?_ _ | refine blk_drew ?_ | refine blk_alloc ?_ _)); exact BK309.out)) : gb309 ≠ gb322)); have n8_ := Aside0.mk ((by rw [hg]; exact Nat.ne_of_gt (blk_lt (g := gb309) (o := .cells #[.int .i64 a0_0, .int .i64 a0_1, .int .i64 a0_2, .int .i64 a0_3, .bool a0_4] 23 (0, 0)) (by (with_reducible repeat (first | refine blk_drewN ?_ _ | refine blk_drew ?_ | refine blk_alloc ?_ _)); exact BK309.out)) : gb322 ≠ gb309)); have n9_ := Aside0.mk ((by rw [hg]; exact Nat.ne_of_lt (blk_lt (g := gb310) (o := .cells #[.int .i64 a0_0, .int .i64 a0_1, .int .i64 a0_2, .int .i64 a0_3, .bool a0_4] 26 (0, 0)) (by (with_reducible repeat (first | refine blk_drewN ?_ _ | refine blk_drew ?_ | refine blk_alloc ?_ _)); exact BK310.out)) : gb310 ≠ gb322)); have n10_ := Aside0.mk ((by rw [hg]; exact Nat.ne_of_gt (blk_lt (g := gb310) (o := .cells #[.int .i64 a0_0, .int .i64 a0_1, .int .i64 a0_2, .int .i64 a0_3, .bool a0_4] 26 (0, 0)) (by (with_reducible repeat (first | refine blk_drewN ?_ _ | refine blk_drew ?_ | refine blk_alloc ?_ _)); exact BK310.out)) : gb322 ≠ gb310)); have n11_ := Aside0.mk ((by rw [hg]; exact Nat.ne_of_lt (blk_lt (g := gb315) (o := .cells #[.bool x316000_2, .int .i64 x316001_2, .int .i64 x316002_2] 28 (0, 0)) (by (with_reducible repeat (first | refine blk_drewN ?_ _ | refine blk_drew ?_ | refine blk_alloc ?_ _)); exact BK315.out)) : gb315 ≠ gb322)); have n12_ := Aside0.mk ((by rw [hg]; exact Nat.ne_of_gt (blk_lt (g := gb315) (o := .cells #[.bool x316000_2, .int .i64 x316001_2, .int .i64 x316002_2] 28 (0, 0)) (by (with_reducible repeat (first | refine blk_drewN ?_ _ | refine blk_drew ?_ | refine blk_alloc ?_ _)); exact BK315.out)) : gb322 ≠ gb315)); clear BK309; clear BK310; clear BK315; clear HB; have BK309 := n0_; have BK310 := n1_; have BK315 := n2_; have HB := n3_; have BK322 := n4_; have GW322 := n5_; have GE322 := n6_; have NB309_322 := n7_; have NB322_309 := n8_; have NB310_322 := n9_; have NB322_310 := n10_; have NB315_322 := n11_; have NB322_315 := n12_; clear n0_ n1_ n2_ n3_ n4_ n5_ n6_ n7_ n8_ n9_ n10_ n11_ n12_; clear hb hbox hg; have hnb69 := NB322_309.out; have hnc69 := NB309_322.out; have hnb70 := NB322_310.out; have hnc70 := NB310_322.out; have hnb71 := NB322_315.out; have hnc71 := NB315_322.out; have hcz72_0 : w68.cell? ⟨gb322, 0, none⟩ = some (.bool false) := (blk_cell BK322.out 0).trans rfl; have hcz72_1 : w68.cell? ⟨gb322, 1, none⟩ = some (.int .i64 0) := (blk_cell BK322.out 1).trans rfl; have hcz72_2 : w68.cell? ⟨gb322, 2, none⟩ = some (.int .i64 0) := (blk_cell BK322.out 2).trans rfl; have hfz72_0 := blk_frozen BK322.out 0; have hfz72_1 := blk_frozen BK322.out 1; have hfz72_2 := blk_frozen BK322.out 2))
        go_ret
        exact ⟨by first | rfl | (simp [errW_none, errW_some] <;> rfl) | (simp [*, errW_none, errW_some] <;> rfl), by repeat (first | (with_reducible first | exact HB.out | apply below_alloc | apply pw_below_drewN | apply below_drew1 | refine below_set ?_ GE309.out | refine below_set ?_ GE310.out | refine below_set ?_ GE315.out | refine below_set ?_ GE322.out) | exact HB.out)⟩
      ·
       rw [if_neg c31] at H
       have c31b0 : decide (x14_2 < a4) = false := decide_eq_false c31
       clear c31
       replace H := Option.bind_eq_some_iff.mp H
       obtain ⟨t323, A730, H⟩ := H
       replace H : (some t323) = some r := H
       have A73 := Aside0.mk A730
       clear A730
       obtain rfl := Option.some.inj H
       go_wp2_with (first | ((with_reducible refine gate_callee (f := 7) rfl ?_); refine goesL_ (some 76) rfl rfl Tryd.func7 (by kernel_rfl) rfl #[] rfl (by (try simp only [List.map_toArray, List.map_cons, List.map_nil]); first | done | rfl | (simp only [List.length_drop, List.length_take]; rfl)) ?_; (with_reducible refine (plenumlaw20_awake.calls  t323 _ ?sideL A73.out).mono ?_); (case sideL => exact LaidT.below HL.out (by repeat (first | (with_reducible first | exact HB.out | apply below_alloc | apply pw_below_drewN | apply below_drew1 | refine below_set ?_ (Aside0.out (by assumption))) | exact HB.out))); rintro e w74 ⟨rfl, hb⟩; refine ⟨_, rfl, ?_⟩; have n0_ := Aside0.mk (blk_below (g := gb309) (o := .cells #[.int .i64 a0_0, .int .i64 a0_1, .int .i64 a0_2, .int .i64 a0_3, .bool a0_4] 23 (0, 0)) (by (with_reducible repeat (first | refine blk_drewN ?_ _ | refine blk_drew ?_ | refine blk_alloc ?_ _)); exact BK309.out) hb); have n1_ := Aside0.mk (blk_below (g := gb310) (o := .cells #[.int .i64 a0_0, .int .i64 a0_1, .int .i64 a0_2, .int .i64 a0_3, .bool a0_4] 26 (0, 0)) (by (with_reducible repeat (first | refine blk_drewN ?_ _ | refine blk_drew ?_ | refine blk_alloc ?_ _)); exact BK310.out) hb); have n2_ := Aside0.mk (blk_below (g := gb315) (o := .cells #[.bool x316000_2, .int .i64 x316001_2, .int .i64 x316002_2] 28 (0, 0)) (by (with_reducible repeat (first | refine blk_drewN ?_ _ | refine blk_drew ?_ | refine blk_alloc ?_ _)); exact BK315.out) hb); have n3_ := Aside0.mk (below_step (by repeat (first | (with_reducible first | exact HB.out | apply below_alloc | apply pw_below_drewN | apply below_drew1 | refine below_set ?_ GE309.out | refine below_set ?_ GE310.out | refine below_set ?_ GE315.out) | exact HB.out)) hb); clear BK309; clear BK310; clear BK315; clear HB; have BK309 := n0_; have BK310 := n1_; have BK315 := n2_; have HB := n3_; clear n0_ n1_ n2_ n3_; (try clear hb); (try clear hb2); (try clear hk); (try clear hi)))
       go_ret
       exact ⟨by first | rfl | (simp [errW_none, errW_some] <;> rfl) | (simp [*, errW_none, errW_some] <;> rfl), by repeat (first | (with_reducible first | exact HB.out | apply below_alloc | apply pw_below_drewN | apply below_drew1 | refine below_set ?_ GE309.out | refine below_set ?_ GE310.out | refine below_set ?_ GE315.out) | exact HB.out)⟩
/-- THE ONE PURE STATEMENT of plenumlaw20_PidTracks. -/
def plenumlaw20_PidTracks.Pure : Prop := ∀ (a0_0 : Int) (a0_1 : Int) (a0_2 : Int) (a0_3 : Int) (a0_4 : Bool) (a1 : Int) (a2 : Int) (a3 : Int) (a4 : Int), (Lit.int .i64 a0_0).wf = true → (Lit.int .i64 a0_1).wf = true → (Lit.int .i64 a0_2).wf = true → (Lit.int .i64 a0_3).wf = true → (Lit.int .i64 a1).wf = true → (Lit.int .i64 a2).wf = true → (Lit.int .i64 a3).wf = true → (Lit.int .i64 a4).wf = true → ∃ k, plenumlaw20_PidTracks.f k a0_0 a0_1 a0_2 a0_3 a0_4 a1 a2 a3 a4 = some true
theorem plenumlaw20_PidTracks.walk (P : plenumlaw20_PidTracks.Pure) (a0_0 : Int) (a0_1 : Int) (a0_2 : Int) (a0_3 : Int) (a0_4 : Bool) (a1 : Int) (a2 : Int) (a3 : Int) (a4 : Int) (w : World) (hL : LaidT w) (wa0_0 : (Lit.int .i64 a0_0).wf = true) (wa0_1 : (Lit.int .i64 a0_1).wf = true) (wa0_2 : (Lit.int .i64 a0_2).wf = true) (wa0_3 : (Lit.int .i64 a0_3).wf = true) (wa1 : (Lit.int .i64 a1).wf = true) (wa2 : (Lit.int .i64 a2).wf = true) (wa3 : (Lit.int .i64 a3).wf = true) (wa4 : (Lit.int .i64 a4).wf = true) :
 Calls Tryd.prog 6 #[.agg #[.int .i64 a0_0, .int .i64 a0_1, .int .i64 a0_2, .int .i64 a0_3, .bool a0_4], .int .i64 a1, .int .i64 a2, .int .i64 a3, .int .i64 a4] w fun e w' => e = .returned (.bool true) ∧ Below w.heap.size w w' := by
 obtain ⟨k, h⟩ := P a0_0 a0_1 a0_2 a0_3 a0_4 a1 a2 a3 a4 wa0_0 wa0_1 wa0_2 wa0_3 wa1 wa2 wa3 wa4
 refine (plenumlaw20_PidTracks.calls k a0_0 a0_1 a0_2 a0_3 a0_4 a1 a2 a3 a4 true w hL h).mono ?_
 rintro e w' ⟨rfl, hd⟩
 exact ⟨rfl, hd⟩
end Go.Proofs.YteigdhpchkkloaaDoor.PT
