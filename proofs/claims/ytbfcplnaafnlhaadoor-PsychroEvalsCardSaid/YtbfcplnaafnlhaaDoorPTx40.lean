-- Laid by hp.py (a program of this session's) through the kit's printer. (squeezed)
import Derived.Test.YtbfcplnaafnlhaaDoorPTx0
import Derived.Test.YtbfcplnaafnlhaaDoorLaid
import Derived.Test.YtbfcplnaafnlhaaDoorPTx12
import Derived.Test.YtbfcplnaafnlhaaDoorPTx14
namespace Go.Proofs.YtbfcplnaafnlhaaDoor.PT
open Go.RowKit Go.Proofs.YtbfcplnaafnlhaaDoorW.PrintWords Go.Proofs.YtbfcplnaafnlhaaDoorW.PrintLast Go.Proofs.YtbfcplnaafnlhaaDoorW.PrintMore
attribute [local go_sem] max2_int min2_int max_two min_two max_three min_three max_four min_four   -- for this text's walks alone
set_option linter.unusedVariables false
set_option linter.unusedSimpArgs false
/-! ### psychro_Eval: function 27 -/
mutual
def psychro_Eval.j0 : Nat → ByteArray → List Int → List (S37) → Bool → Option (Int × Int × Int)
 | 0, _, _, _, _ => none
 | k + 1, x0, x1, x2, x14 => if x14 = true then (some (0, 0, 3)) else (if (x1.length : Int) = 0 then (psychro_Eval.j1 k x0 x2 ((x2.length : Int) != 2)) else (psychro_Eval.j1 k x0 x2 true))
def psychro_Eval.j1 : Nat → ByteArray → List (S37) → Bool → Option (Int × Int × Int)
 | 0, _, _, _ => none
 | k + 1, x0, x2, x23 => if x23 = true then (some (0, 0, 1)) else (if 0 < (x2.length : Int) then (if ((rd_T37 x2 0).f0) = 1 then (if 1 < (x2.length : Int) then (psychro_Eval.j2 k x0 x2 (((rd_T37 x2 1).f0) != 1)) else (none)) else (psychro_Eval.j2 k x0 x2 true)) else (none))
def psychro_Eval.j2 : Nat → ByteArray → List (S37) → Bool → Option (Int × Int × Int)
 | 0, _, _, _ => none
 | k + 1, x0, x2, x36 => if x36 = true then (some (0, 0, 11)) else (if 0 < (x2.length : Int) then (if 1 < (x2.length : Int) then ((psychro_Ratio.f k ((rd_T37 x2 0).f1) ((rd_T37 x2 1).f1)).bind fun t314 => (if x0.toList = ([100, 101, 119, 112, 111, 105, 110, 116] : List UInt8) then ((psychro_Dew.f k t314).bind fun t315 => (some (1, t315, 0))) else ((psychro_Enthalpy.f k ((rd_T37 x2 0).f1) t314).bind fun t317 => (some (1, t317, 0))))) else (none)) else (none))
end
def psychro_Eval.f (k : Nat) (a0 : ByteArray) (l1 : List Int) (l2 : List (S37)) : Option (Int × Int × Int) := if a0.toList = ([101, 110, 116, 104, 97, 108, 112, 121] : List UInt8) then (psychro_Eval.j0 k a0 l1 l2 false) else (psychro_Eval.j0 k a0 l1 l2 (a0.toList != ([100, 101, 119, 112, 111, 105, 110, 116] : List UInt8)))
theorem psychro_Eval.mono_l : ∀ k, (∀ y0 y1 y2 y3, LeO (psychro_Eval.j0 k y0 y1 y2 y3) (psychro_Eval.j0 (k + 1) y0 y1 y2 y3)) ∧ (∀ y0 y1 y2, LeO (psychro_Eval.j1 k y0 y1 y2) (psychro_Eval.j1 (k + 1) y0 y1 y2)) ∧ (∀ y0 y1 y2, LeO (psychro_Eval.j2 k y0 y1 y2) (psychro_Eval.j2 (k + 1) y0 y1 y2))
 | 0 => ⟨fun _ _ _ _ r h => by simp [psychro_Eval.j0] at h, fun _ _ _ r h => by simp [psychro_Eval.j1] at h, fun _ _ _ r h => by simp [psychro_Eval.j2] at h⟩
 | k + 1 => by
  obtain ⟨ih0, ih1, ih2⟩ := psychro_Eval.mono_l k
  refine ⟨?_, ?_, ?_⟩
  ·
   intro y0 y1 y2 y3
   unfold psychro_Eval.j0
   repeat' first
   | (with_reducible exact ih0 _ _ _ _)
   | (with_reducible exact ih1 _ _ _)
   | (with_reducible exact ih2 _ _ _)
   | (with_reducible exact psychro_Dew.mono _ _)
   | (with_reducible exact psychro_Enthalpy.mono _ _ _)
   | (with_reducible exact psychro_Ratio.mono _ _ _)
   | (with_reducible exact LeO.refl _)
   | (with_reducible exact LeO.none _)
   | (with_reducible refine LeO.ite ?_ ?_)
   | (with_reducible refine LeO.bind ?_ (fun _ => ?_))
   | exact ih0 _ _ _ _
   | exact ih1 _ _ _
   | exact ih2 _ _ _
   | exact psychro_Dew.mono _ _
   | exact psychro_Enthalpy.mono _ _ _
   | exact psychro_Ratio.mono _ _ _
   | exact LeO.none _
   | refine LeO.ite ?_ ?_
   | refine LeO.bind ?_ (fun _ => ?_)
  ·
   intro y0 y1 y2
   unfold psychro_Eval.j1
   repeat' first
   | (with_reducible exact ih0 _ _ _ _)
   | (with_reducible exact ih1 _ _ _)
   | (with_reducible exact ih2 _ _ _)
   | (with_reducible exact psychro_Dew.mono _ _)
   | (with_reducible exact psychro_Enthalpy.mono _ _ _)
   | (with_reducible exact psychro_Ratio.mono _ _ _)
   | (with_reducible exact LeO.refl _)
   | (with_reducible exact LeO.none _)
   | (with_reducible refine LeO.ite ?_ ?_)
   | (with_reducible refine LeO.bind ?_ (fun _ => ?_))
   | exact ih0 _ _ _ _
   | exact ih1 _ _ _
   | exact ih2 _ _ _
   | exact psychro_Dew.mono _ _
   | exact psychro_Enthalpy.mono _ _ _
   | exact psychro_Ratio.mono _ _ _
   | exact LeO.none _
   | refine LeO.ite ?_ ?_
   | refine LeO.bind ?_ (fun _ => ?_)
  ·
   intro y0 y1 y2
   unfold psychro_Eval.j2
   repeat' first
   | (with_reducible exact ih0 _ _ _ _)
   | (with_reducible exact ih1 _ _ _)
   | (with_reducible exact ih2 _ _ _)
   | (with_reducible exact psychro_Dew.mono _ _)
   | (with_reducible exact psychro_Enthalpy.mono _ _ _)
   | (with_reducible exact psychro_Ratio.mono _ _ _)
   | (with_reducible exact LeO.refl _)
   | (with_reducible exact LeO.none _)
   | (with_reducible refine LeO.ite ?_ ?_)
   | (with_reducible refine LeO.bind ?_ (fun _ => ?_))
   | exact ih0 _ _ _ _
   | exact ih1 _ _ _
   | exact ih2 _ _ _
   | exact psychro_Dew.mono _ _
   | exact psychro_Enthalpy.mono _ _ _
   | exact psychro_Ratio.mono _ _ _
   | exact LeO.none _
   | refine LeO.ite ?_ ?_
   | refine LeO.bind ?_ (fun _ => ?_)
theorem psychro_Eval.mono : ∀ a0 a1 a2 k, LeO (psychro_Eval.f k a0 a1 a2) (psychro_Eval.f (k + 1) a0 a1 a2) := by
 intro a0 a1 a2 k
 obtain ⟨ih0, ih1, ih2⟩ := psychro_Eval.mono_l k
 unfold psychro_Eval.f
 repeat' first
  | (with_reducible exact ih0 _ _ _ _)
  | (with_reducible exact ih1 _ _ _)
  | (with_reducible exact ih2 _ _ _)
  | (with_reducible exact psychro_Dew.mono _ _)
  | (with_reducible exact psychro_Enthalpy.mono _ _ _)
  | (with_reducible exact psychro_Ratio.mono _ _ _)
  | (with_reducible exact LeO.refl _)
  | (with_reducible exact LeO.none _)
  | (with_reducible refine LeO.ite ?_ ?_)
  | (with_reducible refine LeO.bind ?_ (fun _ => ?_))
  | exact ih0 _ _ _ _
  | exact ih1 _ _ _
  | exact ih2 _ _ _
  | exact psychro_Dew.mono _ _
  | exact psychro_Enthalpy.mono _ _ _
  | exact psychro_Ratio.mono _ _ _
  | exact LeO.none _
  | refine LeO.ite ?_ ?_
  | refine LeO.bind ?_ (fun _ => ?_)
def psychro_Eval.T7 : Bool × List (List Nat × List Nat) := (true, [([], []), ([0], [0]), ([1], [1]), ([2], [2]), ([], []), ([4], [4]), ([5], [5]), ([6], [6]), ([3, 7], [3, 7]), ([8, 8, 0, 1, 2, 3, 4, 5, 6, 7, 8], [8])])
def psychro_Eval.B7 : List Nat := [0, 1, 3, 7, 0, 16, 48, 112, 255, 511]
theorem psychro_Eval.tab7 : rtab .any (opsOf Tryd.f27 7) = psychro_Eval.T7 := by kernel_rfl
theorem psychro_Eval.bits7 : waitsOk psychro_Eval.T7.2 psychro_Eval.B7 = true := by kernel_rfl
set_option maxHeartbeats 8000000 in
set_option maxRecDepth 100000 in
theorem psychro_Eval.calls (k : Nat) (a0 : ByteArray) (A1 : Option Addr) (c1 : Nat) (l1 : List Int) (A2 : Option Addr) (c2 : Nat) (l2 : List (S37)) (r1 : Int) (r2 : Int) (r3 : Int) (w : World) (hL : LaidT w) (hr1 : Kd.C (Kd.int .i64) w A1 l1.length l1) (hc1 : l1.length ≤ c1) (hr2 : Kd.C k37 w A2 l2.length l2) (hc2 : l2.length ≤ c2) (h : psychro_Eval.f k a0 l1 l2 = some (r1, r2, r3)) :
 Calls Tryd.prog 27 #[.string a0, .slice A1 l1.length c1, .slice A2 l2.length c2] w fun e w' => e = .returned (.tuple #[.agg #[.int .i64 r1, .int .i64 r2], .int .i64 r3]) ∧ Below w.heap.size w w' := by
 have HL := Aside0.mk hL
 have hu37 := Tryd.underlying37
 have HR1 := Aside0.mk hr1
 have HC1 := Aside0.mk hc1
 clear hr1 hc1
 have HR2 := Aside0.mk hr2
 have HC2 := Aside0.mk hc2
 clear hr2 hc2
 have HB := Aside0.mk (Below.refl w.heap.size w)
 have H : (if a0.toList = ([101, 110, 116, 104, 97, 108, 112, 121] : List UInt8) then (psychro_Eval.j0 k a0 l1 l2 false) else (psychro_Eval.j0 k a0 l1 l2 (a0.toList != ([100, 101, 119, 112, 111, 105, 110, 116] : List UInt8)))) = some (r1, r2, r3) := h
 clear h
 have HC4 := Aside0.mk H
 clear H
 go_enter Tryd.func27, Tryd.ntmps27
 go_upto_region 1 with (first | ((with_reducible refine gate_dst (N := 6) rfl ?_); (try (refine gate_guard (by rfl) ?_; dsimp only)); refine box_event ?hg (N := 6) ?hd (cs := #[.int .i64 0, .int .i64 0]) (t := 37) ?hr ?_; (case hd => rfl); (case hg => rfl); (case hr => first | (go_simp; done) | (go_simp; rfl)); intro gb309 hg w5 hbox hb; have n0_ := Aside0.mk (below_step (by repeat (first | (with_reducible first | exact HB.out | apply below_alloc | apply pw_below_drewN | apply below_drew1) | exact HB.out)) hb); have n1_ := Aside0.mk (hbox); have n2_ := Aside0.mk ((by rw [hg]; exact (below_size (by repeat (first | (with_reducible first | exact HB.out | apply below_alloc | apply pw_below_drewN | apply below_drew1) | exact HB.out))) : w.heap.size ≤ gb309)); have n3_ := Aside0.mk ((by rw [hg]; exact (below_size (by repeat (first | (with_reducible first | exact HB.out | apply below_alloc | apply pw_below_drewN | apply below_drew1) | exact HB.out))) : w.heap.size ≤ gb309)); clear HB; have HB := n0_; have BK309 := n1_; have GW309 := n2_; have GE309 := n3_; clear n0_ n1_ n2_ n3_; clear hb hbox hg))
 (try simp only [Act.put, List.setIfInBounds_toArray, List.set_cons_zero, List.set_cons_succ])
 go_cut [14] (fun v14 wc => ∃ (kq : Nat) (x14_3 : Bool), v14 = .bool x14_3 ∧ Aside0 (psychro_Eval.j0 kq a0 l1 l2 x14_3 = some (r1, r2, r3)) ∧ Aside0 (kq ≤ k) ∧ Aside0 (wc.heap[gb309]? = some (.cells #[.int .i64 0, .int .i64 0] 37 (0, 0))) ∧ Aside0 (Below w.heap.size w wc))
 case first =>
  have H := HC4.out
  clear HC4
  by_cases c6 : a0.toList = ([101, 110, 116, 104, 97, 108, 112, 121] : List UInt8)
  ·
   rw [if_pos c6] at H
   have c6b0 : (a0.toList == ([101, 110, 116, 104, 97, 108, 112, 121] : List UInt8)) = true := beq_iff_eq.mpr c6
   have c6b1 : (a0.toList != ([101, 110, 116, 104, 97, 108, 112, 121] : List UInt8)) = false := bne_eq_false_iff_eq.mpr c6
   clear c6
   (first | rw [c6b0] | (simp only [i64_w, i32_w]; rw [c6b0]) | skip)
   have H' := Aside0.mk H
   clear H
   go_wp2
   go_meet
   case rel => exact ⟨_, (false), (by first | rfl | (simp; done) | (simp [*]; done)), H', ⟨by first | omega | exact Nat.le_refl _⟩, ⟨by (with_reducible repeat (first | refine blk_drewN ?_ _ | refine blk_drew ?_ | refine blk_alloc ?_ _)); exact BK309.out⟩, ⟨by repeat (first | (with_reducible first | exact HB.out | apply below_alloc | apply pw_below_drewN | apply below_drew1 | refine below_set ?_ GE309.out) | exact HB.out)⟩⟩
  ·
   rw [if_neg c6] at H
   have c6b0 : (a0.toList == ([101, 110, 116, 104, 97, 108, 112, 121] : List UInt8)) = false := beq_eq_false_iff_ne.mpr c6
   have c6b1 : (a0.toList != ([101, 110, 116, 104, 97, 108, 112, 121] : List UInt8)) = true := bne_iff_ne.mpr c6
   (first | rw [c6b0] | (simp only [i64_w, i32_w]; rw [c6b0]) | skip)
   have H' := Aside0.mk H
   clear H
   go_wp2
   go_meet
   case rel => exact ⟨_, ((a0.toList != ([100, 101, 119, 112, 111, 105, 110, 116] : List UInt8))), (by first | rfl | (simp; done) | (simp [*]; done)), H', ⟨by first | omega | exact Nat.le_refl _⟩, ⟨by (with_reducible repeat (first | refine blk_drewN ?_ _ | refine blk_drew ?_ | refine blk_alloc ?_ _)); exact BK309.out⟩, ⟨by repeat (first | (with_reducible first | exact HB.out | apply below_alloc | apply pw_below_drewN | apply below_drew1 | refine below_set ?_ GE309.out) | exact HB.out)⟩⟩
 case rest =>
  clear HC4
  try clear c1
  try clear c2
  try clear p2
  try clear c6
  try clear c6b0
  try clear c6b1
  obtain ⟨kq, x14_3, rfl, HA, HJ3, BK309, HB⟩ := hcut
  cases kq with
  | zero => exact absurd HA.out (by simp [psychro_Eval.j0])
  | succ kj3 =>
   have H := HA.out
   clear HA
   simp only [psychro_Eval.j0] at H
   by_cases c7 : x14_3 = true
   ·
    subst c7
    have H1 : (some (0, 0, 3)) = some (r1, r2, r3) := by rw [if_pos rfl] at H; exact H
    clear H
    have H := H1
    clear H1
    simp only [Option.some.injEq, Prod.mk.injEq] at H
    obtain ⟨rfl, rfl, rfl⟩ := H
    have hcz8_0 : wc.cell? ⟨gb309, 0, none⟩ = some (.int .i64 0) := (blk_cell BK309.out 0).trans rfl
    have hcz8_1 : wc.cell? ⟨gb309, 1, none⟩ = some (.int .i64 0) := (blk_cell BK309.out 1).trans rfl
    have hfz8_0 := blk_frozen BK309.out 0
    have hfz8_1 := blk_frozen BK309.out 1
    go_wp2
    refine bodyPost_ret (results_ct rfl _ _ gb309 37 #[.int .i64 0, .int .i64 0] (0, 0) _ rfl (by (with_reducible repeat (first | refine blk_drewN ?_ _ | refine blk_drew ?_ | refine blk_alloc ?_ _)); refine blk_put (cs := #[.int .i64 0, .int .i64 0]) ?_ 1 _ rfl; (with_reducible repeat (first | refine blk_drewN ?_ _ | refine blk_drew ?_ | refine blk_alloc ?_ _)); refine blk_put (cs := #[.int .i64 0, .int .i64 0]) ?_ 0 _ rfl; (with_reducible repeat (first | refine blk_drewN ?_ _ | refine blk_drew ?_ | refine blk_alloc ?_ _)); exact BK309.out) Tryd.underlying37 rfl (by kernel_rfl)) rfl ?_
    exact ⟨by first | rfl | (simp [errW_none, errW_some] <;> rfl) | (simp [*, errW_none, errW_some] <;> rfl), by repeat (first | (with_reducible first | exact HB.out | apply below_alloc | apply pw_below_drewN | apply below_drew1 | refine below_set ?_ GE309.out) | exact HB.out)⟩
   ·
    replace c7 := Bool.eq_false_iff.mpr c7
    subst c7
    have H1 : (if (l1.length : Int) = 0 then (psychro_Eval.j1 kj3 a0 l2 ((l2.length : Int) != 2)) else (psychro_Eval.j1 kj3 a0 l2 true)) = some (r1, r2, r3) := by rw [if_neg (show ¬ (false = true) by decide)] at H; exact H
    clear H
    have H := H1
    clear H1
    have HC9 := Aside0.mk H
    clear H
    go_upto_region 3 with (fail)
    go_cut [23] (fun v23 wc => ∃ (kq : Nat) (x23_8 : Bool), v23 = .bool x23_8 ∧ Aside0 (psychro_Eval.j1 kq a0 l2 x23_8 = some (r1, r2, r3)) ∧ Aside0 (kq ≤ kj3) ∧ Aside0 (wc.heap[gb309]? = some (.cells #[.int .i64 0, .int .i64 0] 37 (0, 0))) ∧ Aside0 (Below w.heap.size w wc))
    case first =>
     have H := HC9.out
     clear HC9
     by_cases c10 : (l1.length : Int) = 0
     ·
      rw [if_pos c10] at H
      have c10b0 : ((l1.length : Int) == 0) = true := beq_iff_eq.mpr c10
      have c10b1 : ((l1.length : Int) != 0) = false := bne_eq_false_iff_eq.mpr c10
      clear c10
      (first | rw [c10b0] | (simp only [i64_w, i32_w]; rw [c10b0]) | skip)
      have H' := Aside0.mk H
      clear H
      go_wp2
      go_meet
      case rel => exact ⟨_, (((l2.length : Int) != 2)), (by first | rfl | (simp; done) | (simp [*]; done)), H', ⟨by have := HJ3.out; first | omega | exact Nat.le_refl _⟩, ⟨by (with_reducible repeat (first | refine blk_drewN ?_ _ | refine blk_drew ?_ | refine blk_alloc ?_ _)); exact BK309.out⟩, ⟨by repeat (first | (with_reducible first | exact HB.out | apply below_alloc | apply pw_below_drewN | apply below_drew1 | refine below_set ?_ GE309.out) | exact HB.out)⟩⟩
     ·
      rw [if_neg c10] at H
      have c10b0 : ((l1.length : Int) == 0) = false := beq_eq_false_iff_ne.mpr c10
      have c10b1 : ((l1.length : Int) != 0) = true := bne_iff_ne.mpr c10
      have c10b2 : ¬ (l1 = []) := fun h_ => c10 (by rw [h_]; rfl)
      (first | rw [c10b0] | (simp only [i64_w, i32_w]; rw [c10b0]) | skip)
      have H' := Aside0.mk H
      clear H
      go_wp2
      go_meet
      case rel => exact ⟨_, (true), (by first | rfl | (simp; done) | (simp [*]; done)), H', ⟨by have := HJ3.out; first | omega | exact Nat.le_refl _⟩, ⟨by (with_reducible repeat (first | refine blk_drewN ?_ _ | refine blk_drew ?_ | refine blk_alloc ?_ _)); exact BK309.out⟩, ⟨by repeat (first | (with_reducible first | exact HB.out | apply below_alloc | apply pw_below_drewN | apply below_drew1 | refine below_set ?_ GE309.out) | exact HB.out)⟩⟩
    case rest =>
     clear HC9
     try clear c1
     try clear c2
     try clear p2
     try clear c6
     try clear c6b0
     try clear c6b1
     try clear c7
     try clear c10
     try clear c10b0
     try clear c10b1
     try clear c10b2
     try clear hcz8_0
     try clear hcz8_1
     try clear hfz8_0
     try clear hfz8_1
     try clear p2
     obtain ⟨kq, x23_8, rfl, HA, HJ8, BK309, HB⟩ := hcut
     cases kq with
     | zero => exact absurd HA.out (by simp [psychro_Eval.j1])
     | succ kj8 =>
      have H := HA.out
      clear HA
      simp only [psychro_Eval.j1] at H
      by_cases c11 : x23_8 = true
      ·
       subst c11
       have H1 : (some (0, 0, 1)) = some (r1, r2, r3) := by rw [if_pos rfl] at H; exact H
       clear H
       have H := H1
       clear H1
       simp only [Option.some.injEq, Prod.mk.injEq] at H
       obtain ⟨rfl, rfl, rfl⟩ := H
       have hcz12_0 : wc.cell? ⟨gb309, 0, none⟩ = some (.int .i64 0) := (blk_cell BK309.out 0).trans rfl
       have hcz12_1 : wc.cell? ⟨gb309, 1, none⟩ = some (.int .i64 0) := (blk_cell BK309.out 1).trans rfl
       have hfz12_0 := blk_frozen BK309.out 0
       have hfz12_1 := blk_frozen BK309.out 1
       go_wp2
       refine bodyPost_ret (results_ct rfl _ _ gb309 37 #[.int .i64 0, .int .i64 0] (0, 0) _ rfl (by (with_reducible repeat (first | refine blk_drewN ?_ _ | refine blk_drew ?_ | refine blk_alloc ?_ _)); refine blk_put (cs := #[.int .i64 0, .int .i64 0]) ?_ 1 _ rfl; (with_reducible repeat (first | refine blk_drewN ?_ _ | refine blk_drew ?_ | refine blk_alloc ?_ _)); refine blk_put (cs := #[.int .i64 0, .int .i64 0]) ?_ 0 _ rfl; (with_reducible repeat (first | refine blk_drewN ?_ _ | refine blk_drew ?_ | refine blk_alloc ?_ _)); exact BK309.out) Tryd.underlying37 rfl (by kernel_rfl)) rfl ?_
       exact ⟨by first | rfl | (simp [errW_none, errW_some] <;> rfl) | (simp [*, errW_none, errW_some] <;> rfl), by repeat (first | (with_reducible first | exact HB.out | apply below_alloc | apply pw_below_drewN | apply below_drew1 | refine below_set ?_ GE309.out) | exact HB.out)⟩
      ·
       replace c11 := Bool.eq_false_iff.mpr c11
       subst c11
       have H1 : (if 0 < (l2.length : Int) then (if ((rd_T37 l2 0).f0) = 1 then (if 1 < (l2.length : Int) then (psychro_Eval.j2 kj8 a0 l2 (((rd_T37 l2 1).f0) != 1)) else (none)) else (psychro_Eval.j2 kj8 a0 l2 true)) else (none)) = some (r1, r2, r3) := by rw [if_neg (show ¬ (false = true) by decide)] at H; exact H
       clear H
       have H := H1
       clear H1
       have HC13 := Aside0.mk H
       clear H
       go_upto_region 5 with (fail)
       go_cut [36] (fun v36 wc => ∃ (kq : Nat) (x36_12 : Bool), v36 = .bool x36_12 ∧ Aside0 (psychro_Eval.j2 kq a0 l2 x36_12 = some (r1, r2, r3)) ∧ Aside0 (kq ≤ kj8) ∧ Aside0 (wc.heap[gb309]? = some (.cells #[.int .i64 0, .int .i64 0] 37 (0, 0))) ∧ Aside0 (Below w.heap.size w wc))
       case first =>
        have H := HC13.out
        clear HC13
        by_cases c14 : 0 < (l2.length : Int)
        ·
         rw [if_pos c14] at H
         have c14b0 : decide (0 < (l2.length : Int)) = true := decide_eq_true c14
         have c14b1 : decide (0 < l2.length) = true := decide_eq_true (by omega)
         clear c14
         (first | rw [c14b0] | (simp only [i64_w, i32_w]; rw [c14b0]) | skip)
         by_cases c15 : ((rd_T37 l2 0).f0) = 1
         ·
          rw [if_pos c15] at H
          have c15b0 : (((rd_T37 l2 0).f0) == 1) = true := beq_iff_eq.mpr c15
          have c15b1 : (((rd_T37 l2 0).f0) != 1) = false := bne_eq_false_iff_eq.mpr c15
          clear c15
          by_cases c16 : 1 < (l2.length : Int)
          ·
           rw [if_pos c16] at H
           have c16b0 : decide (1 < (l2.length : Int)) = true := decide_eq_true c16
           have c16b1 : decide (1 < l2.length) = true := decide_eq_true (by omega)
           clear c16
           have H' := Aside0.mk H
           clear H
           have p310 : 0 ≤ (0 : Int) := (by omega)
           have q310 : 0 < (l2.length : Int) := of_decide_eq_true (by first | (with_reducible assumption) | assumption)
           obtain ⟨ad310, e310, hx310_0, hx310_1⟩ := at_T37 HR2.out 0 p310 q310
           cases e310
           have qi310 : (0 < l2.length) = True := eq_true (by omega)
           (try rw [show ((0 : Int)).toNat = 0 from rfl] at hx310_0)
           (try rw [show 0 * 2 = 0 from rfl] at hx310_0)
           (try rw [Addr.add_zero'] at hx310_0)
           (try rw [show ((0 : Int)).toNat = 0 from rfl] at hx310_1)
           (try rw [show 0 * 2 = 0 from rfl] at hx310_1)
           (try rw [Addr.add_zero'] at hx310_1)
           replace hx310_0 := (HB.out.cell (World.block_lt_of_cell? w _ hx310_0)).trans hx310_0
           replace hx310_1 := (HB.out.cell (World.block_lt_of_cell? w _ hx310_1)).trans hx310_1
           replace p310 := eq_true p310
           replace q310 := eq_true q310
           have p311 : 0 ≤ (1 : Int) := (by omega)
           have q311 : 1 < (l2.length : Int) := of_decide_eq_true (by first | (with_reducible assumption) | assumption)
           obtain ⟨ad311, e311, hx311_0, hx311_1⟩ := at_T37 HR2.out 1 p311 q311
           obtain rfl : ad310 = ad311 := (by injection e311)
           (try simp only [show (1 : Int).toNat = 1 from rfl, Nat.reduceMul, Nat.reduceEqDiff, Go.Addr.add, ↓reduceIte] at hx311_0)
           (try simp only [show (1 : Int).toNat = 1 from rfl, Nat.reduceMul, Nat.reduceEqDiff, Go.Addr.add, ↓reduceIte] at hx311_1)
           have qi311 : (1 < l2.length) = True := eq_true (by omega)
           (try rw [show ((1 : Int)).toNat = 1 from rfl] at hx311_0)
           (try rw [show 1 * 2 = 2 from rfl] at hx311_0)
           (try rw [show ((1 : Int)).toNat = 1 from rfl] at hx311_1)
           (try rw [show 1 * 2 = 2 from rfl] at hx311_1)
           replace hx311_0 := (HB.out.cell (World.block_lt_of_cell? w _ hx311_0)).trans hx311_0
           replace hx311_1 := (HB.out.cell (World.block_lt_of_cell? w _ hx311_1)).trans hx311_1
           replace p311 := eq_true p311
           replace q311 := eq_true q311
           go_wp2
           go_meet
           case rel => exact ⟨_, ((((rd_T37 l2 1).f0) != 1)), (by first | rfl | (simp; done) | (simp [*]; done)), H', ⟨by have := HJ3.out; have := HJ8.out; first | omega | exact Nat.le_refl _⟩, ⟨by (with_reducible repeat (first | refine blk_drewN ?_ _ | refine blk_drew ?_ | refine blk_alloc ?_ _)); exact BK309.out⟩, ⟨by repeat (first | (with_reducible first | exact HB.out | apply below_alloc | apply pw_below_drewN | apply below_drew1 | refine below_set ?_ GE309.out) | exact HB.out)⟩⟩
          ·
           rw [if_neg c16] at H
           exact absurd H (by simp)
         ·
          rw [if_neg c15] at H
          have c15b0 : (((rd_T37 l2 0).f0) == 1) = false := beq_eq_false_iff_ne.mpr c15
          have c15b1 : (((rd_T37 l2 0).f0) != 1) = true := bne_iff_ne.mpr c15
          have H' := Aside0.mk H
          clear H
          have p310 : 0 ≤ (0 : Int) := (by omega)
          have q310 : 0 < (l2.length : Int) := of_decide_eq_true (by first | (with_reducible assumption) | assumption)
          obtain ⟨ad310, e310, hx310_0, hx310_1⟩ := at_T37 HR2.out 0 p310 q310
          cases e310
          have qi310 : (0 < l2.length) = True := eq_true (by omega)
          (try rw [show ((0 : Int)).toNat = 0 from rfl] at hx310_0)
          (try rw [show 0 * 2 = 0 from rfl] at hx310_0)
          (try rw [Addr.add_zero'] at hx310_0)
          (try rw [show ((0 : Int)).toNat = 0 from rfl] at hx310_1)
          (try rw [show 0 * 2 = 0 from rfl] at hx310_1)
          (try rw [Addr.add_zero'] at hx310_1)
          replace hx310_0 := (HB.out.cell (World.block_lt_of_cell? w _ hx310_0)).trans hx310_0
          replace hx310_1 := (HB.out.cell (World.block_lt_of_cell? w _ hx310_1)).trans hx310_1
          replace p310 := eq_true p310
          replace q310 := eq_true q310
          go_wp2
          go_meet
          case rel => exact ⟨_, (true), (by first | rfl | (simp; done) | (simp [*]; done)), H', ⟨by have := HJ3.out; have := HJ8.out; first | omega | exact Nat.le_refl _⟩, ⟨by (with_reducible repeat (first | refine blk_drewN ?_ _ | refine blk_drew ?_ | refine blk_alloc ?_ _)); exact BK309.out⟩, ⟨by repeat (first | (with_reducible first | exact HB.out | apply below_alloc | apply pw_below_drewN | apply below_drew1 | refine below_set ?_ GE309.out) | exact HB.out)⟩⟩
        ·
         rw [if_neg c14] at H
         exact absurd H (by simp)
       case rest =>
        clear HC13
        try clear c1
        try clear c2
        try clear p2
        try clear p3
        try clear q3
        try clear hx3
        try clear qi3
        try clear c6
        try clear c6b0
        try clear c6b1
        try clear c7
        try clear c10
        try clear c10b0
        try clear c10b1
        try clear c10b2
        try clear c11
        try clear c14
        try clear c14b0
        try clear c14b1
        try clear c15
        try clear c15b0
        try clear c15b1
        try clear c16
        try clear c16b0
        try clear c16b1
        try clear hcz12_0
        try clear hcz12_1
        try clear hcz8_0
        try clear hcz8_1
        try clear hfz12_0
        try clear hfz12_1
        try clear hfz8_0
        try clear hfz8_1
        try clear hx310_0
        try clear hx310_1
        try clear hx311_0
        try clear hx311_1
        try clear p2
        try clear p310
        try clear p311
        try clear q310
        try clear q311
        obtain ⟨kq, x36_12, rfl, HA, HJ12, BK309, HB⟩ := hcut
        cases kq with
        | zero => exact absurd HA.out (by simp [psychro_Eval.j2])
        | succ kj12 =>
         have H := HA.out
         clear HA
         simp only [psychro_Eval.j2] at H
         by_cases c17 : x36_12 = true
         ·
          subst c17
          have H1 : (some (0, 0, 11)) = some (r1, r2, r3) := by rw [if_pos rfl] at H; exact H
          clear H
          have H := H1
          clear H1
          simp only [Option.some.injEq, Prod.mk.injEq] at H
          obtain ⟨rfl, rfl, rfl⟩ := H
          have hcz18_0 : wc.cell? ⟨gb309, 0, none⟩ = some (.int .i64 0) := (blk_cell BK309.out 0).trans rfl
          have hcz18_1 : wc.cell? ⟨gb309, 1, none⟩ = some (.int .i64 0) := (blk_cell BK309.out 1).trans rfl
          have hfz18_0 := blk_frozen BK309.out 0
          have hfz18_1 := blk_frozen BK309.out 1
          go_wp2
          refine bodyPost_ret (results_ct rfl _ _ gb309 37 #[.int .i64 0, .int .i64 0] (0, 0) _ rfl (by (with_reducible repeat (first | refine blk_drewN ?_ _ | refine blk_drew ?_ | refine blk_alloc ?_ _)); refine blk_put (cs := #[.int .i64 0, .int .i64 0]) ?_ 1 _ rfl; (with_reducible repeat (first | refine blk_drewN ?_ _ | refine blk_drew ?_ | refine blk_alloc ?_ _)); refine blk_put (cs := #[.int .i64 0, .int .i64 0]) ?_ 0 _ rfl; (with_reducible repeat (first | refine blk_drewN ?_ _ | refine blk_drew ?_ | refine blk_alloc ?_ _)); exact BK309.out) Tryd.underlying37 rfl (by kernel_rfl)) rfl ?_
          exact ⟨by first | rfl | (simp [errW_none, errW_some] <;> rfl) | (simp [*, errW_none, errW_some] <;> rfl), by repeat (first | (with_reducible first | exact HB.out | apply below_alloc | apply pw_below_drewN | apply below_drew1 | refine below_set ?_ GE309.out) | exact HB.out)⟩
         ·
          replace c17 := Bool.eq_false_iff.mpr c17
          subst c17
          have H1 : (if 0 < (l2.length : Int) then (if 1 < (l2.length : Int) then ((psychro_Ratio.f kj12 ((rd_T37 l2 0).f1) ((rd_T37 l2 1).f1)).bind fun t314 => (if a0.toList = ([100, 101, 119, 112, 111, 105, 110, 116] : List UInt8) then ((psychro_Dew.f kj12 t314).bind fun t315 => (some (1, t315, 0))) else ((psychro_Enthalpy.f kj12 ((rd_T37 l2 0).f1) t314).bind fun t317 => (some (1, t317, 0))))) else (none)) else (none)) = some (r1, r2, r3) := by rw [if_neg (show ¬ (false = true) by decide)] at H; exact H
          clear H
          have H := H1
          clear H1
          by_cases c19 : 0 < (l2.length : Int)
          ·
           rw [if_pos c19] at H
           have c19b0 : decide (0 < (l2.length : Int)) = true := decide_eq_true c19
           have c19b1 : decide (0 < l2.length) = true := decide_eq_true (by omega)
           clear c19
           by_cases c20 : 1 < (l2.length : Int)
           ·
            rw [if_pos c20] at H
            have c20b0 : decide (1 < (l2.length : Int)) = true := decide_eq_true c20
            have c20b1 : decide (1 < l2.length) = true := decide_eq_true (by omega)
            clear c20
            replace H := Option.bind_eq_some_iff.mp H
            obtain ⟨t314, A210, H⟩ := H
            replace H : (if a0.toList = ([100, 101, 119, 112, 111, 105, 110, 116] : List UInt8) then ((psychro_Dew.f kj12 t314).bind fun t315 => (some (1, t315, 0))) else ((psychro_Enthalpy.f kj12 ((rd_T37 l2 0).f1) t314).bind fun t317 => (some (1, t317, 0)))) = some (r1, r2, r3) := H
            have A21 := Aside0.mk A210
            clear A210
            by_cases c22 : a0.toList = ([100, 101, 119, 112, 111, 105, 110, 116] : List UInt8)
            ·
             rw [if_pos c22] at H
             have c22b0 : (a0.toList == ([100, 101, 119, 112, 111, 105, 110, 116] : List UInt8)) = true := beq_iff_eq.mpr c22
             have c22b1 : (a0.toList != ([100, 101, 119, 112, 111, 105, 110, 116] : List UInt8)) = false := bne_eq_false_iff_eq.mpr c22
             clear c22
             replace H := Option.bind_eq_some_iff.mp H
             obtain ⟨t315, A230, H⟩ := H
             replace H : (some (1, t315, 0)) = some (r1, r2, r3) := H
             have A23 := Aside0.mk A230
             clear A230
             simp only [Option.some.injEq, Prod.mk.injEq] at H
             obtain ⟨rfl, rfl, rfl⟩ := H
             try go_wp2
             have n0_ := Aside0.mk (blk_drew BK309.out)
             have n1_ := Aside0.mk (below_drew1 HB.out)
             clear BK309
             clear HB
             have BK309 := n0_
             have HB := n1_
             clear n0_ n1_
             have p312 : 0 ≤ (0 : Int) := (by omega)
             have q312 : 0 < (l2.length : Int) := of_decide_eq_true (by first | (with_reducible assumption) | assumption)
             obtain ⟨ad312, e312, hx312_0, hx312_1⟩ := at_T37 HR2.out 0 p312 q312
             have hw312_1 := hx312_1
             (try rw [show ((0 : Int)).toNat = 0 from rfl] at hw312_1)
             (try rw [show 0 * 2 = 0 from rfl] at hw312_1)
             (try rw [Addr.add_zero'] at hw312_1)
             have hw312_0 := hx312_0
             (try rw [show ((0 : Int)).toNat = 0 from rfl] at hw312_0)
             (try rw [show 0 * 2 = 0 from rfl] at hw312_0)
             (try rw [Addr.add_zero'] at hw312_0)
             cases e312
             have qi312 : (0 < l2.length) = True := eq_true (by omega)
             (try rw [show ((0 : Int)).toNat = 0 from rfl] at hx312_0)
             (try rw [show 0 * 2 = 0 from rfl] at hx312_0)
             (try rw [Addr.add_zero'] at hx312_0)
             (try rw [show ((0 : Int)).toNat = 0 from rfl] at hx312_1)
             (try rw [show 0 * 2 = 0 from rfl] at hx312_1)
             (try rw [Addr.add_zero'] at hx312_1)
             replace hx312_0 := (HB.out.cell (World.block_lt_of_cell? w _ hx312_0)).trans hx312_0
             replace hx312_1 := (HB.out.cell (World.block_lt_of_cell? w _ hx312_1)).trans hx312_1
             replace p312 := eq_true p312
             replace q312 := eq_true q312
             have p313 : 0 ≤ (1 : Int) := (by omega)
             have q313 : 1 < (l2.length : Int) := of_decide_eq_true (by first | (with_reducible assumption) | assumption)
             obtain ⟨ad313, e313, hx313_0, hx313_1⟩ := at_T37 HR2.out 1 p313 q313
             have hw313_1 := hx313_1
             (try rw [show ((1 : Int)).toNat = 1 from rfl] at hw313_1)
             (try rw [show 1 * 2 = 2 from rfl] at hw313_1)
             (try simp only [Nat.reduceMul, Nat.reduceEqDiff, Go.Addr.add, ↓reduceIte] at hw313_1)
             have hw313_0 := hx313_0
             (try rw [show ((1 : Int)).toNat = 1 from rfl] at hw313_0)
             (try rw [show 1 * 2 = 2 from rfl] at hw313_0)
             (try simp only [Nat.reduceMul, Nat.reduceEqDiff, Go.Addr.add, ↓reduceIte] at hw313_0)
             obtain rfl : ad312 = ad313 := (by injection e313)
             (try simp only [show (1 : Int).toNat = 1 from rfl, Nat.reduceMul, Nat.reduceEqDiff, Go.Addr.add, ↓reduceIte] at hx313_0)
             (try simp only [show (1 : Int).toNat = 1 from rfl, Nat.reduceMul, Nat.reduceEqDiff, Go.Addr.add, ↓reduceIte] at hx313_1)
             have qi313 : (1 < l2.length) = True := eq_true (by omega)
             (try rw [show ((1 : Int)).toNat = 1 from rfl] at hx313_0)
             (try rw [show 1 * 2 = 2 from rfl] at hx313_0)
             (try rw [show ((1 : Int)).toNat = 1 from rfl] at hx313_1)
             (try rw [show 1 * 2 = 2 from rfl] at hx313_1)
             replace hx313_0 := (HB.out.cell (World.block_lt_of_cell? w _ hx313_0)).trans hx313_0
             replace hx313_1 := (HB.out.cell (World.block_lt_of_cell? w _ hx313_1)).trans hx313_1
             replace p313 := eq_true p313
             replace q313 := eq_true q313
             refine start_ (n := 10) (S := fun w' => w'.cell? ad312 = some (.int .i64 ((rd_T37 l2 0).f0)) ∧ w'.cell? ⟨ad312.block, ad312.off + 1, none⟩ = some (.int .i64 ((rd_T37 l2 0).f1)) ∧ w'.cell? ⟨ad312.block, ad312.off + 2, none⟩ = some (.int .i64 ((rd_T37 l2 1).f0)) ∧ w'.cell? ⟨ad312.block, ad312.off + 2 + 1, none⟩ = some (.int .i64 ((rd_T37 l2 1).f1))) (ds := []) #[false, false, false, false, false, false, false, false, false, false] (by kernel_rfl) rfl rfl ⟨((HB.out.cell (World.block_lt_of_cell? w _ hw312_0)).trans hw312_0), ((HB.out.cell (World.block_lt_of_cell? w _ hw312_1)).trans hw312_1), ((HB.out.cell (World.block_lt_of_cell? w _ hw313_0)).trans hw313_0), ((HB.out.cell (World.block_lt_of_cell? w _ hw313_1)).trans hw313_1)⟩ (fun hHeld => ?_); refine with_tabW psychro_Eval.tab7 psychro_Eval.bits7 (fun HT_ HW_ => ?_)
             generalize wc.drew = w24 at BK309 HB hx312_0 hx312_1 hx313_0 hx313_1 hHeld ⊢
             refine pure_ (i := 0) (N := some 38) (v := ?_) (a' := ?_) #[true, false, false, false, false, false, false, false, false, false] rfl rfl (any_of HT_.out (by kernel_rfl)) (fun _ _ _ h => h) (Or.inl ⟨by rfl, ?_⟩) ?_ ?_
             rotate_left
             ·
              intro w'
              go_simp
              with_reducible rfl
             rotate_left
             ·
              simp only [Act.put, List.setIfInBounds_toArray, List.set_cons_zero, List.set_cons_succ, i64_w, i32_w]
              rfl
             refine pure_ (i := 1) (N := some 39) (v := ?_) (a' := ?_) #[true, true, false, false, false, false, false, false, false, false] rfl rfl (any_of HT_.out (by kernel_rfl)) (fun _ _ _ h => h) (Or.inl ⟨by rfl, ?_⟩) ?_ ?_
             rotate_left
             ·
              intro w'
              go_simp
              with_reducible rfl
             rotate_left
             ·
              simp only [Act.put, List.setIfInBounds_toArray, List.set_cons_zero, List.set_cons_succ, i64_w, i32_w]
              rfl
             refine pure_ (i := 2) (N := some 40) (v := ?_) (a' := ?_) #[true, true, true, false, false, false, false, false, false, false] rfl rfl (any_of HT_.out (by kernel_rfl)) (fun _ _ _ h => h) (Or.inl ⟨by rfl, ?_⟩) ?_ ?_
             rotate_left
             ·
              intro w'
              go_simp
              with_reducible rfl
             rotate_left
             ·
              simp only [Act.put, List.setIfInBounds_toArray, List.set_cons_zero, List.set_cons_succ, i64_w, i32_w]
              rfl
             refine pure_ (i := 4) (N := some 42) (v := ?_) (a' := ?_) #[true, true, true, false, true, false, false, false, false, false] rfl rfl (any_of HT_.out (by kernel_rfl)) (fun _ _ _ h => h) (Or.inl ⟨by rfl, ?_⟩) ?_ ?_
             rotate_left
             ·
              intro w'
              go_simp
              with_reducible rfl
             rotate_left
             ·
              simp only [Act.put, List.setIfInBounds_toArray, List.set_cons_zero, List.set_cons_succ, i64_w, i32_w]
              rfl
             refine pure_ (i := 5) (N := some 43) (v := ?_) (a' := ?_) #[true, true, true, false, true, true, false, false, false, false] rfl rfl (any_of HT_.out (by kernel_rfl)) (fun _ _ _ h => h) (Or.inl ⟨by rfl, ?_⟩) ?_ ?_
             rotate_left
             ·
              intro w'
              go_simp
              with_reducible rfl
             rotate_left
             ·
              simp only [Act.put, List.setIfInBounds_toArray, List.set_cons_zero, List.set_cons_succ, i64_w, i32_w]
              rfl
             refine pure_ (i := 6) (N := some 44) (v := ?_) (a' := ?_) #[true, true, true, false, true, true, true, false, false, false] rfl rfl (any_of HT_.out (by kernel_rfl)) (fun _ _ _ h => h) (Or.inl ⟨by rfl, ?_⟩) ?_ ?_
             rotate_left
             ·
              intro w'
              go_simp
              with_reducible rfl
             rotate_left
             ·
              simp only [Act.put, List.setIfInBounds_toArray, List.set_cons_zero, List.set_cons_succ, i64_w, i32_w]
              rfl
             refine take_ (i := 3) (N := some 41) (v := ?_) (a' := ?_) #[true, true, true, true, true, true, true, false, false, false] rfl rfl (take_ofW HT_.out HW_.out (by kernel_rfl)) (fun _ _ _ h => h) (Or.inl ⟨by rfl, ?_⟩) hHeld ?_ ?_
             rotate_left
             ·
              rintro w' ⟨s0, s1, s2, s3⟩
              go_simp
              with_reducible rfl
             rotate_left
             ·
              simp only [Act.put, List.setIfInBounds_toArray, List.set_cons_zero, List.set_cons_succ, i64_w, i32_w]
              rfl
             refine take_ (i := 7) (N := some 45) (v := ?_) (a' := ?_) #[true, true, true, true, true, true, true, true, false, false] rfl rfl (take_ofW HT_.out HW_.out (by kernel_rfl)) (fun _ _ _ h => h) (Or.inl ⟨by rfl, ?_⟩) hHeld ?_ ?_
             rotate_left
             ·
              rintro w' ⟨s0, s1, s2, s3⟩
              go_simp
              with_reducible rfl
             rotate_left
             ·
              simp only [Act.put, List.setIfInBounds_toArray, List.set_cons_zero, List.set_cons_succ, i64_w, i32_w]
              rfl
             refine one_ (i := 8) (N := some 46) #[true, true, true, true, true, true, true, true, true, false] rfl rfl (one_of HT_.out (by kernel_rfl)) (by decide) (fun K hK => ?_)
             refine goes_ Tryd.func14 (by kernel_rfl) rfl #[.int .i64 ((rd_T37 l2 0).f1), .int .i64 ((rd_T37 l2 1).f1)] (by rfl) rfl rfl (by (try simp only [List.map_toArray, List.map_cons, List.map_nil]); first | done | rfl | (simp only [List.length_drop, List.length_take]; rfl)) ?_
             with_reducible refine (psychro_Ratio.calls kj12 ((rd_T37 l2 0).f1) ((rd_T37 l2 1).f1) t314 _ ?sideL A21.out).mono ?_
             (case sideL => exact LaidT.below HL.out (by repeat (first | (with_reducible first | exact HB.out | apply below_alloc | apply pw_below_drewN | apply below_drew1) | exact HB.out)))
             rintro e w25 ⟨rfl, hb⟩
             refine ⟨_, rfl, ?_⟩
             have n0_ := Aside0.mk (blk_below (g := gb309) (o := .cells #[.int .i64 0, .int .i64 0] 37 (0, 0)) (by (with_reducible repeat (first | refine blk_drewN ?_ _ | refine blk_drew ?_ | refine blk_alloc ?_ _)); exact BK309.out) hb)
             have n1_ := Aside0.mk (below_step (by repeat (first | (with_reducible first | exact HB.out | apply below_alloc | apply pw_below_drewN | apply below_drew1 | refine below_set ?_ GE309.out) | exact HB.out)) hb)
             clear BK309
             clear HB
             have BK309 := n0_
             have HB := n1_
             clear n0_ n1_
             (try clear hb)
             (try clear hb2)
             (try clear hk)
             (try clear hi)
             refine hK.out _ _ ⟨((HB.out.cell (World.block_lt_of_cell? w _ hw312_0)).trans hw312_0), ((HB.out.cell (World.block_lt_of_cell? w _ hw312_1)).trans hw312_1), ((HB.out.cell (World.block_lt_of_cell? w _ hw313_0)).trans hw313_0), ((HB.out.cell (World.block_lt_of_cell? w _ hw313_1)).trans hw313_1)⟩ (fun hHeld => ?_)
             clear hK K
             refine norm_ (a' := ?_) ?_ ?_
             rotate_left
             ·
              show Act.put _ (some 46) _ = _
              simp only [Act.put, List.setIfInBounds_toArray, List.set_cons_zero, List.set_cons_succ, i64_w, i32_w]
              rfl
             refine pure_ (i := 9) (N := some 8) (v := ?_) (a' := ?_) #[true, true, true, true, true, true, true, true, true, true] rfl rfl (any_of HT_.out (by kernel_rfl)) (fun _ _ _ h => h) (Or.inl ⟨by rfl, ?_⟩) ?_ ?_
             rotate_left
             ·
              intro w'
              go_simp
              with_reducible rfl
             rotate_left
             ·
              simp only [Act.put, List.setIfInBounds_toArray, List.set_cons_zero, List.set_cons_succ, i64_w, i32_w]
              rfl
             refine done_ (done_of HT_.out (by kernel_rfl)) ?_
             try go_wp2_with (first | ((with_reducible refine gate_callee (f := 13) rfl ?_); refine goesL_ (some 50) rfl rfl Tryd.func13 (by kernel_rfl) rfl #[.int .i64 t314] rfl (by (try simp only [List.map_toArray, List.map_cons, List.map_nil]); first | done | rfl | (simp only [List.length_drop, List.length_take]; rfl)) ?_; (with_reducible refine (psychro_Dew.calls kj12 t314 t315 _ ?sideL A23.out).mono ?_); (case sideL => exact LaidT.below HL.out (by repeat (first | (with_reducible first | exact HB.out | apply below_alloc | apply pw_below_drewN | apply below_drew1) | exact HB.out))); rintro e w26 ⟨rfl, hb⟩; refine ⟨_, rfl, ?_⟩; have n0_ := Aside0.mk (blk_below (g := gb309) (o := .cells #[.int .i64 0, .int .i64 0] 37 (0, 0)) (by (with_reducible repeat (first | refine blk_drewN ?_ _ | refine blk_drew ?_ | refine blk_alloc ?_ _)); exact BK309.out) hb); have n1_ := Aside0.mk (below_step (by repeat (first | (with_reducible first | exact HB.out | apply below_alloc | apply pw_below_drewN | apply below_drew1 | refine below_set ?_ GE309.out) | exact HB.out)) hb); clear BK309; clear HB; have BK309 := n0_; have HB := n1_; clear n0_ n1_; (try clear hb); (try clear hb2); (try clear hk); (try clear hi); have hcz27_0 : w26.cell? ⟨gb309, 0, none⟩ = some (.int .i64 0) := (blk_cell BK309.out 0).trans rfl; have hcz27_1 : w26.cell? ⟨gb309, 1, none⟩ = some (.int .i64 0) := (blk_cell BK309.out 1).trans rfl; have hfz27_0 := blk_frozen BK309.out 0; have hfz27_1 := blk_frozen BK309.out 1))
             refine bodyPost_ret (results_ct rfl _ _ gb309 37 #[.int .i64 1, .int .i64 t315] (0, 0) _ rfl (by (with_reducible repeat (first | refine blk_drewN ?_ _ | refine blk_drew ?_ | refine blk_alloc ?_ _)); refine blk_put (cs := #[.int .i64 1, .int .i64 0]) ?_ 1 _ rfl; (with_reducible repeat (first | refine blk_drewN ?_ _ | refine blk_drew ?_ | refine blk_alloc ?_ _)); refine blk_put (cs := #[.int .i64 0, .int .i64 0]) ?_ 0 _ rfl; (with_reducible repeat (first | refine blk_drewN ?_ _ | refine blk_drew ?_ | refine blk_alloc ?_ _)); exact BK309.out) Tryd.underlying37 rfl (by kernel_rfl)) rfl ?_
             exact ⟨by first | rfl | (simp [errW_none, errW_some] <;> rfl) | (simp [*, errW_none, errW_some] <;> rfl), by repeat (first | (with_reducible first | exact HB.out | apply below_alloc | apply pw_below_drewN | apply below_drew1 | refine below_set ?_ GE309.out) | exact HB.out)⟩
            ·
             rw [if_neg c22] at H
             have c22b0 : (a0.toList == ([100, 101, 119, 112, 111, 105, 110, 116] : List UInt8)) = false := beq_eq_false_iff_ne.mpr c22
             have c22b1 : (a0.toList != ([100, 101, 119, 112, 111, 105, 110, 116] : List UInt8)) = true := bne_iff_ne.mpr c22
             replace H := Option.bind_eq_some_iff.mp H
             obtain ⟨t317, A280, H⟩ := H
             replace H : (some (1, t317, 0)) = some (r1, r2, r3) := H
             have A28 := Aside0.mk A280
             clear A280
             simp only [Option.some.injEq, Prod.mk.injEq] at H
             obtain ⟨rfl, rfl, rfl⟩ := H
             try go_wp2
             have n0_ := Aside0.mk (blk_drew BK309.out)
             have n1_ := Aside0.mk (below_drew1 HB.out)
             clear BK309
             clear HB
             have BK309 := n0_
             have HB := n1_
             clear n0_ n1_
             have p312 : 0 ≤ (0 : Int) := (by omega)
             have q312 : 0 < (l2.length : Int) := of_decide_eq_true (by first | (with_reducible assumption) | assumption)
             obtain ⟨ad312, e312, hx312_0, hx312_1⟩ := at_T37 HR2.out 0 p312 q312
             have hw312_1 := hx312_1
             (try rw [show ((0 : Int)).toNat = 0 from rfl] at hw312_1)
             (try rw [show 0 * 2 = 0 from rfl] at hw312_1)
             (try rw [Addr.add_zero'] at hw312_1)
             have hw312_0 := hx312_0
             (try rw [show ((0 : Int)).toNat = 0 from rfl] at hw312_0)
             (try rw [show 0 * 2 = 0 from rfl] at hw312_0)
             (try rw [Addr.add_zero'] at hw312_0)
             cases e312
             have qi312 : (0 < l2.length) = True := eq_true (by omega)
             (try rw [show ((0 : Int)).toNat = 0 from rfl] at hx312_0)
             (try rw [show 0 * 2 = 0 from rfl] at hx312_0)
             (try rw [Addr.add_zero'] at hx312_0)
             (try rw [show ((0 : Int)).toNat = 0 from rfl] at hx312_1)
             (try rw [show 0 * 2 = 0 from rfl] at hx312_1)
             (try rw [Addr.add_zero'] at hx312_1)
             replace hx312_0 := (HB.out.cell (World.block_lt_of_cell? w _ hx312_0)).trans hx312_0
             replace hx312_1 := (HB.out.cell (World.block_lt_of_cell? w _ hx312_1)).trans hx312_1
             replace p312 := eq_true p312
             replace q312 := eq_true q312
             have p313 : 0 ≤ (1 : Int) := (by omega)
             have q313 : 1 < (l2.length : Int) := of_decide_eq_true (by first | (with_reducible assumption) | assumption)
             obtain ⟨ad313, e313, hx313_0, hx313_1⟩ := at_T37 HR2.out 1 p313 q313
             have hw313_1 := hx313_1
             (try rw [show ((1 : Int)).toNat = 1 from rfl] at hw313_1)
             (try rw [show 1 * 2 = 2 from rfl] at hw313_1)
             (try simp only [Nat.reduceMul, Nat.reduceEqDiff, Go.Addr.add, ↓reduceIte] at hw313_1)
             have hw313_0 := hx313_0
             (try rw [show ((1 : Int)).toNat = 1 from rfl] at hw313_0)
             (try rw [show 1 * 2 = 2 from rfl] at hw313_0)
             (try simp only [Nat.reduceMul, Nat.reduceEqDiff, Go.Addr.add, ↓reduceIte] at hw313_0)
             obtain rfl : ad312 = ad313 := (by injection e313)
             (try simp only [show (1 : Int).toNat = 1 from rfl, Nat.reduceMul, Nat.reduceEqDiff, Go.Addr.add, ↓reduceIte] at hx313_0)
             (try simp only [show (1 : Int).toNat = 1 from rfl, Nat.reduceMul, Nat.reduceEqDiff, Go.Addr.add, ↓reduceIte] at hx313_1)
             have qi313 : (1 < l2.length) = True := eq_true (by omega)
             (try rw [show ((1 : Int)).toNat = 1 from rfl] at hx313_0)
             (try rw [show 1 * 2 = 2 from rfl] at hx313_0)
             (try rw [show ((1 : Int)).toNat = 1 from rfl] at hx313_1)
             (try rw [show 1 * 2 = 2 from rfl] at hx313_1)
             replace hx313_0 := (HB.out.cell (World.block_lt_of_cell? w _ hx313_0)).trans hx313_0
             replace hx313_1 := (HB.out.cell (World.block_lt_of_cell? w _ hx313_1)).trans hx313_1
             replace p313 := eq_true p313
             replace q313 := eq_true q313
             refine start_ (n := 10) (S := fun w' => w'.cell? ad312 = some (.int .i64 ((rd_T37 l2 0).f0)) ∧ w'.cell? ⟨ad312.block, ad312.off + 1, none⟩ = some (.int .i64 ((rd_T37 l2 0).f1)) ∧ w'.cell? ⟨ad312.block, ad312.off + 2, none⟩ = some (.int .i64 ((rd_T37 l2 1).f0)) ∧ w'.cell? ⟨ad312.block, ad312.off + 2 + 1, none⟩ = some (.int .i64 ((rd_T37 l2 1).f1))) (ds := []) #[false, false, false, false, false, false, false, false, false, false] (by kernel_rfl) rfl rfl ⟨((HB.out.cell (World.block_lt_of_cell? w _ hw312_0)).trans hw312_0), ((HB.out.cell (World.block_lt_of_cell? w _ hw312_1)).trans hw312_1), ((HB.out.cell (World.block_lt_of_cell? w _ hw313_0)).trans hw313_0), ((HB.out.cell (World.block_lt_of_cell? w _ hw313_1)).trans hw313_1)⟩ (fun hHeld => ?_); refine with_tabW psychro_Eval.tab7 psychro_Eval.bits7 (fun HT_ HW_ => ?_)
             generalize wc.drew = w29 at BK309 HB hx312_0 hx312_1 hx313_0 hx313_1 hHeld ⊢
             refine pure_ (i := 0) (N := some 38) (v := ?_) (a' := ?_) #[true, false, false, false, false, false, false, false, false, false] rfl rfl (any_of HT_.out (by kernel_rfl)) (fun _ _ _ h => h) (Or.inl ⟨by rfl, ?_⟩) ?_ ?_
             rotate_left
             ·
              intro w'
              go_simp
              with_reducible rfl
             rotate_left
             ·
              simp only [Act.put, List.setIfInBounds_toArray, List.set_cons_zero, List.set_cons_succ, i64_w, i32_w]
              rfl
             refine pure_ (i := 1) (N := some 39) (v := ?_) (a' := ?_) #[true, true, false, false, false, false, false, false, false, false] rfl rfl (any_of HT_.out (by kernel_rfl)) (fun _ _ _ h => h) (Or.inl ⟨by rfl, ?_⟩) ?_ ?_
             rotate_left
             ·
              intro w'
              go_simp
              with_reducible rfl
             rotate_left
             ·
              simp only [Act.put, List.setIfInBounds_toArray, List.set_cons_zero, List.set_cons_succ, i64_w, i32_w]
              rfl
             refine pure_ (i := 2) (N := some 40) (v := ?_) (a' := ?_) #[true, true, true, false, false, false, false, false, false, false] rfl rfl (any_of HT_.out (by kernel_rfl)) (fun _ _ _ h => h) (Or.inl ⟨by rfl, ?_⟩) ?_ ?_
             rotate_left
             ·
              intro w'
              go_simp
              with_reducible rfl
             rotate_left
             ·
              simp only [Act.put, List.setIfInBounds_toArray, List.set_cons_zero, List.set_cons_succ, i64_w, i32_w]
              rfl
             refine pure_ (i := 4) (N := some 42) (v := ?_) (a' := ?_) #[true, true, true, false, true, false, false, false, false, false] rfl rfl (any_of HT_.out (by kernel_rfl)) (fun _ _ _ h => h) (Or.inl ⟨by rfl, ?_⟩) ?_ ?_
             rotate_left
             ·
              intro w'
              go_simp
              with_reducible rfl
             rotate_left
             ·
              simp only [Act.put, List.setIfInBounds_toArray, List.set_cons_zero, List.set_cons_succ, i64_w, i32_w]
              rfl
             refine pure_ (i := 5) (N := some 43) (v := ?_) (a' := ?_) #[true, true, true, false, true, true, false, false, false, false] rfl rfl (any_of HT_.out (by kernel_rfl)) (fun _ _ _ h => h) (Or.inl ⟨by rfl, ?_⟩) ?_ ?_
             rotate_left
             ·
              intro w'
              go_simp
              with_reducible rfl
             rotate_left
             ·
              simp only [Act.put, List.setIfInBounds_toArray, List.set_cons_zero, List.set_cons_succ, i64_w, i32_w]
              rfl
             refine pure_ (i := 6) (N := some 44) (v := ?_) (a' := ?_) #[true, true, true, false, true, true, true, false, false, false] rfl rfl (any_of HT_.out (by kernel_rfl)) (fun _ _ _ h => h) (Or.inl ⟨by rfl, ?_⟩) ?_ ?_
             rotate_left
             ·
              intro w'
              go_simp
              with_reducible rfl
             rotate_left
             ·
              simp only [Act.put, List.setIfInBounds_toArray, List.set_cons_zero, List.set_cons_succ, i64_w, i32_w]
              rfl
             refine take_ (i := 3) (N := some 41) (v := ?_) (a' := ?_) #[true, true, true, true, true, true, true, false, false, false] rfl rfl (take_ofW HT_.out HW_.out (by kernel_rfl)) (fun _ _ _ h => h) (Or.inl ⟨by rfl, ?_⟩) hHeld ?_ ?_
             rotate_left
             ·
              rintro w' ⟨s0, s1, s2, s3⟩
              go_simp
              with_reducible rfl
             rotate_left
             ·
              simp only [Act.put, List.setIfInBounds_toArray, List.set_cons_zero, List.set_cons_succ, i64_w, i32_w]
              rfl
             refine take_ (i := 7) (N := some 45) (v := ?_) (a' := ?_) #[true, true, true, true, true, true, true, true, false, false] rfl rfl (take_ofW HT_.out HW_.out (by kernel_rfl)) (fun _ _ _ h => h) (Or.inl ⟨by rfl, ?_⟩) hHeld ?_ ?_
             rotate_left
             ·
              rintro w' ⟨s0, s1, s2, s3⟩
              go_simp
              with_reducible rfl
             rotate_left
             ·
              simp only [Act.put, List.setIfInBounds_toArray, List.set_cons_zero, List.set_cons_succ, i64_w, i32_w]
              rfl
             refine one_ (i := 8) (N := some 46) #[true, true, true, true, true, true, true, true, true, false] rfl rfl (one_of HT_.out (by kernel_rfl)) (by decide) (fun K hK => ?_)
             refine goes_ Tryd.func14 (by kernel_rfl) rfl #[.int .i64 ((rd_T37 l2 0).f1), .int .i64 ((rd_T37 l2 1).f1)] (by rfl) rfl rfl (by (try simp only [List.map_toArray, List.map_cons, List.map_nil]); first | done | rfl | (simp only [List.length_drop, List.length_take]; rfl)) ?_
             with_reducible refine (psychro_Ratio.calls kj12 ((rd_T37 l2 0).f1) ((rd_T37 l2 1).f1) t314 _ ?sideL A21.out).mono ?_
             (case sideL => exact LaidT.below HL.out (by repeat (first | (with_reducible first | exact HB.out | apply below_alloc | apply pw_below_drewN | apply below_drew1) | exact HB.out)))
             rintro e w30 ⟨rfl, hb⟩
             refine ⟨_, rfl, ?_⟩
             have n0_ := Aside0.mk (blk_below (g := gb309) (o := .cells #[.int .i64 0, .int .i64 0] 37 (0, 0)) (by (with_reducible repeat (first | refine blk_drewN ?_ _ | refine blk_drew ?_ | refine blk_alloc ?_ _)); exact BK309.out) hb)
             have n1_ := Aside0.mk (below_step (by repeat (first | (with_reducible first | exact HB.out | apply below_alloc | apply pw_below_drewN | apply below_drew1 | refine below_set ?_ GE309.out) | exact HB.out)) hb)
             clear BK309
             clear HB
             have BK309 := n0_
             have HB := n1_
             clear n0_ n1_
             (try clear hb)
             (try clear hb2)
             (try clear hk)
             (try clear hi)
             refine hK.out _ _ ⟨((HB.out.cell (World.block_lt_of_cell? w _ hw312_0)).trans hw312_0), ((HB.out.cell (World.block_lt_of_cell? w _ hw312_1)).trans hw312_1), ((HB.out.cell (World.block_lt_of_cell? w _ hw313_0)).trans hw313_0), ((HB.out.cell (World.block_lt_of_cell? w _ hw313_1)).trans hw313_1)⟩ (fun hHeld => ?_)
             clear hK K
             refine norm_ (a' := ?_) ?_ ?_
             rotate_left
             ·
              show Act.put _ (some 46) _ = _
              simp only [Act.put, List.setIfInBounds_toArray, List.set_cons_zero, List.set_cons_succ, i64_w, i32_w]
              rfl
             refine pure_ (i := 9) (N := some 8) (v := ?_) (a' := ?_) #[true, true, true, true, true, true, true, true, true, true] rfl rfl (any_of HT_.out (by kernel_rfl)) (fun _ _ _ h => h) (Or.inl ⟨by rfl, ?_⟩) ?_ ?_
             rotate_left
             ·
              intro w'
              go_simp
              with_reducible rfl
             rotate_left
             ·
              simp only [Act.put, List.setIfInBounds_toArray, List.set_cons_zero, List.set_cons_succ, i64_w, i32_w]
              rfl
             refine done_ (done_of HT_.out (by kernel_rfl)) ?_
             have p316 : 0 ≤ (0 : Int) := (by omega)
             have q316 : 0 < (l2.length : Int) := of_decide_eq_true (by first | (with_reducible assumption) | assumption)
             obtain ⟨ad316, e316, hx316_0, hx316_1⟩ := at_T37 HR2.out 0 p316 q316
             obtain rfl : ad312 = ad316 := (by injection e316)
             have qi316 : (0 < l2.length) = True := eq_true (by omega)
             (try rw [show ((0 : Int)).toNat = 0 from rfl] at hx316_0)
             (try rw [show 0 * 2 = 0 from rfl] at hx316_0)
             (try rw [Addr.add_zero'] at hx316_0)
             (try rw [show ((0 : Int)).toNat = 0 from rfl] at hx316_1)
             (try rw [show 0 * 2 = 0 from rfl] at hx316_1)
             (try rw [Addr.add_zero'] at hx316_1)
             replace hx316_0 := (HB.out.cell (World.block_lt_of_cell? w _ hx316_0)).trans hx316_0
             replace hx316_1 := (HB.out.cell (World.block_lt_of_cell? w _ hx316_1)).trans hx316_1
             replace p316 := eq_true p316
             replace q316 := eq_true q316
             try go_wp2_with (first | ((with_reducible refine gate_callee (f := 21) rfl ?_); refine goesL_ (some 57) rfl rfl Tryd.func21 (by kernel_rfl) rfl #[.int .i64 ((rd_T37 l2 0).f1), .int .i64 t314] rfl (by (try simp only [List.map_toArray, List.map_cons, List.map_nil]); first | done | rfl | (simp only [List.length_drop, List.length_take]; rfl)) ?_; (with_reducible refine (psychro_Enthalpy.calls kj12 ((rd_T37 l2 0).f1) t314 t317 _ A28.out).mono ?_); rintro e w31 ⟨rfl, hb⟩; refine ⟨_, rfl, ?_⟩; have n0_ := Aside0.mk (blk_below (g := gb309) (o := .cells #[.int .i64 0, .int .i64 0] 37 (0, 0)) (by (with_reducible repeat (first | refine blk_drewN ?_ _ | refine blk_drew ?_ | refine blk_alloc ?_ _)); exact BK309.out) hb); have n1_ := Aside0.mk (below_step (by repeat (first | (with_reducible first | exact HB.out | apply below_alloc | apply pw_below_drewN | apply below_drew1 | refine below_set ?_ GE309.out) | exact HB.out)) hb); clear BK309; clear HB; have BK309 := n0_; have HB := n1_; clear n0_ n1_; (try clear hb); (try clear hb2); (try clear hk); (try clear hi); have hcz32_0 : w31.cell? ⟨gb309, 0, none⟩ = some (.int .i64 0) := (blk_cell BK309.out 0).trans rfl; have hcz32_1 : w31.cell? ⟨gb309, 1, none⟩ = some (.int .i64 0) := (blk_cell BK309.out 1).trans rfl; have hfz32_0 := blk_frozen BK309.out 0; have hfz32_1 := blk_frozen BK309.out 1))
             refine bodyPost_ret (results_ct rfl _ _ gb309 37 #[.int .i64 1, .int .i64 t317] (0, 0) _ rfl (by (with_reducible repeat (first | refine blk_drewN ?_ _ | refine blk_drew ?_ | refine blk_alloc ?_ _)); refine blk_put (cs := #[.int .i64 1, .int .i64 0]) ?_ 1 _ rfl; (with_reducible repeat (first | refine blk_drewN ?_ _ | refine blk_drew ?_ | refine blk_alloc ?_ _)); refine blk_put (cs := #[.int .i64 0, .int .i64 0]) ?_ 0 _ rfl; (with_reducible repeat (first | refine blk_drewN ?_ _ | refine blk_drew ?_ | refine blk_alloc ?_ _)); exact BK309.out) Tryd.underlying37 rfl (by kernel_rfl)) rfl ?_
             exact ⟨by first | rfl | (simp [errW_none, errW_some] <;> rfl) | (simp [*, errW_none, errW_some] <;> rfl), by repeat (first | (with_reducible first | exact HB.out | apply below_alloc | apply pw_below_drewN | apply below_drew1 | refine below_set ?_ GE309.out) | exact HB.out)⟩
           ·
            rw [if_neg c20] at H
            exact absurd H (by simp)
          ·
           rw [if_neg c19] at H
           exact absurd H (by simp)
end Go.Proofs.YtbfcplnaafnlhaaDoor.PT
