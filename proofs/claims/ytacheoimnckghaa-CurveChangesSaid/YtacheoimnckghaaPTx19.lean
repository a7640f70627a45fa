-- Laid by hp.py (a program of this session's) through the kit's printer. (squeezed)
import Derived.Test.YtacheoimnckghaaPTx0
import Derived.Test.YtacheoimnckghaaPTx1
import Derived.Test.YtacheoimnckghaaPTx18
namespace Go.Proofs.Ytacheoimnckghaa.PT
open Go.RowKit Go.Proofs.YtacheoimnckghaaW.PrintWords Go.Proofs.YtacheoimnckghaaW.PrintLast Go.Proofs.YtacheoimnckghaaW.PrintMore
attribute [local go_sem] max2_int min2_int max_two min_two max_three min_three max_four min_four   -- for this text's walks alone
set_option linter.unusedVariables false
set_option linter.unusedSimpArgs false
attribute [local go_sem high] eqA34
/-! ### plenumref03_Useless: function 34 -/
def plenumref03_Useless.f (l0 : List (S50)) (a1 : Int) : Option (Bool) := if (l0.length : Int) < 2 then (some false) else (if a1 = 0 then (if 0 < (l0.length : Int) then (if 1 < (l0.length : Int) then (some (((rd_T50 l0 0).f1) == ((rd_T50 l0 1).f1))) else (none)) else (none)) else (if a1 = (wrap64 ((l0.length : Int) - 1)) then (if 0 ≤ a1 then (if a1 < (l0.length : Int) then (if 0 ≤ (wrap64 (a1 - 1)) then (if (wrap64 (a1 - 1)) < (l0.length : Int) then (some (((rd_T50 l0 a1).f1) == ((rd_T50 l0 (wrap64 (a1 - 1))).f1))) else (none)) else (none)) else (none)) else (none)) else (if 0 ≤ (wrap64 (a1 - 1)) then (if (wrap64 (a1 - 1)) < (l0.length : Int) then (if 0 ≤ a1 then (if a1 < (l0.length : Int) then (if 0 ≤ (wrap64 (a1 + 1)) then (if (wrap64 (a1 + 1)) < (l0.length : Int) then ((plenumref03_Product.f (wrap64 (((rd_T50 l0 a1).f0) - ((rd_T50 l0 (wrap64 (a1 - 1))).f0))) (wrap64 (((rd_T50 l0 (wrap64 (a1 + 1))).f1) - ((rd_T50 l0 a1).f1)))).bind fun bt296 => ((plenumref03_Product.f (wrap64 (((rd_T50 l0 (wrap64 (a1 + 1))).f0) - ((rd_T50 l0 a1).f0))) (wrap64 (((rd_T50 l0 a1).f1) - ((rd_T50 l0 (wrap64 (a1 - 1))).f1)))).bind fun bt298 => (some (bt296.1 == bt298.1 && (bt296.2 == bt298.2))))) else (none)) else (none)) else (none)) else (none)) else (none)) else (none))))
def plenumref03_Useless.T4 : Bool × List (List Nat × List Nat) := (true, [([], []), ([0], [0]), ([1], [1]), ([2], [2]), ([], []), ([4], [4]), ([5], [5]), ([6], [6]), ([3, 7], [3, 7]), ([8, 0, 1, 2, 3, 4, 5, 6, 7, 8], [8])])
def plenumref03_Useless.B4 : List Nat := [0, 1, 3, 7, 0, 16, 48, 112, 255, 511]
theorem plenumref03_Useless.tab4 : rtab .any (opsOf Try.f34 4) = plenumref03_Useless.T4 := by kernel_rfl
theorem plenumref03_Useless.bits4 : waitsOk plenumref03_Useless.T4.2 plenumref03_Useless.B4 = true := by kernel_rfl
def plenumref03_Useless.T6 : Bool × List (List Nat × List Nat) := (true, [([], []), ([], []), ([0, 1], [0, 1]), ([2], [2]), ([3], [3]), ([], []), ([], []), ([6], [6]), ([5, 7], [5, 7]), ([8], [8]), ([9], [9]), ([4, 10], [4, 10]), ([11, 0, 1, 2, 3, 4, 5, 6, 7, 8, 9, 10, 11], [11])])
def plenumref03_Useless.B6 : List Nat := [0, 0, 3, 7, 15, 0, 0, 64, 224, 480, 992, 2047, 4095]
theorem plenumref03_Useless.tab6 : rtab .any (opsOf Try.f34 6) = plenumref03_Useless.T6 := by kernel_rfl
theorem plenumref03_Useless.bits6 : waitsOk plenumref03_Useless.T6.2 plenumref03_Useless.B6 = true := by kernel_rfl
def plenumref03_Useless.T7 : Bool × List (List Nat × List Nat) := (true, [([], []), ([], []), ([1], [1]), ([0, 2], [0, 2]), ([3], [3]), ([], []), ([], []), ([5, 6], [5, 6]), ([7], [7]), ([], []), ([], []), ([10], [10]), ([9, 11], [9, 11]), ([12], [12]), ([], []), ([], []), ([], []), ([14, 4, 0, 1, 2, 3, 4, 14, 15, 16], [4, 14]), ([15, 8, 17, 0, 1, 2, 3, 4, 5, 6, 7, 8, 14, 15, 16, 17], [8, 15]), ([16, 13, 18, 0, 1, 2, 3, 4, 5, 6, 7, 8, 9, 10, 11, 12, 13, 14, 15, 16, 17, 18], [13, 16])])
def plenumref03_Useless.B7 : List Nat := [0, 0, 2, 7, 15, 0, 0, 96, 224, 0, 0, 1024, 3584, 7680, 0, 0, 0, 114719, 246271, 524287]
theorem plenumref03_Useless.tab7 : rtab .any (opsOf Try.f34 7) = plenumref03_Useless.T7 := by kernel_rfl
theorem plenumref03_Useless.bits7 : waitsOk plenumref03_Useless.T7.2 plenumref03_Useless.B7 = true := by kernel_rfl
def plenumref03_Useless.T8 : Bool × List (List Nat × List Nat) := (true, [([], []), ([0], [0]), ([], []), ([2], [2]), ([1, 3], [1, 3]), ([], []), ([5], [5]), ([], []), ([7], [7]), ([6, 8], [6, 8]), ([4, 9], [4, 9]), ([], []), ([11], [11]), ([], []), ([13], [13]), ([12, 14], [12, 14]), ([], []), ([16], [16]), ([], []), ([18], [18]), ([17, 19], [17, 19]), ([15, 20, 10], [15, 20]), ([10, 21], [10, 21]), ([22, 21, 0, 1, 2, 3, 4, 5, 6, 7, 8, 9, 10, 11, 12, 13, 14, 15, 16, 17, 18, 19, 20, 21, 22], [22])])
def plenumref03_Useless.B8 : List Nat := [0, 1, 0, 4, 15, 0, 32, 0, 128, 480, 1023, 0, 2048, 0, 8192, 30720, 0, 65536, 0, 262144, 983040, 2097151, 4194303, 8388607]
theorem plenumref03_Useless.tab8 : rtab .any (opsOf Try.f34 8) = plenumref03_Useless.T8 := by kernel_rfl
theorem plenumref03_Useless.bits8 : waitsOk plenumref03_Useless.T8.2 plenumref03_Useless.B8 = true := by kernel_rfl
set_option maxHeartbeats 8000000 in
set_option maxRecDepth 100000 in
theorem plenumref03_Useless.calls (A0 : Option Addr) (c0 : Nat) (l0 : List (S50)) (a1 : Int) (r : Bool) (w : World) (hr0 : Kd.C k50 w A0 l0.length l0) (hc0 : l0.length ≤ c0) (h : plenumref03_Useless.f l0 a1 = some r) :
 Calls Try.prog 34 #[.slice A0 l0.length c0, .int .i64 a1] w fun e w' => e = .returned (.bool r) ∧ Below w.heap.size w w' := by
 have hu50 := Try.underlying50
 have HR0 := Aside0.mk hr0
 have HC0 := Aside0.mk hc0
 clear hr0 hc0
 have HB := Aside0.mk (Below.refl w.heap.size w)
 have H : (if (l0.length : Int) < 2 then (some false) else (if a1 = 0 then (if 0 < (l0.length : Int) then (if 1 < (l0.length : Int) then (some (((rd_T50 l0 0).f1) == ((rd_T50 l0 1).f1))) else (none)) else (none)) else (if a1 = (wrap64 ((l0.length : Int) - 1)) then (if 0 ≤ a1 then (if a1 < (l0.length : Int) then (if 0 ≤ (wrap64 (a1 - 1)) then (if (wrap64 (a1 - 1)) < (l0.length : Int) then (some (((rd_T50 l0 a1).f1) == ((rd_T50 l0 (wrap64 (a1 - 1))).f1))) else (none)) else (none)) else (none)) else (none)) else (if 0 ≤ (wrap64 (a1 - 1)) then (if (wrap64 (a1 - 1)) < (l0.length : Int) then (if 0 ≤ a1 then (if a1 < (l0.length : Int) then (if 0 ≤ (wrap64 (a1 + 1)) then (if (wrap64 (a1 + 1)) < (l0.length : Int) then ((plenumref03_Product.f (wrap64 (((rd_T50 l0 a1).f0) - ((rd_T50 l0 (wrap64 (a1 - 1))).f0))) (wrap64 (((rd_T50 l0 (wrap64 (a1 + 1))).f1) - ((rd_T50 l0 a1).f1)))).bind fun bt296 => ((plenumref03_Product.f (wrap64 (((rd_T50 l0 (wrap64 (a1 + 1))).f0) - ((rd_T50 l0 a1).f0))) (wrap64 (((rd_T50 l0 a1).f1) - ((rd_T50 l0 (wrap64 (a1 - 1))).f1)))).bind fun bt298 => (some (bt296.1 == bt298.1 && (bt296.2 == bt298.2))))) else (none)) else (none)) else (none)) else (none)) else (none)) else (none))))) = some r := h
 clear h
 by_cases c3 : (l0.length : Int) < 2
 ·
  rw [if_pos c3] at H
  have c3b0 : decide ((l0.length : Int) < 2) = true := decide_eq_true c3
  have c3b1 : decide (l0.length < 2) = true := decide_eq_true (by omega)
  clear c3
  obtain rfl := Option.some.inj H
  go_enter Try.func34, Try.ntmps34
  go_wp2
  go_ret
  exact ⟨by first | rfl | (simp [errW_none, errW_some] <;> rfl) | (simp [*, errW_none, errW_some] <;> rfl), by repeat (first | (with_reducible first | exact HB.out | apply below_alloc | apply pw_below_drewN | apply below_drew1) | exact HB.out)⟩
 ·
  rw [if_neg c3] at H
  have c3b0 : decide ((l0.length : Int) < 2) = false := decide_eq_false c3
  have c3b1 : decide (l0.length < 2) = false := decide_eq_false (by omega)
  clear c3
  by_cases c4 : a1 = 0
  ·
   rw [if_pos c4] at H
   have c4b0 : (a1 == 0) = true := beq_iff_eq.mpr c4
   have c4b1 : (a1 != 0) = false := bne_eq_false_iff_eq.mpr c4
   clear c4
   by_cases c5 : 0 < (l0.length : Int)
   ·
    rw [if_pos c5] at H
    have c5b0 : decide (0 < (l0.length : Int)) = true := decide_eq_true c5
    have c5b1 : decide (0 < l0.length) = true := decide_eq_true (by omega)
    clear c5
    by_cases c6 : 1 < (l0.length : Int)
    ·
     rw [if_pos c6] at H
     have c6b0 : decide (1 < (l0.length : Int)) = true := decide_eq_true c6
     have c6b1 : decide (1 < l0.length) = true := decide_eq_true (by omega)
     clear c6
     obtain rfl := Option.some.inj H
     go_enter Try.func34, Try.ntmps34
     try go_wp2
     have n0_ := Aside0.mk (below_drew1 HB.out)
     clear HB
     have HB := n0_
     clear n0_
     have p286 : 0 ≤ (0 : Int) := (by omega)
     have q286 : 0 < (l0.length : Int) := of_decide_eq_true (by first | (with_reducible assumption) | assumption)
     obtain ⟨ad286, e286, hx286_0, hx286_1⟩ := at_T50 HR0.out 0 p286 q286
     have hw286_1 := hx286_1
     (try rw [show ((0 : Int)).toNat = 0 from rfl] at hw286_1)
     (try rw [show 0 * 2 = 0 from rfl] at hw286_1)
     (try rw [Addr.add_zero'] at hw286_1)
     have hw286_0 := hx286_0
     (try rw [show ((0 : Int)).toNat = 0 from rfl] at hw286_0)
     (try rw [show 0 * 2 = 0 from rfl] at hw286_0)
     (try rw [Addr.add_zero'] at hw286_0)
     cases e286
     have qi286 : (0 < l0.length) = True := eq_true (by omega)
     (try rw [show ((0 : Int)).toNat = 0 from rfl] at hx286_0)
     (try rw [show 0 * 2 = 0 from rfl] at hx286_0)
     (try rw [Addr.add_zero'] at hx286_0)
     (try rw [show ((0 : Int)).toNat = 0 from rfl] at hx286_1)
     (try rw [show 0 * 2 = 0 from rfl] at hx286_1)
     (try rw [Addr.add_zero'] at hx286_1)
     replace hx286_0 := (HB.out.cell (World.block_lt_of_cell? w _ hx286_0)).trans hx286_0
     replace hx286_1 := (HB.out.cell (World.block_lt_of_cell? w _ hx286_1)).trans hx286_1
     replace p286 := eq_true p286
     replace q286 := eq_true q286
     have p287 : 0 ≤ (1 : Int) := (by omega)
     have q287 : 1 < (l0.length : Int) := of_decide_eq_true (by first | (with_reducible assumption) | assumption)
     obtain ⟨ad287, e287, hx287_0, hx287_1⟩ := at_T50 HR0.out 1 p287 q287
     have hw287_1 := hx287_1
     (try rw [show ((1 : Int)).toNat = 1 from rfl] at hw287_1)
     (try rw [show 1 * 2 = 2 from rfl] at hw287_1)
     (try simp only [Nat.reduceMul, Nat.reduceEqDiff, Go.Addr.add, ↓reduceIte] at hw287_1)
     have hw287_0 := hx287_0
     (try rw [show ((1 : Int)).toNat = 1 from rfl] at hw287_0)
     (try rw [show 1 * 2 = 2 from rfl] at hw287_0)
     (try simp only [Nat.reduceMul, Nat.reduceEqDiff, Go.Addr.add, ↓reduceIte] at hw287_0)
     obtain rfl : ad286 = ad287 := (by injection e287)
     (try simp only [show (1 : Int).toNat = 1 from rfl, Nat.reduceMul, Nat.reduceEqDiff, Go.Addr.add, ↓reduceIte] at hx287_0)
     (try simp only [show (1 : Int).toNat = 1 from rfl, Nat.reduceMul, Nat.reduceEqDiff, Go.Addr.add, ↓reduceIte] at hx287_1)
     have qi287 : (1 < l0.length) = True := eq_true (by omega)
     (try rw [show ((1 : Int)).toNat = 1 from rfl] at hx287_0)
     (try rw [show 1 * 2 = 2 from rfl] at hx287_0)
     (try rw [show ((1 : Int)).toNat = 1 from rfl] at hx287_1)
     (try rw [show 1 * 2 = 2 from rfl] at hx287_1)
     replace hx287_0 := (HB.out.cell (World.block_lt_of_cell? w _ hx287_0)).trans hx287_0
     replace hx287_1 := (HB.out.cell (World.block_lt_of_cell? w _ hx287_1)).trans hx287_1
     replace p287 := eq_true p287
     replace q287 := eq_true q287
     refine start_ (n := 10) (S := fun w' => w'.cell? ad286 = some (.int .i64 ((rd_T50 l0 0).f0)) ∧ w'.cell? ⟨ad286.block, ad286.off + 1, none⟩ = some (.int .i64 ((rd_T50 l0 0).f1)) ∧ w'.cell? ⟨ad286.block, ad286.off + 2, none⟩ = some (.int .i64 ((rd_T50 l0 1).f0)) ∧ w'.cell? ⟨ad286.block, ad286.off + 2 + 1, none⟩ = some (.int .i64 ((rd_T50 l0 1).f1))) (ds := []) #[false, false, false, false, false, false, false, false, false, false] (by kernel_rfl) rfl rfl ⟨((HB.out.cell (World.block_lt_of_cell? w _ hw286_0)).trans hw286_0), ((HB.out.cell (World.block_lt_of_cell? w _ hw286_1)).trans hw286_1), ((HB.out.cell (World.block_lt_of_cell? w _ hw287_0)).trans hw287_0), ((HB.out.cell (World.block_lt_of_cell? w _ hw287_1)).trans hw287_1)⟩ (fun hHeld => ?_); refine with_tabW plenumref03_Useless.tab4 plenumref03_Useless.bits4 (fun HT_ HW_ => ?_)
     generalize w.drew = w7 at HB hx286_0 hx286_1 hx287_0 hx287_1 hHeld ⊢
     refine pure_ (i := 0) (N := some 13) (v := ?_) (a' := ?_) #[true, false, false, false, false, false, false, false, false, false] rfl rfl (any_of HT_.out (by kernel_rfl)) (fun _ _ _ h => h) (Or.inl ⟨by rfl, ?_⟩) ?_ ?_
     rotate_left
     ·
      intro w'
      go_simp
      with_reducible rfl
     rotate_left
     ·
      simp only [Act.put, List.setIfInBounds_toArray, List.set_cons_zero, List.set_cons_succ, i64_w, i32_w]
      rfl
     refine pure_ (i := 1) (N := some 14) (v := ?_) (a' := ?_) #[true, true, false, false, false, false, false, false, false, false] rfl rfl (any_of HT_.out (by kernel_rfl)) (fun _ _ _ h => h) (Or.inl ⟨by rfl, ?_⟩) ?_ ?_
     rotate_left
     ·
      intro w'
      go_simp
      with_reducible rfl
     rotate_left
     ·
      simp only [Act.put, List.setIfInBounds_toArray, List.set_cons_zero, List.set_cons_succ, i64_w, i32_w]
      rfl
     refine pure_ (i := 2) (N := some 15) (v := ?_) (a' := ?_) #[true, true, true, false, false, false, false, false, false, false] rfl rfl (any_of HT_.out (by kernel_rfl)) (fun _ _ _ h => h) (Or.inl ⟨by rfl, ?_⟩) ?_ ?_
     rotate_left
     ·
      intro w'
      go_simp
      with_reducible rfl
     rotate_left
     ·
      simp only [Act.put, List.setIfInBounds_toArray, List.set_cons_zero, List.set_cons_succ, i64_w, i32_w]
      rfl
     refine pure_ (i := 4) (N := some 17) (v := ?_) (a' := ?_) #[true, true, true, false, true, false, false, false, false, false] rfl rfl (any_of HT_.out (by kernel_rfl)) (fun _ _ _ h => h) (Or.inl ⟨by rfl, ?_⟩) ?_ ?_
     rotate_left
     ·
      intro w'
      go_simp
      with_reducible rfl
     rotate_left
     ·
      simp only [Act.put, List.setIfInBounds_toArray, List.set_cons_zero, List.set_cons_succ, i64_w, i32_w]
      rfl
     refine pure_ (i := 5) (N := some 18) (v := ?_) (a' := ?_) #[true, true, true, false, true, true, false, false, false, false] rfl rfl (any_of HT_.out (by kernel_rfl)) (fun _ _ _ h => h) (Or.inl ⟨by rfl, ?_⟩) ?_ ?_
     rotate_left
     ·
      intro w'
      go_simp
      with_reducible rfl
     rotate_left
     ·
      simp only [Act.put, List.setIfInBounds_toArray, List.set_cons_zero, List.set_cons_succ, i64_w, i32_w]
      rfl
     refine pure_ (i := 6) (N := some 19) (v := ?_) (a' := ?_) #[true, true, true, false, true, true, true, false, false, false] rfl rfl (any_of HT_.out (by kernel_rfl)) (fun _ _ _ h => h) (Or.inl ⟨by rfl, ?_⟩) ?_ ?_
     rotate_left
     ·
      intro w'
      go_simp
      with_reducible rfl
     rotate_left
     ·
      simp only [Act.put, List.setIfInBounds_toArray, List.set_cons_zero, List.set_cons_succ, i64_w, i32_w]
      rfl
     refine take_ (i := 3) (N := some 16) (v := ?_) (a' := ?_) #[true, true, true, true, true, true, true, false, false, false] rfl rfl (take_ofW HT_.out HW_.out (by kernel_rfl)) (fun _ _ _ h => h) (Or.inl ⟨by rfl, ?_⟩) hHeld ?_ ?_
     rotate_left
     ·
      rintro w' ⟨s0, s1, s2, s3⟩
      go_simp
      with_reducible rfl
     rotate_left
     ·
      simp only [Act.put, List.setIfInBounds_toArray, List.set_cons_zero, List.set_cons_succ, i64_w, i32_w]
      rfl
     refine take_ (i := 7) (N := some 20) (v := ?_) (a' := ?_) #[true, true, true, true, true, true, true, true, false, false] rfl rfl (take_ofW HT_.out HW_.out (by kernel_rfl)) (fun _ _ _ h => h) (Or.inl ⟨by rfl, ?_⟩) hHeld ?_ ?_
     rotate_left
     ·
      rintro w' ⟨s0, s1, s2, s3⟩
      go_simp
      with_reducible rfl
     rotate_left
     ·
      simp only [Act.put, List.setIfInBounds_toArray, List.set_cons_zero, List.set_cons_succ, i64_w, i32_w]
      rfl
     refine pure_ (i := 8) (N := some 21) (v := ?_) (a' := ?_) #[true, true, true, true, true, true, true, true, true, false] rfl rfl (any_of HT_.out (by kernel_rfl)) (fun _ _ _ h => h) (Or.inl ⟨by rfl, ?_⟩) ?_ ?_
     rotate_left
     ·
      intro w'
      go_simp
      with_reducible rfl
     rotate_left
     ·
      simp only [Act.put, List.setIfInBounds_toArray, List.set_cons_zero, List.set_cons_succ, i64_w, i32_w]
      rfl
     refine pure_ (i := 9) (N := some 4) (v := ?_) (a' := ?_) #[true, true, true, true, true, true, true, true, true, true] rfl rfl (any_of HT_.out (by kernel_rfl)) (fun _ _ _ h => h) (Or.inl ⟨by rfl, ?_⟩) ?_ ?_
     rotate_left
     ·
      intro w'
      go_simp
      with_reducible rfl
     rotate_left
     ·
      simp only [Act.put, List.setIfInBounds_toArray, List.set_cons_zero, List.set_cons_succ, i64_w, i32_w]
      rfl
     refine done_ (done_of HT_.out (by kernel_rfl)) ?_
     try go_wp2
     go_ret
     exact ⟨by first | rfl | (simp [errW_none, errW_some] <;> rfl) | (simp [*, errW_none, errW_some] <;> rfl), by repeat (first | (with_reducible first | exact HB.out | apply below_alloc | apply pw_below_drewN | apply below_drew1) | exact HB.out)⟩
    ·
     rw [if_neg c6] at H
     exact absurd H (by simp)
   ·
    rw [if_neg c5] at H
    exact absurd H (by simp)
  ·
   rw [if_neg c4] at H
   have c4b0 : (a1 == 0) = false := beq_eq_false_iff_ne.mpr c4
   have c4b1 : (a1 != 0) = true := bne_iff_ne.mpr c4
   by_cases c8 : a1 = (wrap64 ((l0.length : Int) - 1))
   ·
    rw [if_pos c8] at H
    have c8b0 : (a1 == (wrap64 ((l0.length : Int) - 1))) = true := beq_iff_eq.mpr c8
    have c8b1 : (a1 != (wrap64 ((l0.length : Int) - 1))) = false := bne_eq_false_iff_eq.mpr c8
    clear c8
    by_cases c9 : 0 ≤ a1
    ·
     rw [if_pos c9] at H
     have c9b0 : decide (0 ≤ a1) = true := decide_eq_true c9
     clear c9
     by_cases c10 : a1 < (l0.length : Int)
     ·
      rw [if_pos c10] at H
      have c10b0 : decide (a1 < (l0.length : Int)) = true := decide_eq_true c10
      clear c10
      obtain ⟨ji11, hji11⟩ : ∃ j_ : Int, (wrap64 (a1 - 1)) = j_ := ⟨_, rfl⟩
      replace H : (if 0 ≤ (ji11) then (if (ji11) < (l0.length : Int) then (some (((rd_T50 l0 a1).f1) == ((rd_T50 l0 (ji11)).f1))) else (none)) else (none)) = some r := by first | (rw [hji11] at H; exact H) | (simp only [hji11] at H ⊢; exact H)
      have hji11w : (IntKind.i64.wrap (a1 - 1)) = ji11 := (i64_w _).trans hji11
      by_cases c12 : 0 ≤ (ji11)
      ·
       rw [if_pos c12] at H
       have c12b0 : decide (0 ≤ (ji11)) = true := decide_eq_true c12
       clear c12
       by_cases c13 : (ji11) < (l0.length : Int)
       ·
        rw [if_pos c13] at H
        have c13b0 : decide ((ji11) < (l0.length : Int)) = true := decide_eq_true c13
        clear c13
        obtain rfl := Option.some.inj H
        go_enter Try.func34, Try.ntmps34
        try go_wp2
        have n0_ := Aside0.mk (below_drew1 HB.out)
        clear HB
        have HB := n0_
        clear n0_
        have p288 : 0 ≤ (a1 : Int) := of_decide_eq_true (by first | (with_reducible assumption) | assumption)
        have q288 : a1 < (l0.length : Int) := of_decide_eq_true (by first | (with_reducible assumption) | assumption)
        obtain ⟨ad288, e288, hx288_0, hx288_1⟩ := at_T50 HR0.out a1 p288 q288
        have hw288_1 := hx288_1
        have hw288_0 := hx288_0
        cases e288
        replace hx288_0 := (HB.out.cell (World.block_lt_of_cell? w _ hx288_0)).trans hx288_0
        replace hx288_1 := (HB.out.cell (World.block_lt_of_cell? w _ hx288_1)).trans hx288_1
        replace p288 := eq_true p288
        replace q288 := eq_true q288
        have p289 : 0 ≤ ((ji11) : Int) := of_decide_eq_true (by first | (with_reducible assumption) | assumption)
        have q289 : (ji11) < (l0.length : Int) := of_decide_eq_true (by first | (with_reducible assumption) | assumption)
        obtain ⟨ad289, e289, hx289_0, hx289_1⟩ := at_T50 HR0.out (ji11) p289 q289
        have hw289_1 := hx289_1
        have hw289_0 := hx289_0
        obtain rfl : ad288 = ad289 := (by injection e289)
        replace hx289_0 := (HB.out.cell (World.block_lt_of_cell? w _ hx289_0)).trans hx289_0
        replace hx289_1 := (HB.out.cell (World.block_lt_of_cell? w _ hx289_1)).trans hx289_1
        replace p289 := eq_true p289
        replace q289 := eq_true q289
        refine start_ (n := 13) (S := fun w' => w'.cell? (ad288.add ((a1).toNat * 2)) = some (.int .i64 ((rd_T50 l0 a1).f0)) ∧ w'.cell? ⟨(ad288.add ((a1).toNat * 2)).block, (ad288.add ((a1).toNat * 2)).off + 1, none⟩ = some (.int .i64 ((rd_T50 l0 a1).f1)) ∧ w'.cell? (ad288.add (((ji11)).toNat * 2)) = some (.int .i64 ((rd_T50 l0 (ji11)).f0)) ∧ w'.cell? ⟨(ad288.add (((ji11)).toNat * 2)).block, (ad288.add (((ji11)).toNat * 2)).off + 1, none⟩ = some (.int .i64 ((rd_T50 l0 (ji11)).f1))) (ds := []) #[false, false, false, false, false, false, false, false, false, false, false, false, false] (by kernel_rfl) rfl rfl ⟨((HB.out.cell (World.block_lt_of_cell? w _ hw288_0)).trans hw288_0), ((HB.out.cell (World.block_lt_of_cell? w _ hw288_1)).trans hw288_1), ((HB.out.cell (World.block_lt_of_cell? w _ hw289_0)).trans hw289_0), ((HB.out.cell (World.block_lt_of_cell? w _ hw289_1)).trans hw289_1)⟩ (fun hHeld => ?_); refine with_tabW plenumref03_Useless.tab6 plenumref03_Useless.bits6 (fun HT_ HW_ => ?_)
        generalize w.drew = w14 at HB hx288_0 hx288_1 hx289_0 hx289_1 hHeld ⊢
        refine pure_ (i := 0) (N := some 27) (v := ?_) (a' := ?_) #[true, false, false, false, false, false, false, false, false, false, false, false, false] rfl rfl (any_of HT_.out (by kernel_rfl)) (fun _ _ _ h => h) (Or.inl ⟨by rfl, ?_⟩) ?_ ?_
        rotate_left
        ·
         intro w'
         go_simp
         with_reducible rfl
        rotate_left
        ·
         simp only [Act.put, List.setIfInBounds_toArray, List.set_cons_zero, List.set_cons_succ, i64_w, i32_w]
         rfl
        refine pure_ (i := 1) (N := some 28) (v := ?_) (a' := ?_) #[true, true, false, false, false, false, false, false, false, false, false, false, false] rfl rfl (any_of HT_.out (by kernel_rfl)) (fun _ _ _ h => h) (Or.inl ⟨by rfl, ?_⟩) ?_ ?_
        rotate_left
        ·
         intro w'
         go_simp
         with_reducible rfl
        rotate_left
        ·
         simp only [Act.put, List.setIfInBounds_toArray, List.set_cons_zero, List.set_cons_succ, i64_w, i32_w]
         rfl
        refine pure_ (i := 2) (N := some 29) (v := ?_) (a' := ?_) #[true, true, true, false, false, false, false, false, false, false, false, false, false] rfl rfl (any_of HT_.out (by kernel_rfl)) (fun _ _ _ h => h) (Or.inl ⟨by rfl, ?_⟩) ?_ ?_
        rotate_left
        ·
         intro w'
         go_simp
         with_reducible rfl
        rotate_left
        ·
         simp only [Act.put, List.setIfInBounds_toArray, List.set_cons_zero, List.set_cons_succ, i64_w, i32_w]
         rfl
        refine pure_ (i := 3) (N := some 30) (v := ?_) (a' := ?_) #[true, true, true, true, false, false, false, false, false, false, false, false, false] rfl rfl (any_of HT_.out (by kernel_rfl)) (fun _ _ _ h => h) (Or.inl ⟨by rfl, ?_⟩) ?_ ?_
        rotate_left
        ·
         intro w'
         go_simp
         with_reducible rfl
        rotate_left
        ·
         simp only [Act.put, List.setIfInBounds_toArray, List.set_cons_zero, List.set_cons_succ, i64_w, i32_w]
         rfl
        refine pure_ (i := 5) (N := some 32) (v := ?_) (a' := ?_) #[true, true, true, true, false, true, false, false, false, false, false, false, false] rfl rfl (any_of HT_.out (by kernel_rfl)) (fun _ _ _ h => h) (Or.inl ⟨by rfl, ?_⟩) ?_ ?_
        rotate_left
        ·
         intro w'
         go_simp
         with_reducible rfl
        rotate_left
        ·
         simp only [Act.put, List.setIfInBounds_toArray, List.set_cons_zero, List.set_cons_succ, i64_w, i32_w]
         rfl
        refine pure_ (i := 6) (N := some 33) (v := ?_) (a' := ?_) #[true, true, true, true, false, true, true, false, false, false, false, false, false] rfl rfl (any_of HT_.out (by kernel_rfl)) (fun _ _ _ h => h) (Or.inl ⟨by rfl, ?_⟩) ?_ ?_
        rotate_left
        ·
         intro w'
         go_simp
         with_reducible rfl
        rotate_left
        ·
         simp only [Act.put, List.setIfInBounds_toArray, List.set_cons_zero, List.set_cons_succ, i64_w, i32_w]
         rfl
        refine pure_ (i := 7) (N := some 34) (v := ?_) (a' := ?_) #[true, true, true, true, false, true, true, true, false, false, false, false, false] rfl rfl (any_of HT_.out (by kernel_rfl)) (fun _ _ _ h => h) (Or.inl ⟨by rfl, ?_⟩) ?_ ?_
        rotate_left
        ·
         intro w'
         go_simp
         with_reducible rfl
        rotate_left
        ·
         simp only [Act.put, List.setIfInBounds_toArray, List.set_cons_zero, List.set_cons_succ, i64_w, i32_w]
         rfl
        refine pure_ (i := 8) (N := some 35) (v := ?_) (a' := ?_) #[true, true, true, true, false, true, true, true, true, false, false, false, false] rfl rfl (any_of HT_.out (by kernel_rfl)) (fun _ _ _ h => h) (Or.inl ⟨by rfl, ?_⟩) ?_ ?_
        rotate_left
        ·
         intro w'
         go_simp
         with_reducible rfl
        rotate_left
        ·
         simp only [Act.put, List.setIfInBounds_toArray, List.set_cons_zero, List.set_cons_succ, i64_w, i32_w]
         rfl
        refine pure_ (i := 9) (N := some 36) (v := ?_) (a' := ?_) #[true, true, true, true, false, true, true, true, true, true, false, false, false] rfl rfl (any_of HT_.out (by kernel_rfl)) (fun _ _ _ h => h) (Or.inl ⟨by rfl, ?_⟩) ?_ ?_
        rotate_left
        ·
         intro w'
         go_simp
         with_reducible rfl
        rotate_left
        ·
         simp only [Act.put, List.setIfInBounds_toArray, List.set_cons_zero, List.set_cons_succ, i64_w, i32_w]
         rfl
        refine take_ (i := 4) (N := some 31) (v := ?_) (a' := ?_) #[true, true, true, true, true, true, true, true, true, true, false, false, false] rfl rfl (take_ofW HT_.out HW_.out (by kernel_rfl)) (fun _ _ _ h => h) (Or.inl ⟨by rfl, ?_⟩) hHeld ?_ ?_
        rotate_left
        ·
         rintro w' ⟨s0, s1, s2, s3⟩
         go_simp
         with_reducible rfl
        rotate_left
        ·
         simp only [Act.put, List.setIfInBounds_toArray, List.set_cons_zero, List.set_cons_succ, i64_w, i32_w]
         rfl
        refine take_ (i := 10) (N := some 37) (v := ?_) (a' := ?_) #[true, true, true, true, true, true, true, true, true, true, true, false, false] rfl rfl (take_ofW HT_.out HW_.out (by kernel_rfl)) (fun _ _ _ h => h) (Or.inl ⟨by rfl, ?_⟩) hHeld ?_ ?_
        rotate_left
        ·
         rintro w' ⟨s0, s1, s2, s3⟩
         go_simp
         with_reducible rfl
        rotate_left
        ·
         simp only [Act.put, List.setIfInBounds_toArray, List.set_cons_zero, List.set_cons_succ, i64_w, i32_w]
         rfl
        refine pure_ (i := 11) (N := some 38) (v := ?_) (a' := ?_) #[true, true, true, true, true, true, true, true, true, true, true, true, false] rfl rfl (any_of HT_.out (by kernel_rfl)) (fun _ _ _ h => h) (Or.inl ⟨by rfl, ?_⟩) ?_ ?_
        rotate_left
        ·
         intro w'
         go_simp
         with_reducible rfl
        rotate_left
        ·
         simp only [Act.put, List.setIfInBounds_toArray, List.set_cons_zero, List.set_cons_succ, i64_w, i32_w]
         rfl
        refine pure_ (i := 12) (N := some 4) (v := ?_) (a' := ?_) #[true, true, true, true, true, true, true, true, true, true, true, true, true] rfl rfl (any_of HT_.out (by kernel_rfl)) (fun _ _ _ h => h) (Or.inl ⟨by rfl, ?_⟩) ?_ ?_
        rotate_left
        ·
         intro w'
         go_simp
         with_reducible rfl
        rotate_left
        ·
         simp only [Act.put, List.setIfInBounds_toArray, List.set_cons_zero, List.set_cons_succ, i64_w, i32_w]
         rfl
        refine done_ (done_of HT_.out (by kernel_rfl)) ?_
        try go_wp2
        go_ret
        exact ⟨by first | rfl | (simp [errW_none, errW_some] <;> rfl) | (simp only [← hji11]; first | rfl | (simp [errW_none, errW_some] <;> rfl)) | (simp [*, errW_none, errW_some] <;> rfl), by repeat (first | (with_reducible first | exact HB.out | apply below_alloc | apply pw_below_drewN | apply below_drew1) | exact HB.out)⟩
       ·
        rw [if_neg c13] at H
        exact absurd H (by simp)
      ·
       rw [if_neg c12] at H
       exact absurd H (by simp)
     ·
      rw [if_neg c10] at H
      exact absurd H (by simp)
    ·
     rw [if_neg c9] at H
     exact absurd H (by simp)
   ·
    rw [if_neg c8] at H
    have c8b0 : (a1 == (wrap64 ((l0.length : Int) - 1))) = false := beq_eq_false_iff_ne.mpr c8
    have c8b1 : (a1 != (wrap64 ((l0.length : Int) - 1))) = true := bne_iff_ne.mpr c8
    obtain ⟨ji15, hji15⟩ : ∃ j_ : Int, (wrap64 (a1 - 1)) = j_ := ⟨_, rfl⟩
    replace H : (if 0 ≤ (ji15) then (if (ji15) < (l0.length : Int) then (if 0 ≤ a1 then (if a1 < (l0.length : Int) then (if 0 ≤ (wrap64 (a1 + 1)) then (if (wrap64 (a1 + 1)) < (l0.length : Int) then ((plenumref03_Product.f (wrap64 (((rd_T50 l0 a1).f0) - ((rd_T50 l0 (ji15)).f0))) (wrap64 (((rd_T50 l0 (wrap64 (a1 + 1))).f1) - ((rd_T50 l0 a1).f1)))).bind fun bt296 => ((plenumref03_Product.f (wrap64 (((rd_T50 l0 (wrap64 (a1 + 1))).f0) - ((rd_T50 l0 a1).f0))) (wrap64 (((rd_T50 l0 a1).f1) - ((rd_T50 l0 (ji15)).f1)))).bind fun bt298 => (some (bt296.1 == bt298.1 && (bt296.2 == bt298.2))))) else (none)) else (none)) else (none)) else (none)) else (none)) else (none)) = some r := by first | (rw [hji15] at H; exact H) | (simp only [hji15] at H ⊢; exact H)
    have hji15w : (IntKind.i64.wrap (a1 - 1)) = ji15 := (i64_w _).trans hji15
    by_cases c16 : 0 ≤ (ji15)
    ·
     rw [if_pos c16] at H
     have c16b0 : decide (0 ≤ (ji15)) = true := decide_eq_true c16
     clear c16
     by_cases c17 : (ji15) < (l0.length : Int)
     ·
      rw [if_pos c17] at H
      have c17b0 : decide ((ji15) < (l0.length : Int)) = true := decide_eq_true c17
      clear c17
      by_cases c18 : 0 ≤ a1
      ·
       rw [if_pos c18] at H
       have c18b0 : decide (0 ≤ a1) = true := decide_eq_true c18
       clear c18
       by_cases c19 : a1 < (l0.length : Int)
       ·
        rw [if_pos c19] at H
        have c19b0 : decide (a1 < (l0.length : Int)) = true := decide_eq_true c19
        clear c19
        obtain ⟨ji20, hji20⟩ : ∃ j_ : Int, (wrap64 (a1 + 1)) = j_ := ⟨_, rfl⟩
        replace H : (if 0 ≤ (ji20) then (if (ji20) < (l0.length : Int) then ((plenumref03_Product.f (wrap64 (((rd_T50 l0 a1).f0) - ((rd_T50 l0 (ji15)).f0))) (wrap64 (((rd_T50 l0 (ji20)).f1) - ((rd_T50 l0 a1).f1)))).bind fun bt296 => ((plenumref03_Product.f (wrap64 (((rd_T50 l0 (ji20)).f0) - ((rd_T50 l0 a1).f0))) (wrap64 (((rd_T50 l0 a1).f1) - ((rd_T50 l0 (ji15)).f1)))).bind fun bt298 => (some (bt296.1 == bt298.1 && (bt296.2 == bt298.2))))) else (none)) else (none)) = some r := by first | (rw [hji20] at H; exact H) | (simp only [hji20] at H ⊢; exact H)
        have hji20w : (IntKind.i64.wrap (a1 + 1)) = ji20 := (i64_w _).trans hji20
        by_cases c21 : 0 ≤ (ji20)
        ·
         rw [if_pos c21] at H
         have c21b0 : decide (0 ≤ (ji20)) = true := decide_eq_true c21
         clear c21
         by_cases c22 : (ji20) < (l0.length : Int)
         ·
          rw [if_pos c22] at H
          have c22b0 : decide ((ji20) < (l0.length : Int)) = true := decide_eq_true c22
          clear c22
          replace H := Option.bind_eq_some_iff.mp H
          obtain ⟨⟨t296, t297⟩, A230, H⟩ := H
          replace H : ((plenumref03_Product.f (wrap64 (((rd_T50 l0 (ji20)).f0) - ((rd_T50 l0 a1).f0))) (wrap64 (((rd_T50 l0 a1).f1) - ((rd_T50 l0 (ji15)).f1)))).bind fun bt298 => (some (t296 == bt298.1 && (t297 == bt298.2)))) = some r := H
          have A23 := Aside0.mk A230
          clear A230
          replace H := Option.bind_eq_some_iff.mp H
          obtain ⟨⟨t298, t299⟩, A240, H⟩ := H
          replace H : (some (t296 == t298 && (t297 == t299))) = some r := H
          have A24 := Aside0.mk A240
          clear A240
          obtain rfl := Option.some.inj H
          go_enter Try.func34, Try.ntmps34
          try go_wp2
          have n0_ := Aside0.mk (below_drew1 HB.out)
          clear HB
          have HB := n0_
          clear n0_
          have p290 : 0 ≤ ((ji15) : Int) := of_decide_eq_true (by first | (with_reducible assumption) | assumption)
          have q290 : (ji15) < (l0.length : Int) := of_decide_eq_true (by first | (with_reducible assumption) | assumption)
          obtain ⟨ad290, e290, hx290_0, hx290_1⟩ := at_T50 HR0.out (ji15) p290 q290
          have hw290_1 := hx290_1
          have hw290_0 := hx290_0
          cases e290
          replace hx290_0 := (HB.out.cell (World.block_lt_of_cell? w _ hx290_0)).trans hx290_0
          replace hx290_1 := (HB.out.cell (World.block_lt_of_cell? w _ hx290_1)).trans hx290_1
          replace p290 := eq_true p290
          replace q290 := eq_true q290
          have p291 : 0 ≤ (a1 : Int) := of_decide_eq_true (by first | (with_reducible assumption) | assumption)
          have q291 : a1 < (l0.length : Int) := of_decide_eq_true (by first | (with_reducible assumption) | assumption)
          obtain ⟨ad291, e291, hx291_0, hx291_1⟩ := at_T50 HR0.out a1 p291 q291
          have hw291_1 := hx291_1
          have hw291_0 := hx291_0
          obtain rfl : ad290 = ad291 := (by injection e291)
          replace hx291_0 := (HB.out.cell (World.block_lt_of_cell? w _ hx291_0)).trans hx291_0
          replace hx291_1 := (HB.out.cell (World.block_lt_of_cell? w _ hx291_1)).trans hx291_1
          replace p291 := eq_true p291
          replace q291 := eq_true q291
          have p292 : 0 ≤ ((ji20) : Int) := of_decide_eq_true (by first | (with_reducible assumption) | assumption)
          have q292 : (ji20) < (l0.length : Int) := of_decide_eq_true (by first | (with_reducible assumption) | assumption)
          obtain ⟨ad292, e292, hx292_0, hx292_1⟩ := at_T50 HR0.out (ji20) p292 q292
          have hw292_1 := hx292_1
          have hw292_0 := hx292_0
          obtain rfl : ad290 = ad292 := (by injection e292)
          replace hx292_0 := (HB.out.cell (World.block_lt_of_cell? w _ hx292_0)).trans hx292_0
          replace hx292_1 := (HB.out.cell (World.block_lt_of_cell? w _ hx292_1)).trans hx292_1
          replace p292 := eq_true p292
          replace q292 := eq_true q292
          refine start_ (n := 20) (S := fun w' => w'.cell? (ad290.add (((ji15)).toNat * 2)) = some (.int .i64 ((rd_T50 l0 (ji15)).f0)) ∧ w'.cell? ⟨(ad290.add (((ji15)).toNat * 2)).block, (ad290.add (((ji15)).toNat * 2)).off + 1, none⟩ = some (.int .i64 ((rd_T50 l0 (ji15)).f1)) ∧ w'.cell? (ad290.add ((a1).toNat * 2)) = some (.int .i64 ((rd_T50 l0 a1).f0)) ∧ w'.cell? ⟨(ad290.add ((a1).toNat * 2)).block, (ad290.add ((a1).toNat * 2)).off + 1, none⟩ = some (.int .i64 ((rd_T50 l0 a1).f1)) ∧ w'.cell? (ad290.add (((ji20)).toNat * 2)) = some (.int .i64 ((rd_T50 l0 (ji20)).f0)) ∧ w'.cell? ⟨(ad290.add (((ji20)).toNat * 2)).block, (ad290.add (((ji20)).toNat * 2)).off + 1, none⟩ = some (.int .i64 ((rd_T50 l0 (ji20)).f1))) (ds := []) #[false, false, false, false, false, false, false, false, false, false, false, false, false, false, false, false, false, false, false, false] (by kernel_rfl) rfl rfl ⟨((HB.out.cell (World.block_lt_of_cell? w _ hw290_0)).trans hw290_0), ((HB.out.cell (World.block_lt_of_cell? w _ hw290_1)).trans hw290_1), ((HB.out.cell (World.block_lt_of_cell? w _ hw291_0)).trans hw291_0), ((HB.out.cell (World.block_lt_of_cell? w _ hw291_1)).trans hw291_1), ((HB.out.cell (World.block_lt_of_cell? w _ hw292_0)).trans hw292_0), ((HB.out.cell (World.block_lt_of_cell? w _ hw292_1)).trans hw292_1)⟩ (fun hHeld => ?_); refine with_tabW plenumref03_Useless.tab7 plenumref03_Useless.bits7 (fun HT_ HW_ => ?_)
          generalize w.drew = w25 at HB hx290_0 hx290_1 hx291_0 hx291_1 hx292_0 hx292_1 hHeld ⊢
          refine pure_ (i := 0) (N := some 39) (v := ?_) (a' := ?_) #[true, false, false, false, false, false, false, false, false, false, false, false, false, false, false, false, false, false, false, false] rfl rfl (any_of HT_.out (by kernel_rfl)) (fun _ _ _ h => h) (Or.inl ⟨by rfl, ?_⟩) ?_ ?_
          rotate_left
          ·
           intro w'
           go_simp
           with_reducible rfl
          rotate_left
          ·
           simp only [Act.put, List.setIfInBounds_toArray, List.set_cons_zero, List.set_cons_succ, i64_w, i32_w]
           rfl
          refine pure_ (i := 1) (N := some 40) (v := ?_) (a' := ?_) #[true, true, false, false, false, false, false, false, false, false, false, false, false, false, false, false, false, false, false, false] rfl rfl (any_of HT_.out (by kernel_rfl)) (fun _ _ _ h => h) (Or.inl ⟨by rfl, ?_⟩) ?_ ?_
          rotate_left
          ·
           intro w'
           go_simp
           with_reducible rfl
          rotate_left
          ·
           simp only [Act.put, List.setIfInBounds_toArray, List.set_cons_zero, List.set_cons_succ, i64_w, i32_w]
           rfl
          refine pure_ (i := 2) (N := some 41) (v := ?_) (a' := ?_) #[true, true, true, false, false, false, false, false, false, false, false, false, false, false, false, false, false, false, false, false] rfl rfl (any_of HT_.out (by kernel_rfl)) (fun _ _ _ h => h) (Or.inl ⟨by rfl, ?_⟩) ?_ ?_
          rotate_left
          ·
           intro w'
           go_simp
           with_reducible rfl
          rotate_left
          ·
           simp only [Act.put, List.setIfInBounds_toArray, List.set_cons_zero, List.set_cons_succ, i64_w, i32_w]
           rfl
          refine pure_ (i := 3) (N := some 42) (v := ?_) (a' := ?_) #[true, true, true, true, false, false, false, false, false, false, false, false, false, false, false, false, false, false, false, false] rfl rfl (any_of HT_.out (by kernel_rfl)) (fun _ _ _ h => h) (Or.inl ⟨by rfl, ?_⟩) ?_ ?_
          rotate_left
          ·
           intro w'
           go_simp
           with_reducible rfl
          rotate_left
          ·
           simp only [Act.put, List.setIfInBounds_toArray, List.set_cons_zero, List.set_cons_succ, i64_w, i32_w]
           rfl
          refine pure_ (i := 5) (N := some 44) (v := ?_) (a' := ?_) #[true, true, true, true, false, true, false, false, false, false, false, false, false, false, false, false, false, false, false, false] rfl rfl (any_of HT_.out (by kernel_rfl)) (fun _ _ _ h => h) (Or.inl ⟨by rfl, ?_⟩) ?_ ?_
          rotate_left
          ·
           intro w'
           go_simp
           with_reducible rfl
          rotate_left
          ·
           simp only [Act.put, List.setIfInBounds_toArray, List.set_cons_zero, List.set_cons_succ, i64_w, i32_w]
           rfl
          refine pure_ (i := 6) (N := some 45) (v := ?_) (a' := ?_) #[true, true, true, true, false, true, true, false, false, false, false, false, false, false, false, false, false, false, false, false] rfl rfl (any_of HT_.out (by kernel_rfl)) (fun _ _ _ h => h) (Or.inl ⟨by rfl, ?_⟩) ?_ ?_
          rotate_left
          ·
           intro w'
           go_simp
           with_reducible rfl
          rotate_left
          ·
           simp only [Act.put, List.setIfInBounds_toArray, List.set_cons_zero, List.set_cons_succ, i64_w, i32_w]
           rfl
          refine pure_ (i := 7) (N := some 46) (v := ?_) (a' := ?_) #[true, true, true, true, false, true, true, true, false, false, false, false, false, false, false, false, false, false, false, false] rfl rfl (any_of HT_.out (by kernel_rfl)) (fun _ _ _ h => h) (Or.inl ⟨by rfl, ?_⟩) ?_ ?_
          rotate_left
          ·
           intro w'
           go_simp
           with_reducible rfl
          rotate_left
          ·
           simp only [Act.put, List.setIfInBounds_toArray, List.set_cons_zero, List.set_cons_succ, i64_w, i32_w]
           rfl
          refine pure_ (i := 9) (N := some 48) (v := ?_) (a' := ?_) #[true, true, true, true, false, true, true, true, false, true, false, false, false, false, false, false, false, false, false, false] rfl rfl (any_of HT_.out (by kernel_rfl)) (fun _ _ _ h => h) (Or.inl ⟨by rfl, ?_⟩) ?_ ?_
          rotate_left
          ·
           intro w'
           go_simp
           with_reducible rfl
          rotate_left
          ·
           simp only [Act.put, List.setIfInBounds_toArray, List.set_cons_zero, List.set_cons_succ, i64_w, i32_w]
           rfl
          refine pure_ (i := 10) (N := some 49) (v := ?_) (a' := ?_) #[true, true, true, true, false, true, true, true, false, true, true, false, false, false, false, false, false, false, false, false] rfl rfl (any_of HT_.out (by kernel_rfl)) (fun _ _ _ h => h) (Or.inl ⟨by rfl, ?_⟩) ?_ ?_
          rotate_left
          ·
           intro w'
           go_simp
           with_reducible rfl
          rotate_left
          ·
           simp only [Act.put, List.setIfInBounds_toArray, List.set_cons_zero, List.set_cons_succ, i64_w, i32_w]
           rfl
          refine pure_ (i := 11) (N := some 50) (v := ?_) (a' := ?_) #[true, true, true, true, false, true, true, true, false, true, true, true, false, false, false, false, false, false, false, false] rfl rfl (any_of HT_.out (by kernel_rfl)) (fun _ _ _ h => h) (Or.inl ⟨by rfl, ?_⟩) ?_ ?_
          rotate_left
          ·
           intro w'
           go_simp
           with_reducible rfl
          rotate_left
          ·
           simp only [Act.put, List.setIfInBounds_toArray, List.set_cons_zero, List.set_cons_succ, i64_w, i32_w]
           rfl
          refine pure_ (i := 12) (N := some 51) (v := ?_) (a' := ?_) #[true, true, true, true, false, true, true, true, false, true, true, true, true, false, false, false, false, false, false, false] rfl rfl (any_of HT_.out (by kernel_rfl)) (fun _ _ _ h => h) (Or.inl ⟨by rfl, ?_⟩) ?_ ?_
          rotate_left
          ·
           intro w'
           go_simp
           with_reducible rfl
          rotate_left
          ·
           simp only [Act.put, List.setIfInBounds_toArray, List.set_cons_zero, List.set_cons_succ, i64_w, i32_w]
           rfl
          refine take_ (i := 4) (N := some 43) (v := ?_) (a' := ?_) #[true, true, true, true, true, true, true, true, false, true, true, true, true, false, false, false, false, false, false, false] rfl rfl (take_ofW HT_.out HW_.out (by kernel_rfl)) (fun _ _ _ h => h) (Or.inl ⟨by rfl, ?_⟩) hHeld ?_ ?_
          rotate_left
          ·
           rintro w' ⟨s0, s1, s2, s3, s4, s5⟩
           go_simp
           with_reducible rfl
          rotate_left
          ·
           simp only [Act.put, List.setIfInBounds_toArray, List.set_cons_zero, List.set_cons_succ, i64_w, i32_w]
           rfl
          refine take_ (i := 8) (N := some 47) (v := ?_) (a' := ?_) #[true, true, true, true, true, true, true, true, true, true, true, true, true, false, false, false, false, false, false, false] rfl rfl (take_ofW HT_.out HW_.out (by kernel_rfl)) (fun _ _ _ h => h) (Or.inl ⟨by rfl, ?_⟩) hHeld ?_ ?_
          rotate_left
          ·
           rintro w' ⟨s0, s1, s2, s3, s4, s5⟩
           go_simp
           with_reducible rfl
          rotate_left
          ·
           simp only [Act.put, List.setIfInBounds_toArray, List.set_cons_zero, List.set_cons_succ, i64_w, i32_w]
           rfl
          refine take_ (i := 13) (N := some 52) (v := ?_) (a' := ?_) #[true, true, true, true, true, true, true, true, true, true, true, true, true, true, false, false, false, false, false, false] rfl rfl (take_ofW HT_.out HW_.out (by kernel_rfl)) (fun _ _ _ h => h) (Or.inl ⟨by rfl, ?_⟩) hHeld ?_ ?_
          rotate_left
          ·
           rintro w' ⟨s0, s1, s2, s3, s4, s5⟩
           go_simp
           with_reducible rfl
          rotate_left
          ·
           simp only [Act.put, List.setIfInBounds_toArray, List.set_cons_zero, List.set_cons_succ, i64_w, i32_w]
           rfl
          refine join_ (σ := Nat × Nat × Nat) 3 #[true, true, true, true, true, true, true, true, true, true, true, true, true, true, true, true, true, false, false, false] (fun s_ => [(5, .pointer (some ⟨s_.1, 0, none⟩)), (6, .pointer (some ⟨s_.2.1, 0, none⟩)), (7, .pointer (some ⟨s_.2.2, 0, none⟩))]) (fun s_ w' => (w'.cell? (ad290.add (((ji15)).toNat * 2)) = some (.int .i64 ((rd_T50 l0 (ji15)).f0)) ∧ w'.cell? ⟨(ad290.add (((ji15)).toNat * 2)).block, (ad290.add (((ji15)).toNat * 2)).off + 1, none⟩ = some (.int .i64 ((rd_T50 l0 (ji15)).f1)) ∧ w'.cell? (ad290.add ((a1).toNat * 2)) = some (.int .i64 ((rd_T50 l0 a1).f0)) ∧ w'.cell? ⟨(ad290.add ((a1).toNat * 2)).block, (ad290.add ((a1).toNat * 2)).off + 1, none⟩ = some (.int .i64 ((rd_T50 l0 a1).f1)) ∧ w'.cell? (ad290.add (((ji20)).toNat * 2)) = some (.int .i64 ((rd_T50 l0 (ji20)).f0)) ∧ w'.cell? ⟨(ad290.add (((ji20)).toNat * 2)).block, (ad290.add (((ji20)).toNat * 2)).off + 1, none⟩ = some (.int .i64 ((rd_T50 l0 (ji20)).f1))) ∧ (w'.heap[s_.1]? = some (.cells #[.int .i64 0, .int .i64 0] 50 (0, 0))) ∧ (w'.heap[s_.2.1]? = some (.cells #[.int .i64 0, .int .i64 0] 50 (0, 0))) ∧ (w'.heap[s_.2.2]? = some (.cells #[.int .i64 0, .int .i64 0] 50 (0, 0))) ∧ (w.heap.size ≤ s_.1) ∧ (w.heap.size ≤ s_.1) ∧ (s_.2.1 ≠ s_.1) ∧ (s_.1 ≠ s_.2.1) ∧ (s_.2.2 ≠ s_.1) ∧ (s_.1 ≠ s_.2.2) ∧ (w.heap.size ≤ s_.2.1) ∧ (w.heap.size ≤ s_.2.1) ∧ (s_.2.2 ≠ s_.2.1) ∧ (s_.2.1 ≠ s_.2.2) ∧ (w.heap.size ≤ s_.2.2) ∧ (w.heap.size ≤ s_.2.2) ∧ (Below w.heap.size w w')) ?_ ?_
          rotate_left
          ·
           intro hJ14_15_16
           refine join_ (σ := Nat × Nat) 4 #[true, true, true, true, true, true, true, true, true, true, true, true, true, true, true, true, false, false, false, false] (fun s_ => [(5, .pointer (some ⟨s_.1, 0, none⟩)), (6, .pointer (some ⟨s_.2, 0, none⟩))]) (fun s_ w' => (w'.cell? (ad290.add (((ji15)).toNat * 2)) = some (.int .i64 ((rd_T50 l0 (ji15)).f0)) ∧ w'.cell? ⟨(ad290.add (((ji15)).toNat * 2)).block, (ad290.add (((ji15)).toNat * 2)).off + 1, none⟩ = some (.int .i64 ((rd_T50 l0 (ji15)).f1)) ∧ w'.cell? (ad290.add ((a1).toNat * 2)) = some (.int .i64 ((rd_T50 l0 a1).f0)) ∧ w'.cell? ⟨(ad290.add ((a1).toNat * 2)).block, (ad290.add ((a1).toNat * 2)).off + 1, none⟩ = some (.int .i64 ((rd_T50 l0 a1).f1)) ∧ w'.cell? (ad290.add (((ji20)).toNat * 2)) = some (.int .i64 ((rd_T50 l0 (ji20)).f0)) ∧ w'.cell? ⟨(ad290.add (((ji20)).toNat * 2)).block, (ad290.add (((ji20)).toNat * 2)).off + 1, none⟩ = some (.int .i64 ((rd_T50 l0 (ji20)).f1))) ∧ (w'.heap[s_.1]? = some (.cells #[.int .i64 0, .int .i64 0] 50 (0, 0))) ∧ (w'.heap[s_.2]? = some (.cells #[.int .i64 0, .int .i64 0] 50 (0, 0))) ∧ (w.heap.size ≤ s_.1) ∧ (w.heap.size ≤ s_.1) ∧ (s_.2 ≠ s_.1) ∧ (s_.1 ≠ s_.2) ∧ (w.heap.size ≤ s_.2) ∧ (w.heap.size ≤ s_.2) ∧ (Below w.heap.size w w')) ?_ ?_
           rotate_left
           ·
            intro hJ14_15
            refine join_ (σ := Nat × Nat) 4 #[true, true, true, true, true, true, true, true, true, true, true, true, true, true, true, false, true, false, false, false] (fun s_ => [(5, .pointer (some ⟨s_.1, 0, none⟩)), (7, .pointer (some ⟨s_.2, 0, none⟩))]) (fun s_ w' => (w'.cell? (ad290.add (((ji15)).toNat * 2)) = some (.int .i64 ((rd_T50 l0 (ji15)).f0)) ∧ w'.cell? ⟨(ad290.add (((ji15)).toNat * 2)).block, (ad290.add (((ji15)).toNat * 2)).off + 1, none⟩ = some (.int .i64 ((rd_T50 l0 (ji15)).f1)) ∧ w'.cell? (ad290.add ((a1).toNat * 2)) = some (.int .i64 ((rd_T50 l0 a1).f0)) ∧ w'.cell? ⟨(ad290.add ((a1).toNat * 2)).block, (ad290.add ((a1).toNat * 2)).off + 1, none⟩ = some (.int .i64 ((rd_T50 l0 a1).f1)) ∧ w'.cell? (ad290.add (((ji20)).toNat * 2)) = some (.int .i64 ((rd_T50 l0 (ji20)).f0)) ∧ w'.cell? ⟨(ad290.add (((ji20)).toNat * 2)).block, (ad290.add (((ji20)).toNat * 2)).off + 1, none⟩ = some (.int .i64 ((rd_T50 l0 (ji20)).f1))) ∧ (w'.heap[s_.1]? = some (.cells #[.int .i64 0, .int .i64 0] 50 (0, 0))) ∧ (w'.heap[s_.2]? = some (.cells #[.int .i64 0, .int .i64 0] 50 (0, 0))) ∧ (w.heap.size ≤ s_.1) ∧ (w.heap.size ≤ s_.1) ∧ (s_.2 ≠ s_.1) ∧ (s_.1 ≠ s_.2) ∧ (w.heap.size ≤ s_.2) ∧ (w.heap.size ≤ s_.2) ∧ (Below w.heap.size w w')) ?_ ?_
            rotate_left
            ·
             intro hJ14_16
             refine join_ (σ := Nat × Nat) 4 #[true, true, true, true, true, true, true, true, true, true, true, true, true, true, false, true, true, false, false, false] (fun s_ => [(6, .pointer (some ⟨s_.1, 0, none⟩)), (7, .pointer (some ⟨s_.2, 0, none⟩))]) (fun s_ w' => (w'.cell? (ad290.add (((ji15)).toNat * 2)) = some (.int .i64 ((rd_T50 l0 (ji15)).f0)) ∧ w'.cell? ⟨(ad290.add (((ji15)).toNat * 2)).block, (ad290.add (((ji15)).toNat * 2)).off + 1, none⟩ = some (.int .i64 ((rd_T50 l0 (ji15)).f1)) ∧ w'.cell? (ad290.add ((a1).toNat * 2)) = some (.int .i64 ((rd_T50 l0 a1).f0)) ∧ w'.cell? ⟨(ad290.add ((a1).toNat * 2)).block, (ad290.add ((a1).toNat * 2)).off + 1, none⟩ = some (.int .i64 ((rd_T50 l0 a1).f1)) ∧ w'.cell? (ad290.add (((ji20)).toNat * 2)) = some (.int .i64 ((rd_T50 l0 (ji20)).f0)) ∧ w'.cell? ⟨(ad290.add (((ji20)).toNat * 2)).block, (ad290.add (((ji20)).toNat * 2)).off + 1, none⟩ = some (.int .i64 ((rd_T50 l0 (ji20)).f1))) ∧ (w'.heap[s_.1]? = some (.cells #[.int .i64 0, .int .i64 0] 50 (0, 0))) ∧ (w'.heap[s_.2]? = some (.cells #[.int .i64 0, .int .i64 0] 50 (0, 0))) ∧ (w.heap.size ≤ s_.1) ∧ (w.heap.size ≤ s_.1) ∧ (s_.2 ≠ s_.1) ∧ (s_.1 ≠ s_.2) ∧ (w.heap.size ≤ s_.2) ∧ (w.heap.size ≤ s_.2) ∧ (Below w.heap.size w w')) ?_ ?_
             rotate_left
             ·
              intro hJ15_16
              refine join_ (σ := Nat) 5 #[true, true, true, true, true, true, true, true, true, true, true, true, true, true, true, false, false, false, false, false] (fun s_ => [(5, .pointer (some ⟨s_, 0, none⟩))]) (fun s_ w' => (w'.cell? (ad290.add (((ji15)).toNat * 2)) = some (.int .i64 ((rd_T50 l0 (ji15)).f0)) ∧ w'.cell? ⟨(ad290.add (((ji15)).toNat * 2)).block, (ad290.add (((ji15)).toNat * 2)).off + 1, none⟩ = some (.int .i64 ((rd_T50 l0 (ji15)).f1)) ∧ w'.cell? (ad290.add ((a1).toNat * 2)) = some (.int .i64 ((rd_T50 l0 a1).f0)) ∧ w'.cell? ⟨(ad290.add ((a1).toNat * 2)).block, (ad290.add ((a1).toNat * 2)).off + 1, none⟩ = some (.int .i64 ((rd_T50 l0 a1).f1)) ∧ w'.cell? (ad290.add (((ji20)).toNat * 2)) = some (.int .i64 ((rd_T50 l0 (ji20)).f0)) ∧ w'.cell? ⟨(ad290.add (((ji20)).toNat * 2)).block, (ad290.add (((ji20)).toNat * 2)).off + 1, none⟩ = some (.int .i64 ((rd_T50 l0 (ji20)).f1))) ∧ (w'.heap[s_]? = some (.cells #[.int .i64 0, .int .i64 0] 50 (0, 0))) ∧ (w.heap.size ≤ s_) ∧ (w.heap.size ≤ s_) ∧ (Below w.heap.size w w')) ?_ ?_
              rotate_left
              ·
               intro hJ14
               refine join_ (σ := Nat) 5 #[true, true, true, true, true, true, true, true, true, true, true, true, true, true, false, true, false, false, false, false] (fun s_ => [(6, .pointer (some ⟨s_, 0, none⟩))]) (fun s_ w' => (w'.cell? (ad290.add (((ji15)).toNat * 2)) = some (.int .i64 ((rd_T50 l0 (ji15)).f0)) ∧ w'.cell? ⟨(ad290.add (((ji15)).toNat * 2)).block, (ad290.add (((ji15)).toNat * 2)).off + 1, none⟩ = some (.int .i64 ((rd_T50 l0 (ji15)).f1)) ∧ w'.cell? (ad290.add ((a1).toNat * 2)) = some (.int .i64 ((rd_T50 l0 a1).f0)) ∧ w'.cell? ⟨(ad290.add ((a1).toNat * 2)).block, (ad290.add ((a1).toNat * 2)).off + 1, none⟩ = some (.int .i64 ((rd_T50 l0 a1).f1)) ∧ w'.cell? (ad290.add (((ji20)).toNat * 2)) = some (.int .i64 ((rd_T50 l0 (ji20)).f0)) ∧ w'.cell? ⟨(ad290.add (((ji20)).toNat * 2)).block, (ad290.add (((ji20)).toNat * 2)).off + 1, none⟩ = some (.int .i64 ((rd_T50 l0 (ji20)).f1))) ∧ (w'.heap[s_]? = some (.cells #[.int .i64 0, .int .i64 0] 50 (0, 0))) ∧ (w.heap.size ≤ s_) ∧ (w.heap.size ≤ s_) ∧ (Below w.heap.size w w')) ?_ ?_
               rotate_left
               ·
                intro hJ15
                refine join_ (σ := Nat) 5 #[true, true, true, true, true, true, true, true, true, true, true, true, true, true, false, false, true, false, false, false] (fun s_ => [(7, .pointer (some ⟨s_, 0, none⟩))]) (fun s_ w' => (w'.cell? (ad290.add (((ji15)).toNat * 2)) = some (.int .i64 ((rd_T50 l0 (ji15)).f0)) ∧ w'.cell? ⟨(ad290.add (((ji15)).toNat * 2)).block, (ad290.add (((ji15)).toNat * 2)).off + 1, none⟩ = some (.int .i64 ((rd_T50 l0 (ji15)).f1)) ∧ w'.cell? (ad290.add ((a1).toNat * 2)) = some (.int .i64 ((rd_T50 l0 a1).f0)) ∧ w'.cell? ⟨(ad290.add ((a1).toNat * 2)).block, (ad290.add ((a1).toNat * 2)).off + 1, none⟩ = some (.int .i64 ((rd_T50 l0 a1).f1)) ∧ w'.cell? (ad290.add (((ji20)).toNat * 2)) = some (.int .i64 ((rd_T50 l0 (ji20)).f0)) ∧ w'.cell? ⟨(ad290.add (((ji20)).toNat * 2)).block, (ad290.add (((ji20)).toNat * 2)).off + 1, none⟩ = some (.int .i64 ((rd_T50 l0 (ji20)).f1))) ∧ (w'.heap[s_]? = some (.cells #[.int .i64 0, .int .i64 0] 50 (0, 0))) ∧ (w.heap.size ≤ s_) ∧ (w.heap.size ≤ s_) ∧ (Below w.heap.size w w')) ?_ ?_
                rotate_left
                ·
                 intro hJ16
                 refine three_ (i := 14) (j := 15) (k := 16) (Ni := some 5) (Nj := some 6) (Nk := some 7) #[true, true, true, true, true, true, true, true, true, true, true, true, true, true, true, false, false, false, false, false] #[true, true, true, true, true, true, true, true, true, true, true, true, true, true, false, true, false, false, false, false] #[true, true, true, true, true, true, true, true, true, true, true, true, true, true, false, false, true, false, false, false] rfl rfl rfl rfl rfl rfl (three_of HT_.out (by kernel_rfl)) (by decide) (by decide) (by decide) (fun K hK => ?_) (fun K hK => ?_) (fun K hK => ?_)
                 ·
                  skip
                  refine box_step ?hg (N := 5) ?hd (cs := #[.int .i64 0, .int .i64 0]) (t := 50) ?hr ?_; (case hd => rfl); (case hg => rfl); (case hr => first | (go_simp; done) | (go_simp; rfl))
                  intro gb293 hg w26 hbox hb
                  have n0_ := Aside0.mk (below_step (by repeat (first | (with_reducible first | exact HB.out | apply below_alloc | apply pw_below_drewN | apply below_drew1) | exact HB.out)) hb)
                  have n1_ := Aside0.mk (hbox)
                  have n2_ := Aside0.mk ((by rw [hg]; exact (below_size (by repeat (first | (with_reducible first | exact HB.out | apply below_alloc | apply pw_below_drewN | apply below_drew1) | exact HB.out))) : w.heap.size ≤ gb293))
                  have n3_ := Aside0.mk ((by rw [hg]; exact (below_size (by repeat (first | (with_reducible first | exact HB.out | apply below_alloc | apply pw_below_drewN | apply below_drew1) | exact HB.out))) : w.heap.size ≤ gb293))
                  clear HB
                  have HB := n0_
                  have BK293 := n1_
                  have GW293 := n2_
                  have GE293 := n3_
                  clear n0_ n1_ n2_ n3_
                  clear hb hbox hg
                  refine hK.out _ _ ⟨((HB.out.cell (World.block_lt_of_cell? w _ hw290_0)).trans hw290_0), ((HB.out.cell (World.block_lt_of_cell? w _ hw290_1)).trans hw290_1), ((HB.out.cell (World.block_lt_of_cell? w _ hw291_0)).trans hw291_0), ((HB.out.cell (World.block_lt_of_cell? w _ hw291_1)).trans hw291_1), ((HB.out.cell (World.block_lt_of_cell? w _ hw292_0)).trans hw292_0), ((HB.out.cell (World.block_lt_of_cell? w _ hw292_1)).trans hw292_1)⟩ (fun hHeld => ?_)
                  clear hK K
                  refine norm_ (a' := ?_) ?_ ?_
                  rotate_left
                  ·
                   show Act.put _ (some 5) _ = _
                   simp only [Act.put, List.setIfInBounds_toArray, List.set_cons_zero, List.set_cons_succ, i64_w, i32_w]
                   rfl
                  exact norm_ (by first | (simp only [putAll, Act.put, List.setIfInBounds_toArray, List.set_cons_zero, List.set_cons_succ]; done) | (simp only [putAll, Act.put, List.setIfInBounds_toArray, List.set_cons_zero, List.set_cons_succ]; rfl)) (hJ14 (gb293) _ ⟨hHeld, (by (with_reducible repeat (first | refine blk_drewN ?_ _ | refine blk_drew ?_ | refine blk_alloc ?_ _)); exact BK293.out), GW293.out, GE293.out, (by repeat (first | (with_reducible first | exact HB.out | apply below_alloc | apply pw_below_drewN | apply below_drew1 | refine below_set ?_ GE293.out) | exact HB.out))⟩)
                 ·
                  skip
                  refine box_step ?hg (N := 6) ?hd (cs := #[.int .i64 0, .int .i64 0]) (t := 50) ?hr ?_; (case hd => rfl); (case hg => rfl); (case hr => first | (go_simp; done) | (go_simp; rfl))
                  intro gb294 hg w26 hbox hb
                  have n0_ := Aside0.mk (below_step (by repeat (first | (with_reducible first | exact HB.out | apply below_alloc | apply pw_below_drewN | apply below_drew1) | exact HB.out)) hb)
                  have n1_ := Aside0.mk (hbox)
                  have n2_ := Aside0.mk ((by rw [hg]; exact (below_size (by repeat (first | (with_reducible first | exact HB.out | apply below_alloc | apply pw_below_drewN | apply below_drew1) | exact HB.out))) : w.heap.size ≤ gb294))
                  have n3_ := Aside0.mk ((by rw [hg]; exact (below_size (by repeat (first | (with_reducible first | exact HB.out | apply below_alloc | apply pw_below_drewN | apply below_drew1) | exact HB.out))) : w.heap.size ≤ gb294))
                  clear HB
                  have HB := n0_
                  have BK294 := n1_
                  have GW294 := n2_
                  have GE294 := n3_
                  clear n0_ n1_ n2_ n3_
                  clear hb hbox hg
                  refine hK.out _ _ ⟨((HB.out.cell (World.block_lt_of_cell? w _ hw290_0)).trans hw290_0), ((HB.out.cell (World.block_lt_of_cell? w _ hw290_1)).trans hw290_1), ((HB.out.cell (World.block_lt_of_cell? w _ hw291_0)).trans hw291_0), ((HB.out.cell (World.block_lt_of_cell? w _ hw291_1)).trans hw291_1), ((HB.out.cell (World.block_lt_of_cell? w _ hw292_0)).trans hw292_0), ((HB.out.cell (World.block_lt_of_cell? w _ hw292_1)).trans hw292_1)⟩ (fun hHeld => ?_)
                  clear hK K
                  refine norm_ (a' := ?_) ?_ ?_
                  rotate_left
                  ·
                   show Act.put _ (some 6) _ = _
                   simp only [Act.put, List.setIfInBounds_toArray, List.set_cons_zero, List.set_cons_succ, i64_w, i32_w]
                   rfl
                  exact norm_ (by first | (simp only [putAll, Act.put, List.setIfInBounds_toArray, List.set_cons_zero, List.set_cons_succ]; done) | (simp only [putAll, Act.put, List.setIfInBounds_toArray, List.set_cons_zero, List.set_cons_succ]; rfl)) (hJ15 (gb294) _ ⟨hHeld, (by (with_reducible repeat (first | refine blk_drewN ?_ _ | refine blk_drew ?_ | refine blk_alloc ?_ _)); exact BK294.out), GW294.out, GE294.out, (by repeat (first | (with_reducible first | exact HB.out | apply below_alloc | apply pw_below_drewN | apply below_drew1 | refine below_set ?_ GE294.out) | exact HB.out))⟩)
                 ·
                  skip
                  refine box_step ?hg (N := 7) ?hd (cs := #[.int .i64 0, .int .i64 0]) (t := 50) ?hr ?_; (case hd => rfl); (case hg => rfl); (case hr => first | (go_simp; done) | (go_simp; rfl))
                  intro gb295 hg w26 hbox hb
                  have n0_ := Aside0.mk (below_step (by repeat (first | (with_reducible first | exact HB.out | apply below_alloc | apply pw_below_drewN | apply below_drew1) | exact HB.out)) hb)
                  have n1_ := Aside0.mk (hbox)
                  have n2_ := Aside0.mk ((by rw [hg]; exact (below_size (by repeat (first | (with_reducible first | exact HB.out | apply below_alloc | apply pw_below_drewN | apply below_drew1) | exact HB.out))) : w.heap.size ≤ gb295))
                  have n3_ := Aside0.mk ((by rw [hg]; exact (below_size (by repeat (first | (with_reducible first | exact HB.out | apply below_alloc | apply pw_below_drewN | apply below_drew1) | exact HB.out))) : w.heap.size ≤ gb295))
                  clear HB
                  have HB := n0_
                  have BK295 := n1_
                  have GW295 := n2_
                  have GE295 := n3_
                  clear n0_ n1_ n2_ n3_
                  clear hb hbox hg
                  refine hK.out _ _ ⟨((HB.out.cell (World.block_lt_of_cell? w _ hw290_0)).trans hw290_0), ((HB.out.cell (World.block_lt_of_cell? w _ hw290_1)).trans hw290_1), ((HB.out.cell (World.block_lt_of_cell? w _ hw291_0)).trans hw291_0), ((HB.out.cell (World.block_lt_of_cell? w _ hw291_1)).trans hw291_1), ((HB.out.cell (World.block_lt_of_cell? w _ hw292_0)).trans hw292_0), ((HB.out.cell (World.block_lt_of_cell? w _ hw292_1)).trans hw292_1)⟩ (fun hHeld => ?_)
                  clear hK K
                  refine norm_ (a' := ?_) ?_ ?_
                  rotate_left
                  ·
                   show Act.put _ (some 7) _ = _
                   simp only [Act.put, List.setIfInBounds_toArray, List.set_cons_zero, List.set_cons_succ, i64_w, i32_w]
                   rfl
                  exact norm_ (by first | (simp only [putAll, Act.put, List.setIfInBounds_toArray, List.set_cons_zero, List.set_cons_succ]; done) | (simp only [putAll, Act.put, List.setIfInBounds_toArray, List.set_cons_zero, List.set_cons_succ]; rfl)) (hJ16 (gb295) _ ⟨hHeld, (by (with_reducible repeat (first | refine blk_drewN ?_ _ | refine blk_drew ?_ | refine blk_alloc ?_ _)); exact BK295.out), GW295.out, GE295.out, (by repeat (first | (with_reducible first | exact HB.out | apply below_alloc | apply pw_below_drewN | apply below_drew1 | refine below_set ?_ GE295.out) | exact HB.out))⟩)
                ·
                 skip
                 rintro gb295 w27 ⟨hS_, h0_, h1_, h2_, h3_⟩
                 have n0_ : Aside0 (w27.heap[gb295]? = some (.cells #[.int .i64 0, .int .i64 0] 50 (0, 0))) := ⟨h0_⟩
                 have n1_ : Aside0 (w.heap.size ≤ gb295) := ⟨h1_⟩
                 have n2_ : Aside0 (w.heap.size ≤ gb295) := ⟨h2_⟩
                 have n3_ : Aside0 (Below w.heap.size w w27) := ⟨h3_⟩
                 clear HB
                 clear h0_ h1_ h2_ h3_
                 have BK295 := n0_
                 have GW295 := n1_
                 have GE295 := n2_
                 have HB := n3_
                 clear n0_ n1_ n2_ n3_
                 have hHeld : w27.cell? (ad290.add (((ji15)).toNat * 2)) = some (.int .i64 ((rd_T50 l0 (ji15)).f0)) ∧ w27.cell? ⟨(ad290.add (((ji15)).toNat * 2)).block, (ad290.add (((ji15)).toNat * 2)).off + 1, none⟩ = some (.int .i64 ((rd_T50 l0 (ji15)).f1)) ∧ w27.cell? (ad290.add ((a1).toNat * 2)) = some (.int .i64 ((rd_T50 l0 a1).f0)) ∧ w27.cell? ⟨(ad290.add ((a1).toNat * 2)).block, (ad290.add ((a1).toNat * 2)).off + 1, none⟩ = some (.int .i64 ((rd_T50 l0 a1).f1)) ∧ w27.cell? (ad290.add (((ji20)).toNat * 2)) = some (.int .i64 ((rd_T50 l0 (ji20)).f0)) ∧ w27.cell? ⟨(ad290.add (((ji20)).toNat * 2)).block, (ad290.add (((ji20)).toNat * 2)).off + 1, none⟩ = some (.int .i64 ((rd_T50 l0 (ji20)).f1)) := hS_
                 refine norm_ (a' := ?_) ?_ ?_
                 rotate_left
                 ·
                  simp only [putAll, Act.put, List.setIfInBounds_toArray, List.set_cons_zero, List.set_cons_succ]
                  rfl
                 refine two_ (i := 14) (j := 15) (Ni := some 5) (Nj := some 6) #[true, true, true, true, true, true, true, true, true, true, true, true, true, true, true, false, true, false, false, false] #[true, true, true, true, true, true, true, true, true, true, true, true, true, true, false, true, true, false, false, false] rfl rfl rfl rfl (two_of HT_.out (by kernel_rfl)) (by decide) (by decide) (fun K hK => ?_) (fun K hK => ?_)
                 ·
                  skip
                  refine box_step ?hg (N := 5) ?hd (cs := #[.int .i64 0, .int .i64 0]) (t := 50) ?hr ?_; (case hd => rfl); (case hg => rfl); (case hr => first | (go_simp; done) | (go_simp; rfl))
                  intro gb293 hg w28 hbox hb
                  have n0_ := Aside0.mk (blk_below (g := gb295) (o := .cells #[.int .i64 0, .int .i64 0] 50 (0, 0)) (by (with_reducible repeat (first | refine blk_drewN ?_ _ | refine blk_drew ?_ | refine blk_alloc ?_ _)); exact BK295.out) hb)
                  have n1_ := Aside0.mk (below_step (by repeat (first | (with_reducible first | exact HB.out | apply below_alloc | apply pw_below_drewN | apply below_drew1 | refine below_set ?_ GE295.out) | exact HB.out)) hb)
                  have n2_ := Aside0.mk (hbox)
                  have n3_ := Aside0.mk ((by rw [hg]; exact (below_size (by repeat (first | (with_reducible first | exact HB.out | apply below_alloc | apply pw_below_drewN | apply below_drew1 | refine below_set ?_ GE295.out) | exact HB.out))) : w.heap.size ≤ gb293))
                  have n4_ := Aside0.mk ((by rw [hg]; exact (below_size (by repeat (first | (with_reducible first | exact HB.out | apply below_alloc | apply pw_below_drewN | apply below_drew1 | refine below_set ?_ GE295.out) | exact HB.out))) : w.heap.size ≤ gb293))
                  have n5_ := Aside0.mk ((by rw [hg]; exact Nat.ne_of_lt (blk_lt (g := gb295) (o := .cells #[.int .i64 0, .int .i64 0] 50 (0, 0)) (by (with_reducible repeat (first | refine blk_drewN ?_ _ | refine blk_drew ?_ | refine blk_alloc ?_ _)); exact BK295.out)) : gb295 ≠ gb293))
                  have n6_ := Aside0.mk ((by rw [hg]; exact Nat.ne_of_gt (blk_lt (g := gb295) (o := .cells #[.int .i64 0, .int .i64 0] 50 (0, 0)) (by (with_reducible repeat (first | refine blk_drewN ?_ _ | refine blk_drew ?_ | refine blk_alloc ?_ _)); exact BK295.out)) : gb293 ≠ gb295))
                  clear BK295
                  clear HB
                  have BK295 := n0_
                  have HB := n1_
                  have BK293 := n2_
                  have GW293 := n3_
                  have GE293 := n4_
                  have NB295_293 := n5_
                  have NB293_295 := n6_
                  clear n0_ n1_ n2_ n3_ n4_ n5_ n6_
                  clear hb hbox hg
                  refine hK.out _ _ ⟨((HB.out.cell (World.block_lt_of_cell? w _ hw290_0)).trans hw290_0), ((HB.out.cell (World.block_lt_of_cell? w _ hw290_1)).trans hw290_1), ((HB.out.cell (World.block_lt_of_cell? w _ hw291_0)).trans hw291_0), ((HB.out.cell (World.block_lt_of_cell? w _ hw291_1)).trans hw291_1), ((HB.out.cell (World.block_lt_of_cell? w _ hw292_0)).trans hw292_0), ((HB.out.cell (World.block_lt_of_cell? w _ hw292_1)).trans hw292_1)⟩ (fun hHeld => ?_)
                  clear hK K
                  refine norm_ (a' := ?_) ?_ ?_
                  rotate_left
                  ·
                   show Act.put _ (some 5) _ = _
                   simp only [Act.put, List.setIfInBounds_toArray, List.set_cons_zero, List.set_cons_succ, i64_w, i32_w]
                   rfl
                  exact norm_ (by first | (simp only [putAll, Act.put, List.setIfInBounds_toArray, List.set_cons_zero, List.set_cons_succ]; done) | (simp only [putAll, Act.put, List.setIfInBounds_toArray, List.set_cons_zero, List.set_cons_succ]; rfl)) (hJ14_16 (gb293, gb295) _ ⟨hHeld, (by (with_reducible repeat (first | refine blk_drewN ?_ _ | refine blk_drew ?_ | refine blk_alloc ?_ _)); exact BK293.out), (by (with_reducible repeat (first | refine blk_drewN ?_ _ | refine blk_drew ?_ | refine blk_alloc ?_ _)); exact BK295.out), GW293.out, GE293.out, NB295_293.out, NB293_295.out, GW295.out, GE295.out, (by repeat (first | (with_reducible first | exact HB.out | apply below_alloc | apply pw_below_drewN | apply below_drew1 | refine below_set ?_ GE295.out | refine below_set ?_ GE293.out) | exact HB.out))⟩)
                 ·
                  skip
                  refine box_step ?hg (N := 6) ?hd (cs := #[.int .i64 0, .int .i64 0]) (t := 50) ?hr ?_; (case hd => rfl); (case hg => rfl); (case hr => first | (go_simp; done) | (go_simp; rfl))
                  intro gb294 hg w28 hbox hb
                  have n0_ := Aside0.mk (blk_below (g := gb295) (o := .cells #[.int .i64 0, .int .i64 0] 50 (0, 0)) (by (with_reducible repeat (first | refine blk_drewN ?_ _ | refine blk_drew ?_ | refine blk_alloc ?_ _)); exact BK295.out) hb)
                  have n1_ := Aside0.mk (below_step (by repeat (first | (with_reducible first | exact HB.out | apply below_alloc | apply pw_below_drewN | apply below_drew1 | refine below_set ?_ GE295.out) | exact HB.out)) hb)
                  have n2_ := Aside0.mk (hbox)
                  have n3_ := Aside0.mk ((by rw [hg]; exact (below_size (by repeat (first | (with_reducible first | exact HB.out | apply below_alloc | apply pw_below_drewN | apply below_drew1 | refine below_set ?_ GE295.out) | exact HB.out))) : w.heap.size ≤ gb294))
                  have n4_ := Aside0.mk ((by rw [hg]; exact (below_size (by repeat (first | (with_reducible first | exact HB.out | apply below_alloc | apply pw_below_drewN | apply below_drew1 | refine below_set ?_ GE295.out) | exact HB.out))) : w.heap.size ≤ gb294))
                  have n5_ := Aside0.mk ((by rw [hg]; exact Nat.ne_of_lt (blk_lt (g := gb295) (o := .cells #[.int .i64 0, .int .i64 0] 50 (0, 0)) (by (with_reducible repeat (first | refine blk_drewN ?_ _ | refine blk_drew ?_ | refine blk_alloc ?_ _)); exact BK295.out)) : gb295 ≠ gb294))
                  have n6_ := Aside0.mk ((by rw [hg]; exact Nat.ne_of_gt (blk_lt (g := gb295) (o := .cells #[.int .i64 0, .int .i64 0] 50 (0, 0)) (by (with_reducible repeat (first | refine blk_drewN ?_ _ | refine blk_drew ?_ | refine blk_alloc ?_ _)); exact BK295.out)) : gb294 ≠ gb295))
                  clear BK295
                  clear HB
                  have BK295 := n0_
                  have HB := n1_
                  have BK294 := n2_
                  have GW294 := n3_
                  have GE294 := n4_
                  have NB295_294 := n5_
                  have NB294_295 := n6_
                  clear n0_ n1_ n2_ n3_ n4_ n5_ n6_
                  clear hb hbox hg
                  refine hK.out _ _ ⟨((HB.out.cell (World.block_lt_of_cell? w _ hw290_0)).trans hw290_0), ((HB.out.cell (World.block_lt_of_cell? w _ hw290_1)).trans hw290_1), ((HB.out.cell (World.block_lt_of_cell? w _ hw291_0)).trans hw291_0), ((HB.out.cell (World.block_lt_of_cell? w _ hw291_1)).trans hw291_1), ((HB.out.cell (World.block_lt_of_cell? w _ hw292_0)).trans hw292_0), ((HB.out.cell (World.block_lt_of_cell? w _ hw292_1)).trans hw292_1)⟩ (fun hHeld => ?_)
                  clear hK K
                  refine norm_ (a' := ?_) ?_ ?_
                  rotate_left
                  ·
                   show Act.put _ (some 6) _ = _
                   simp only [Act.put, List.setIfInBounds_toArray, List.set_cons_zero, List.set_cons_succ, i64_w, i32_w]
                   rfl
                  exact norm_ (by first | (simp only [putAll, Act.put, List.setIfInBounds_toArray, List.set_cons_zero, List.set_cons_succ]; done) | (simp only [putAll, Act.put, List.setIfInBounds_toArray, List.set_cons_zero, List.set_cons_succ]; rfl)) (hJ15_16 (gb294, gb295) _ ⟨hHeld, (by (with_reducible repeat (first | refine blk_drewN ?_ _ | refine blk_drew ?_ | refine blk_alloc ?_ _)); exact BK294.out), (by (with_reducible repeat (first | refine blk_drewN ?_ _ | refine blk_drew ?_ | refine blk_alloc ?_ _)); exact BK295.out), GW294.out, GE294.out, NB295_294.out, NB294_295.out, GW295.out, GE295.out, (by repeat (first | (with_reducible first | exact HB.out | apply below_alloc | apply pw_below_drewN | apply below_drew1 | refine below_set ?_ GE295.out | refine below_set ?_ GE294.out) | exact HB.out))⟩)
               ·
                skip
                rintro gb294 w27 ⟨hS_, h0_, h1_, h2_, h3_⟩
                have n0_ : Aside0 (w27.heap[gb294]? = some (.cells #[.int .i64 0, .int .i64 0] 50 (0, 0))) := ⟨h0_⟩
                have n1_ : Aside0 (w.heap.size ≤ gb294) := ⟨h1_⟩
                have n2_ : Aside0 (w.heap.size ≤ gb294) := ⟨h2_⟩
                have n3_ : Aside0 (Below w.heap.size w w27) := ⟨h3_⟩
                clear HB
                clear h0_ h1_ h2_ h3_
                have BK294 := n0_
                have GW294 := n1_
                have GE294 := n2_
                have HB := n3_
                clear n0_ n1_ n2_ n3_
                have hHeld : w27.cell? (ad290.add (((ji15)).toNat * 2)) = some (.int .i64 ((rd_T50 l0 (ji15)).f0)) ∧ w27.cell? ⟨(ad290.add (((ji15)).toNat * 2)).block, (ad290.add (((ji15)).toNat * 2)).off + 1, none⟩ = some (.int .i64 ((rd_T50 l0 (ji15)).f1)) ∧ w27.cell? (ad290.add ((a1).toNat * 2)) = some (.int .i64 ((rd_T50 l0 a1).f0)) ∧ w27.cell? ⟨(ad290.add ((a1).toNat * 2)).block, (ad290.add ((a1).toNat * 2)).off + 1, none⟩ = some (.int .i64 ((rd_T50 l0 a1).f1)) ∧ w27.cell? (ad290.add (((ji20)).toNat * 2)) = some (.int .i64 ((rd_T50 l0 (ji20)).f0)) ∧ w27.cell? ⟨(ad290.add (((ji20)).toNat * 2)).block, (ad290.add (((ji20)).toNat * 2)).off + 1, none⟩ = some (.int .i64 ((rd_T50 l0 (ji20)).f1)) := hS_
                refine norm_ (a' := ?_) ?_ ?_
                rotate_left
                ·
                 simp only [putAll, Act.put, List.setIfInBounds_toArray, List.set_cons_zero, List.set_cons_succ]
                 rfl
                refine two_ (i := 14) (j := 16) (Ni := some 5) (Nj := some 7) #[true, true, true, true, true, true, true, true, true, true, true, true, true, true, true, true, false, false, false, false] #[true, true, true, true, true, true, true, true, true, true, true, true, true, true, false, true, true, false, false, false] rfl rfl rfl rfl (two_of HT_.out (by kernel_rfl)) (by decide) (by decide) (fun K hK => ?_) (fun K hK => ?_)
                ·
                 skip
                 refine box_step ?hg (N := 5) ?hd (cs := #[.int .i64 0, .int .i64 0]) (t := 50) ?hr ?_; (case hd => rfl); (case hg => rfl); (case hr => first | (go_simp; done) | (go_simp; rfl))
                 intro gb293 hg w28 hbox hb
                 have n0_ := Aside0.mk (blk_below (g := gb294) (o := .cells #[.int .i64 0, .int .i64 0] 50 (0, 0)) (by (with_reducible repeat (first | refine blk_drewN ?_ _ | refine blk_drew ?_ | refine blk_alloc ?_ _)); exact BK294.out) hb)
                 have n1_ := Aside0.mk (below_step (by repeat (first | (with_reducible first | exact HB.out | apply below_alloc | apply pw_below_drewN | apply below_drew1 | refine below_set ?_ GE294.out) | exact HB.out)) hb)
                 have n2_ := Aside0.mk (hbox)
                 have n3_ := Aside0.mk ((by rw [hg]; exact (below_size (by repeat (first | (with_reducible first | exact HB.out | apply below_alloc | apply pw_below_drewN | apply below_drew1 | refine below_set ?_ GE294.out) | exact HB.out))) : w.heap.size ≤ gb293))
                 have n4_ := Aside0.mk ((by rw [hg]; exact (below_size (by repeat (first | (with_reducible first | exact HB.out | apply below_alloc | apply pw_below_drewN | apply below_drew1 | refine below_set ?_ GE294.out) | exact HB.out))) : w.heap.size ≤ gb293))
                 have n5_ := Aside0.mk ((by rw [hg]; exact Nat.ne_of_lt (blk_lt (g := gb294) (o := .cells #[.int .i64 0, .int .i64 0] 50 (0, 0)) (by (with_reducible repeat (first | refine blk_drewN ?_ _ | refine blk_drew ?_ | refine blk_alloc ?_ _)); exact BK294.out)) : gb294 ≠ gb293))
                 have n6_ := Aside0.mk ((by rw [hg]; exact Nat.ne_of_gt (blk_lt (g := gb294) (o := .cells #[.int .i64 0, .int .i64 0] 50 (0, 0)) (by (with_reducible repeat (first | refine blk_drewN ?_ _ | refine blk_drew ?_ | refine blk_alloc ?_ _)); exact BK294.out)) : gb293 ≠ gb294))
                 clear BK294
                 clear HB
                 have BK294 := n0_
                 have HB := n1_
                 have BK293 := n2_
                 have GW293 := n3_
                 have GE293 := n4_
                 have NB294_293 := n5_
                 have NB293_294 := n6_
                 clear n0_ n1_ n2_ n3_ n4_ n5_ n6_
                 clear hb hbox hg
                 refine hK.out _ _ ⟨((HB.out.cell (World.block_lt_of_cell? w _ hw290_0)).trans hw290_0), ((HB.out.cell (World.block_lt_of_cell? w _ hw290_1)).trans hw290_1), ((HB.out.cell (World.block_lt_of_cell? w _ hw291_0)).trans hw291_0), ((HB.out.cell (World.block_lt_of_cell? w _ hw291_1)).trans hw291_1), ((HB.out.cell (World.block_lt_of_cell? w _ hw292_0)).trans hw292_0), ((HB.out.cell (World.block_lt_of_cell? w _ hw292_1)).trans hw292_1)⟩ (fun hHeld => ?_)
                 clear hK K
                 refine norm_ (a' := ?_) ?_ ?_
                 rotate_left
                 ·
                  show Act.put _ (some 5) _ = _
                  simp only [Act.put, List.setIfInBounds_toArray, List.set_cons_zero, List.set_cons_succ, i64_w, i32_w]
                  rfl
                 exact norm_ (by first | (simp only [putAll, Act.put, List.setIfInBounds_toArray, List.set_cons_zero, List.set_cons_succ]; done) | (simp only [putAll, Act.put, List.setIfInBounds_toArray, List.set_cons_zero, List.set_cons_succ]; rfl)) (hJ14_15 (gb293, gb294) _ ⟨hHeld, (by (with_reducible repeat (first | refine blk_drewN ?_ _ | refine blk_drew ?_ | refine blk_alloc ?_ _)); exact BK293.out), (by (with_reducible repeat (first | refine blk_drewN ?_ _ | refine blk_drew ?_ | refine blk_alloc ?_ _)); exact BK294.out), GW293.out, GE293.out, NB294_293.out, NB293_294.out, GW294.out, GE294.out, (by repeat (first | (with_reducible first | exact HB.out | apply below_alloc | apply pw_below_drewN | apply below_drew1 | refine below_set ?_ GE294.out | refine below_set ?_ GE293.out) | exact HB.out))⟩)
                ·
                 skip
                 refine box_step ?hg (N := 7) ?hd (cs := #[.int .i64 0, .int .i64 0]) (t := 50) ?hr ?_; (case hd => rfl); (case hg => rfl); (case hr => first | (go_simp; done) | (go_simp; rfl))
                 intro gb295 hg w28 hbox hb
                 have n0_ := Aside0.mk (blk_below (g := gb294) (o := .cells #[.int .i64 0, .int .i64 0] 50 (0, 0)) (by (with_reducible repeat (first | refine blk_drewN ?_ _ | refine blk_drew ?_ | refine blk_alloc ?_ _)); exact BK294.out) hb)
                 have n1_ := Aside0.mk (below_step (by repeat (first | (with_reducible first | exact HB.out | apply below_alloc | apply pw_below_drewN | apply below_drew1 | refine below_set ?_ GE294.out) | exact HB.out)) hb)
                 have n2_ := Aside0.mk (hbox)
                 have n3_ := Aside0.mk ((by rw [hg]; exact (below_size (by repeat (first | (with_reducible first | exact HB.out | apply below_alloc | apply pw_below_drewN | apply below_drew1 | refine below_set ?_ GE294.out) | exact HB.out))) : w.heap.size ≤ gb295))
                 have n4_ := Aside0.mk ((by rw [hg]; exact (below_size (by repeat (first | (with_reducible first | exact HB.out | apply below_alloc | apply pw_below_drewN | apply below_drew1 | refine below_set ?_ GE294.out) | exact HB.out))) : w.heap.size ≤ gb295))
                 have n5_ := Aside0.mk ((by rw [hg]; exact Nat.ne_of_lt (blk_lt (g := gb294) (o := .cells #[.int .i64 0, .int .i64 0] 50 (0, 0)) (by (with_reducible repeat (first | refine blk_drewN ?_ _ | refine blk_drew ?_ | refine blk_alloc ?_ _)); exact BK294.out)) : gb294 ≠ gb295))
                 have n6_ := Aside0.mk ((by rw [hg]; exact Nat.ne_of_gt (blk_lt (g := gb294) (o := .cells #[.int .i64 0, .int .i64 0] 50 (0, 0)) (by (with_reducible repeat (first | refine blk_drewN ?_ _ | refine blk_drew ?_ | refine blk_alloc ?_ _)); exact BK294.out)) : gb295 ≠ gb294))
                 clear BK294
                 clear HB
                 have BK294 := n0_
                 have HB := n1_
                 have BK295 := n2_
                 have GW295 := n3_
                 have GE295 := n4_
                 have NB294_295 := n5_
                 have NB295_294 := n6_
                 clear n0_ n1_ n2_ n3_ n4_ n5_ n6_
                 clear hb hbox hg
                 refine hK.out _ _ ⟨((HB.out.cell (World.block_lt_of_cell? w _ hw290_0)).trans hw290_0), ((HB.out.cell (World.block_lt_of_cell? w _ hw290_1)).trans hw290_1), ((HB.out.cell (World.block_lt_of_cell? w _ hw291_0)).trans hw291_0), ((HB.out.cell (World.block_lt_of_cell? w _ hw291_1)).trans hw291_1), ((HB.out.cell (World.block_lt_of_cell? w _ hw292_0)).trans hw292_0), ((HB.out.cell (World.block_lt_of_cell? w _ hw292_1)).trans hw292_1)⟩ (fun hHeld => ?_)
                 clear hK K
                 refine norm_ (a' := ?_) ?_ ?_
                 rotate_left
                 ·
                  show Act.put _ (some 7) _ = _
                  simp only [Act.put, List.setIfInBounds_toArray, List.set_cons_zero, List.set_cons_succ, i64_w, i32_w]
                  rfl
                 exact norm_ (by first | (simp only [putAll, Act.put, List.setIfInBounds_toArray, List.set_cons_zero, List.set_cons_succ]; done) | (simp only [putAll, Act.put, List.setIfInBounds_toArray, List.set_cons_zero, List.set_cons_succ]; rfl)) (hJ15_16 (gb294, gb295) _ ⟨hHeld, (by (with_reducible repeat (first | refine blk_drewN ?_ _ | refine blk_drew ?_ | refine blk_alloc ?_ _)); exact BK294.out), (by (with_reducible repeat (first | refine blk_drewN ?_ _ | refine blk_drew ?_ | refine blk_alloc ?_ _)); exact BK295.out), GW294.out, GE294.out, NB295_294.out, NB294_295.out, GW295.out, GE295.out, (by repeat (first | (with_reducible first | exact HB.out | apply below_alloc | apply pw_below_drewN | apply below_drew1 | refine below_set ?_ GE294.out | refine below_set ?_ GE295.out) | exact HB.out))⟩)
              ·
               skip
               rintro gb293 w27 ⟨hS_, h0_, h1_, h2_, h3_⟩
               have n0_ : Aside0 (w27.heap[gb293]? = some (.cells #[.int .i64 0, .int .i64 0] 50 (0, 0))) := ⟨h0_⟩
               have n1_ : Aside0 (w.heap.size ≤ gb293) := ⟨h1_⟩
               have n2_ : Aside0 (w.heap.size ≤ gb293) := ⟨h2_⟩
               have n3_ : Aside0 (Below w.heap.size w w27) := ⟨h3_⟩
               clear HB
               clear h0_ h1_ h2_ h3_
               have BK293 := n0_
               have GW293 := n1_
               have GE293 := n2_
               have HB := n3_
               clear n0_ n1_ n2_ n3_
               have hHeld : w27.cell? (ad290.add (((ji15)).toNat * 2)) = some (.int .i64 ((rd_T50 l0 (ji15)).f0)) ∧ w27.cell? ⟨(ad290.add (((ji15)).toNat * 2)).block, (ad290.add (((ji15)).toNat * 2)).off + 1, none⟩ = some (.int .i64 ((rd_T50 l0 (ji15)).f1)) ∧ w27.cell? (ad290.add ((a1).toNat * 2)) = some (.int .i64 ((rd_T50 l0 a1).f0)) ∧ w27.cell? ⟨(ad290.add ((a1).toNat * 2)).block, (ad290.add ((a1).toNat * 2)).off + 1, none⟩ = some (.int .i64 ((rd_T50 l0 a1).f1)) ∧ w27.cell? (ad290.add (((ji20)).toNat * 2)) = some (.int .i64 ((rd_T50 l0 (ji20)).f0)) ∧ w27.cell? ⟨(ad290.add (((ji20)).toNat * 2)).block, (ad290.add (((ji20)).toNat * 2)).off + 1, none⟩ = some (.int .i64 ((rd_T50 l0 (ji20)).f1)) := hS_
               refine norm_ (a' := ?_) ?_ ?_
               rotate_left
               ·
                simp only [putAll, Act.put, List.setIfInBounds_toArray, List.set_cons_zero, List.set_cons_succ]
                rfl
               refine two_ (i := 15) (j := 16) (Ni := some 6) (Nj := some 7) #[true, true, true, true, true, true, true, true, true, true, true, true, true, true, true, true, false, false, false, false] #[true, true, true, true, true, true, true, true, true, true, true, true, true, true, true, false, true, false, false, false] rfl rfl rfl rfl (two_of HT_.out (by kernel_rfl)) (by decide) (by decide) (fun K hK => ?_) (fun K hK => ?_)
               ·
                skip
                refine box_step ?hg (N := 6) ?hd (cs := #[.int .i64 0, .int .i64 0]) (t := 50) ?hr ?_; (case hd => rfl); (case hg => rfl); (case hr => first | (go_simp; done) | (go_simp; rfl))
                intro gb294 hg w28 hbox hb
                have n0_ := Aside0.mk (blk_below (g := gb293) (o := .cells #[.int .i64 0, .int .i64 0] 50 (0, 0)) (by (with_reducible repeat (first | refine blk_drewN ?_ _ | refine blk_drew ?_ | refine blk_alloc ?_ _)); exact BK293.out) hb)
                have n1_ := Aside0.mk (below_step (by repeat (first | (with_reducible first | exact HB.out | apply below_alloc | apply pw_below_drewN | apply below_drew1 | refine below_set ?_ GE293.out) | exact HB.out)) hb)
                have n2_ := Aside0.mk (hbox)
                have n3_ := Aside0.mk ((by rw [hg]; exact (below_size (by repeat (first | (with_reducible first | exact HB.out | apply below_alloc | apply pw_below_drewN | apply below_drew1 | refine below_set ?_ GE293.out) | exact HB.out))) : w.heap.size ≤ gb294))
                have n4_ := Aside0.mk ((by rw [hg]; exact (below_size (by repeat (first | (with_reducible first | exact HB.out | apply below_alloc | apply pw_below_drewN | apply below_drew1 | refine below_set ?_ GE293.out) | exact HB.out))) : w.heap.size ≤ gb294))
                have n5_ := Aside0.mk ((by rw [hg]; exact Nat.ne_of_lt (blk_lt (g := gb293) (o := .cells #[.int .i64 0, .int .i64 0] 50 (0, 0)) (by (with_reducible repeat (first | refine blk_drewN ?_ _ | refine blk_drew ?_ | refine blk_alloc ?_ _)); exact BK293.out)) : gb293 ≠ gb294))
                have n6_ := Aside0.mk ((by rw [hg]; exact Nat.ne_of_gt (blk_lt (g := gb293) (o := .cells #[.int .i64 0, .int .i64 0] 50 (0, 0)) (by (with_reducible repeat (first | refine blk_drewN ?_ _ | refine blk_drew ?_ | refine blk_alloc ?_ _)); exact BK293.out)) : gb294 ≠ gb293))
                clear BK293
                clear HB
                have BK293 := n0_
                have HB := n1_
                have BK294 := n2_
                have GW294 := n3_
                have GE294 := n4_
                have NB293_294 := n5_
                have NB294_293 := n6_
                clear n0_ n1_ n2_ n3_ n4_ n5_ n6_
                clear hb hbox hg
                refine hK.out _ _ ⟨((HB.out.cell (World.block_lt_of_cell? w _ hw290_0)).trans hw290_0), ((HB.out.cell (World.block_lt_of_cell? w _ hw290_1)).trans hw290_1), ((HB.out.cell (World.block_lt_of_cell? w _ hw291_0)).trans hw291_0), ((HB.out.cell (World.block_lt_of_cell? w _ hw291_1)).trans hw291_1), ((HB.out.cell (World.block_lt_of_cell? w _ hw292_0)).trans hw292_0), ((HB.out.cell (World.block_lt_of_cell? w _ hw292_1)).trans hw292_1)⟩ (fun hHeld => ?_)
                clear hK K
                refine norm_ (a' := ?_) ?_ ?_
                rotate_left
                ·
                 show Act.put _ (some 6) _ = _
                 simp only [Act.put, List.setIfInBounds_toArray, List.set_cons_zero, List.set_cons_succ, i64_w, i32_w]
                 rfl
                exact norm_ (by first | (simp only [putAll, Act.put, List.setIfInBounds_toArray, List.set_cons_zero, List.set_cons_succ]; done) | (simp only [putAll, Act.put, List.setIfInBounds_toArray, List.set_cons_zero, List.set_cons_succ]; rfl)) (hJ14_15 (gb293, gb294) _ ⟨hHeld, (by (with_reducible repeat (first | refine blk_drewN ?_ _ | refine blk_drew ?_ | refine blk_alloc ?_ _)); exact BK293.out), (by (with_reducible repeat (first | refine blk_drewN ?_ _ | refine blk_drew ?_ | refine blk_alloc ?_ _)); exact BK294.out), GW293.out, GE293.out, NB294_293.out, NB293_294.out, GW294.out, GE294.out, (by repeat (first | (with_reducible first | exact HB.out | apply below_alloc | apply pw_below_drewN | apply below_drew1 | refine below_set ?_ GE293.out | refine below_set ?_ GE294.out) | exact HB.out))⟩)
               ·
                skip
                refine box_step ?hg (N := 7) ?hd (cs := #[.int .i64 0, .int .i64 0]) (t := 50) ?hr ?_; (case hd => rfl); (case hg => rfl); (case hr => first | (go_simp; done) | (go_simp; rfl))
                intro gb295 hg w28 hbox hb
                have n0_ := Aside0.mk (blk_below (g := gb293) (o := .cells #[.int .i64 0, .int .i64 0] 50 (0, 0)) (by (with_reducible repeat (first | refine blk_drewN ?_ _ | refine blk_drew ?_ | refine blk_alloc ?_ _)); exact BK293.out) hb)
                have n1_ := Aside0.mk (below_step (by repeat (first | (with_reducible first | exact HB.out | apply below_alloc | apply pw_below_drewN | apply below_drew1 | refine below_set ?_ GE293.out) | exact HB.out)) hb)
                have n2_ := Aside0.mk (hbox)
                have n3_ := Aside0.mk ((by rw [hg]; exact (below_size (by repeat (first | (with_reducible first | exact HB.out | apply below_alloc | apply pw_below_drewN | apply below_drew1 | refine below_set ?_ GE293.out) | exact HB.out))) : w.heap.size ≤ gb295))
                have n4_ := Aside0.mk ((by rw [hg]; exact (below_size (by repeat (first | (with_reducible first | exact HB.out | apply below_alloc | apply pw_below_drewN | apply below_drew1 | refine below_set ?_ GE293.out) | exact HB.out))) : w.heap.size ≤ gb295))
                have n5_ := Aside0.mk ((by rw [hg]; exact Nat.ne_of_lt (blk_lt (g := gb293) (o := .cells #[.int .i64 0, .int .i64 0] 50 (0, 0)) (by (with_reducible repeat (first | refine blk_drewN ?_ _ | refine blk_drew ?_ | refine blk_alloc ?_ _)); exact BK293.out)) : gb293 ≠ gb295))
                have n6_ := Aside0.mk ((by rw [hg]; exact Nat.ne_of_gt (blk_lt (g := gb293) (o := .cells #[.int .i64 0, .int .i64 0] 50 (0, 0)) (by (with_reducible repeat (first | refine blk_drewN ?_ _ | refine blk_drew ?_ | refine blk_alloc ?_ _)); exact BK293.out)) : gb295 ≠ gb293))
                clear BK293
                clear HB
                have BK293 := n0_
                have HB := n1_
                have BK295 := n2_
                have GW295 := n3_
                have GE295 := n4_
                have NB293_295 := n5_
                have NB295_293 := n6_
                clear n0_ n1_ n2_ n3_ n4_ n5_ n6_
                clear hb hbox hg
                refine hK.out _ _ ⟨((HB.out.cell (World.block_lt_of_cell? w _ hw290_0)).trans hw290_0), ((HB.out.cell (World.block_lt_of_cell? w _ hw290_1)).trans hw290_1), ((HB.out.cell (World.block_lt_of_cell? w _ hw291_0)).trans hw291_0), ((HB.out.cell (World.block_lt_of_cell? w _ hw291_1)).trans hw291_1), ((HB.out.cell (World.block_lt_of_cell? w _ hw292_0)).trans hw292_0), ((HB.out.cell (World.block_lt_of_cell? w _ hw292_1)).trans hw292_1)⟩ (fun hHeld => ?_)
                clear hK K
                refine norm_ (a' := ?_) ?_ ?_
                rotate_left
                ·
                 show Act.put _ (some 7) _ = _
                 simp only [Act.put, List.setIfInBounds_toArray, List.set_cons_zero, List.set_cons_succ, i64_w, i32_w]
                 rfl
                exact norm_ (by first | (simp only [putAll, Act.put, List.setIfInBounds_toArray, List.set_cons_zero, List.set_cons_succ]; done) | (simp only [putAll, Act.put, List.setIfInBounds_toArray, List.set_cons_zero, List.set_cons_succ]; rfl)) (hJ14_16 (gb293, gb295) _ ⟨hHeld, (by (with_reducible repeat (first | refine blk_drewN ?_ _ | refine blk_drew ?_ | refine blk_alloc ?_ _)); exact BK293.out), (by (with_reducible repeat (first | refine blk_drewN ?_ _ | refine blk_drew ?_ | refine blk_alloc ?_ _)); exact BK295.out), GW293.out, GE293.out, NB295_293.out, NB293_295.out, GW295.out, GE295.out, (by repeat (first | (with_reducible first | exact HB.out | apply below_alloc | apply pw_below_drewN | apply below_drew1 | refine below_set ?_ GE293.out | refine below_set ?_ GE295.out) | exact HB.out))⟩)
             ·
              skip
              rintro ⟨gb294, gb295⟩ w28 ⟨hS_, h0_, h1_, h2_, h3_, h4_, h5_, h6_, h7_, h8_⟩
              have n0_ : Aside0 (w28.heap[gb294]? = some (.cells #[.int .i64 0, .int .i64 0] 50 (0, 0))) := ⟨h0_⟩
              have n1_ : Aside0 (w28.heap[gb295]? = some (.cells #[.int .i64 0, .int .i64 0] 50 (0, 0))) := ⟨h1_⟩
              have n2_ : Aside0 (w.heap.size ≤ gb294) := ⟨h2_⟩
              have n3_ : Aside0 (w.heap.size ≤ gb294) := ⟨h3_⟩
              have n4_ : Aside0 (gb295 ≠ gb294) := ⟨h4_⟩
              have n5_ : Aside0 (gb294 ≠ gb295) := ⟨h5_⟩
              have n6_ : Aside0 (w.heap.size ≤ gb295) := ⟨h6_⟩
              have n7_ : Aside0 (w.heap.size ≤ gb295) := ⟨h7_⟩
              have n8_ : Aside0 (Below w.heap.size w w28) := ⟨h8_⟩
              clear HB
              clear h0_ h1_ h2_ h3_ h4_ h5_ h6_ h7_ h8_
              have BK294 := n0_
              have BK295 := n1_
              have GW294 := n2_
              have GE294 := n3_
              have NB295_294 := n4_
              have NB294_295 := n5_
              have GW295 := n6_
              have GE295 := n7_
              have HB := n8_
              clear n0_ n1_ n2_ n3_ n4_ n5_ n6_ n7_ n8_
              have hHeld : w28.cell? (ad290.add (((ji15)).toNat * 2)) = some (.int .i64 ((rd_T50 l0 (ji15)).f0)) ∧ w28.cell? ⟨(ad290.add (((ji15)).toNat * 2)).block, (ad290.add (((ji15)).toNat * 2)).off + 1, none⟩ = some (.int .i64 ((rd_T50 l0 (ji15)).f1)) ∧ w28.cell? (ad290.add ((a1).toNat * 2)) = some (.int .i64 ((rd_T50 l0 a1).f0)) ∧ w28.cell? ⟨(ad290.add ((a1).toNat * 2)).block, (ad290.add ((a1).toNat * 2)).off + 1, none⟩ = some (.int .i64 ((rd_T50 l0 a1).f1)) ∧ w28.cell? (ad290.add (((ji20)).toNat * 2)) = some (.int .i64 ((rd_T50 l0 (ji20)).f0)) ∧ w28.cell? ⟨(ad290.add (((ji20)).toNat * 2)).block, (ad290.add (((ji20)).toNat * 2)).off + 1, none⟩ = some (.int .i64 ((rd_T50 l0 (ji20)).f1)) := hS_
              refine norm_ (a' := ?_) ?_ ?_
              rotate_left
              ·
               simp only [putAll, Act.put, List.setIfInBounds_toArray, List.set_cons_zero, List.set_cons_succ]
               rfl
              refine one_ (i := 14) (N := some 5) #[true, true, true, true, true, true, true, true, true, true, true, true, true, true, true, true, true, false, false, false] rfl rfl (one_of HT_.out (by kernel_rfl)) (by decide) (fun K hK => ?_)
              refine box_step ?hg (N := 5) ?hd (cs := #[.int .i64 0, .int .i64 0]) (t := 50) ?hr ?_; (case hd => rfl); (case hg => rfl); (case hr => first | (go_simp; done) | (go_simp; rfl))
              intro gb293 hg w29 hbox hb
              have n0_ := Aside0.mk (blk_below (g := gb294) (o := .cells #[.int .i64 0, .int .i64 0] 50 (0, 0)) (by (with_reducible repeat (first | refine blk_drewN ?_ _ | refine blk_drew ?_ | refine blk_alloc ?_ _)); exact BK294.out) hb)
              have n1_ := Aside0.mk (blk_below (g := gb295) (o := .cells #[.int .i64 0, .int .i64 0] 50 (0, 0)) (by (with_reducible repeat (first | refine blk_drewN ?_ _ | refine blk_drew ?_ | refine blk_alloc ?_ _)); exact BK295.out) hb)
              have n2_ := Aside0.mk (below_step (by repeat (first | (with_reducible first | exact HB.out | apply below_alloc | apply pw_below_drewN | apply below_drew1 | refine below_set ?_ GE294.out | refine below_set ?_ GE295.out) | exact HB.out)) hb)
              have n3_ := Aside0.mk (hbox)
              have n4_ := Aside0.mk ((by rw [hg]; exact (below_size (by repeat (first | (with_reducible first | exact HB.out | apply below_alloc | apply pw_below_drewN | apply below_drew1 | refine below_set ?_ GE294.out | refine below_set ?_ GE295.out) | exact HB.out))) : w.heap.size ≤ gb293))
              have n5_ := Aside0.mk ((by rw [hg]; exact (below_size (by repeat (first | (with_reducible first | exact HB.out | apply below_alloc | apply pw_below_drewN | apply below_drew1 | refine below_set ?_ GE294.out | refine below_set ?_ GE295.out) | exact HB.out))) : w.heap.size ≤ gb293))
              have n6_ := Aside0.mk ((by rw [hg]; exact Nat.ne_of_lt (blk_lt (g := gb294) (o := .cells #[.int .i64 0, .int .i64 0] 50 (0, 0)) (by (with_reducible repeat (first | refine blk_drewN ?_ _ | refine blk_drew ?_ | refine blk_alloc ?_ _)); exact BK294.out)) : gb294 ≠ gb293))
              have n7_ := Aside0.mk ((by rw [hg]; exact Nat.ne_of_gt (blk_lt (g := gb294) (o := .cells #[.int .i64 0, .int .i64 0] 50 (0, 0)) (by (with_reducible repeat (first | refine blk_drewN ?_ _ | refine blk_drew ?_ | refine blk_alloc ?_ _)); exact BK294.out)) : gb293 ≠ gb294))
              have n8_ := Aside0.mk ((by rw [hg]; exact Nat.ne_of_lt (blk_lt (g := gb295) (o := .cells #[.int .i64 0, .int .i64 0] 50 (0, 0)) (by (with_reducible repeat (first | refine blk_drewN ?_ _ | refine blk_drew ?_ | refine blk_alloc ?_ _)); exact BK295.out)) : gb295 ≠ gb293))
              have n9_ := Aside0.mk ((by rw [hg]; exact Nat.ne_of_gt (blk_lt (g := gb295) (o := .cells #[.int .i64 0, .int .i64 0] 50 (0, 0)) (by (with_reducible repeat (first | refine blk_drewN ?_ _ | refine blk_drew ?_ | refine blk_alloc ?_ _)); exact BK295.out)) : gb293 ≠ gb295))
              clear BK294
              clear BK295
              clear HB
              have BK294 := n0_
              have BK295 := n1_
              have HB := n2_
              have BK293 := n3_
              have GW293 := n4_
              have GE293 := n5_
              have NB294_293 := n6_
              have NB293_294 := n7_
              have NB295_293 := n8_
              have NB293_295 := n9_
              clear n0_ n1_ n2_ n3_ n4_ n5_ n6_ n7_ n8_ n9_
              clear hb hbox hg
              refine hK.out _ _ ⟨((HB.out.cell (World.block_lt_of_cell? w _ hw290_0)).trans hw290_0), ((HB.out.cell (World.block_lt_of_cell? w _ hw290_1)).trans hw290_1), ((HB.out.cell (World.block_lt_of_cell? w _ hw291_0)).trans hw291_0), ((HB.out.cell (World.block_lt_of_cell? w _ hw291_1)).trans hw291_1), ((HB.out.cell (World.block_lt_of_cell? w _ hw292_0)).trans hw292_0), ((HB.out.cell (World.block_lt_of_cell? w _ hw292_1)).trans hw292_1)⟩ (fun hHeld => ?_)
              clear hK K
              refine norm_ (a' := ?_) ?_ ?_
              rotate_left
              ·
               show Act.put _ (some 5) _ = _
               simp only [Act.put, List.setIfInBounds_toArray, List.set_cons_zero, List.set_cons_succ, i64_w, i32_w]
               rfl
              exact norm_ (by first | (simp only [putAll, Act.put, List.setIfInBounds_toArray, List.set_cons_zero, List.set_cons_succ]; done) | (simp only [putAll, Act.put, List.setIfInBounds_toArray, List.set_cons_zero, List.set_cons_succ]; rfl)) (hJ14_15_16 (gb293, gb294, gb295) _ ⟨hHeld, (by (with_reducible repeat (first | refine blk_drewN ?_ _ | refine blk_drew ?_ | refine blk_alloc ?_ _)); exact BK293.out), (by (with_reducible repeat (first | refine blk_drewN ?_ _ | refine blk_drew ?_ | refine blk_alloc ?_ _)); exact BK294.out), (by (with_reducible repeat (first | refine blk_drewN ?_ _ | refine blk_drew ?_ | refine blk_alloc ?_ _)); exact BK295.out), GW293.out, GE293.out, NB294_293.out, NB293_294.out, NB295_293.out, NB293_295.out, GW294.out, GE294.out, NB295_294.out, NB294_295.out, GW295.out, GE295.out, (by repeat (first | (with_reducible first | exact HB.out | apply below_alloc | apply pw_below_drewN | apply below_drew1 | refine below_set ?_ GE294.out | refine below_set ?_ GE295.out | refine below_set ?_ GE293.out) | exact HB.out))⟩)
            ·
             skip
             rintro ⟨gb293, gb295⟩ w28 ⟨hS_, h0_, h1_, h2_, h3_, h4_, h5_, h6_, h7_, h8_⟩
             have n0_ : Aside0 (w28.heap[gb293]? = some (.cells #[.int .i64 0, .int .i64 0] 50 (0, 0))) := ⟨h0_⟩
             have n1_ : Aside0 (w28.heap[gb295]? = some (.cells #[.int .i64 0, .int .i64 0] 50 (0, 0))) := ⟨h1_⟩
             have n2_ : Aside0 (w.heap.size ≤ gb293) := ⟨h2_⟩
             have n3_ : Aside0 (w.heap.size ≤ gb293) := ⟨h3_⟩
             have n4_ : Aside0 (gb295 ≠ gb293) := ⟨h4_⟩
             have n5_ : Aside0 (gb293 ≠ gb295) := ⟨h5_⟩
             have n6_ : Aside0 (w.heap.size ≤ gb295) := ⟨h6_⟩
             have n7_ : Aside0 (w.heap.size ≤ gb295) := ⟨h7_⟩
             have n8_ : Aside0 (Below w.heap.size w w28) := ⟨h8_⟩
             clear HB
             clear h0_ h1_ h2_ h3_ h4_ h5_ h6_ h7_ h8_
             have BK293 := n0_
             have BK295 := n1_
             have GW293 := n2_
             have GE293 := n3_
             have NB295_293 := n4_
             have NB293_295 := n5_
             have GW295 := n6_
             have GE295 := n7_
             have HB := n8_
             clear n0_ n1_ n2_ n3_ n4_ n5_ n6_ n7_ n8_
             have hHeld : w28.cell? (ad290.add (((ji15)).toNat * 2)) = some (.int .i64 ((rd_T50 l0 (ji15)).f0)) ∧ w28.cell? ⟨(ad290.add (((ji15)).toNat * 2)).block, (ad290.add (((ji15)).toNat * 2)).off + 1, none⟩ = some (.int .i64 ((rd_T50 l0 (ji15)).f1)) ∧ w28.cell? (ad290.add ((a1).toNat * 2)) = some (.int .i64 ((rd_T50 l0 a1).f0)) ∧ w28.cell? ⟨(ad290.add ((a1).toNat * 2)).block, (ad290.add ((a1).toNat * 2)).off + 1, none⟩ = some (.int .i64 ((rd_T50 l0 a1).f1)) ∧ w28.cell? (ad290.add (((ji20)).toNat * 2)) = some (.int .i64 ((rd_T50 l0 (ji20)).f0)) ∧ w28.cell? ⟨(ad290.add (((ji20)).toNat * 2)).block, (ad290.add (((ji20)).toNat * 2)).off + 1, none⟩ = some (.int .i64 ((rd_T50 l0 (ji20)).f1)) := hS_
             refine norm_ (a' := ?_) ?_ ?_
             rotate_left
             ·
              simp only [putAll, Act.put, List.setIfInBounds_toArray, List.set_cons_zero, List.set_cons_succ]
              rfl
             refine one_ (i := 15) (N := some 6) #[true, true, true, true, true, true, true, true, true, true, true, true, true, true, true, true, true, false, false, false] rfl rfl (one_of HT_.out (by kernel_rfl)) (by decide) (fun K hK => ?_)
             refine box_step ?hg (N := 6) ?hd (cs := #[.int .i64 0, .int .i64 0]) (t := 50) ?hr ?_; (case hd => rfl); (case hg => rfl); (case hr => first | (go_simp; done) | (go_simp; rfl))
             intro gb294 hg w29 hbox hb
             have n0_ := Aside0.mk (blk_below (g := gb293) (o := .cells #[.int .i64 0, .int .i64 0] 50 (0, 0)) (by (with_reducible repeat (first | refine blk_drewN ?_ _ | refine blk_drew ?_ | refine blk_alloc ?_ _)); exact BK293.out) hb)
             have n1_ := Aside0.mk (blk_below (g := gb295) (o := .cells #[.int .i64 0, .int .i64 0] 50 (0, 0)) (by (with_reducible repeat (first | refine blk_drewN ?_ _ | refine blk_drew ?_ | refine blk_alloc ?_ _)); exact BK295.out) hb)
             have n2_ := Aside0.mk (below_step (by repeat (first | (with_reducible first | exact HB.out | apply below_alloc | apply pw_below_drewN | apply below_drew1 | refine below_set ?_ GE293.out | refine below_set ?_ GE295.out) | exact HB.out)) hb)
             have n3_ := Aside0.mk (hbox)
             have n4_ := Aside0.mk ((by rw [hg]; exact (below_size (by repeat (first | (with_reducible first | exact HB.out | apply below_alloc | apply pw_below_drewN | apply below_drew1 | refine below_set ?_ GE293.out | refine below_set ?_ GE295.out) | exact HB.out))) : w.heap.size ≤ gb294))
             have n5_ := Aside0.mk ((by rw [hg]; exact (below_size (by repeat (first | (with_reducible first | exact HB.out | apply below_alloc | apply pw_below_drewN | apply below_drew1 | refine below_set ?_ GE293.out | refine below_set ?_ GE295.out) | exact HB.out))) : w.heap.size ≤ gb294))
             have n6_ := Aside0.mk ((by rw [hg]; exact Nat.ne_of_lt (blk_lt (g := gb293) (o := .cells #[.int .i64 0, .int .i64 0] 50 (0, 0)) (by (with_reducible repeat (first | refine blk_drewN ?_ _ | refine blk_drew ?_ | refine blk_alloc ?_ _)); exact BK293.out)) : gb293 ≠ gb294))
             have n7_ := Aside0.mk ((by rw [hg]; exact Nat.ne_of_gt (blk_lt (g := gb293) (o := .cells #[.int .i64 0, .int .i64 0] 50 (0, 0)) (by (with_reducible repeat (first | refine blk_drewN ?_ _ | refine blk_drew ?_ | refine blk_alloc ?_ _)); exact BK293.out)) : gb294 ≠ gb293))
             have n8_ := Aside0.mk ((by rw [hg]; exact Nat.ne_of_lt (blk_lt (g := gb295) (o := .cells #[.int .i64 0, .int .i64 0] 50 (0, 0)) (by (with_reducible repeat (first | refine blk_drewN ?_ _ | refine blk_drew ?_ | refine blk_alloc ?_ _)); exact BK295.out)) : gb295 ≠ gb294))
             have n9_ := Aside0.mk ((by rw [hg]; exact Nat.ne_of_gt (blk_lt (g := gb295) (o := .cells #[.int .i64 0, .int .i64 0] 50 (0, 0)) (by (with_reducible repeat (first | refine blk_drewN ?_ _ | refine blk_drew ?_ | refine blk_alloc ?_ _)); exact BK295.out)) : gb294 ≠ gb295))
             clear BK293
             clear BK295
             clear HB
             have BK293 := n0_
             have BK295 := n1_
             have HB := n2_
             have BK294 := n3_
             have GW294 := n4_
             have GE294 := n5_
             have NB293_294 := n6_
             have NB294_293 := n7_
             have NB295_294 := n8_
             have NB294_295 := n9_
             clear n0_ n1_ n2_ n3_ n4_ n5_ n6_ n7_ n8_ n9_
             clear hb hbox hg
             refine hK.out _ _ ⟨((HB.out.cell (World.block_lt_of_cell? w _ hw290_0)).trans hw290_0), ((HB.out.cell (World.block_lt_of_cell? w _ hw290_1)).trans hw290_1), ((HB.out.cell (World.block_lt_of_cell? w _ hw291_0)).trans hw291_0), ((HB.out.cell (World.block_lt_of_cell? w _ hw291_1)).trans hw291_1), ((HB.out.cell (World.block_lt_of_cell? w _ hw292_0)).trans hw292_0), ((HB.out.cell (World.block_lt_of_cell? w _ hw292_1)).trans hw292_1)⟩ (fun hHeld => ?_)
             clear hK K
             refine norm_ (a' := ?_) ?_ ?_
             rotate_left
             ·
              show Act.put _ (some 6) _ = _
              simp only [Act.put, List.setIfInBounds_toArray, List.set_cons_zero, List.set_cons_succ, i64_w, i32_w]
              rfl
             exact norm_ (by first | (simp only [putAll, Act.put, List.setIfInBounds_toArray, List.set_cons_zero, List.set_cons_succ]; done) | (simp only [putAll, Act.put, List.setIfInBounds_toArray, List.set_cons_zero, List.set_cons_succ]; rfl)) (hJ14_15_16 (gb293, gb294, gb295) _ ⟨hHeld, (by (with_reducible repeat (first | refine blk_drewN ?_ _ | refine blk_drew ?_ | refine blk_alloc ?_ _)); exact BK293.out), (by (with_reducible repeat (first | refine blk_drewN ?_ _ | refine blk_drew ?_ | refine blk_alloc ?_ _)); exact BK294.out), (by (with_reducible repeat (first | refine blk_drewN ?_ _ | refine blk_drew ?_ | refine blk_alloc ?_ _)); exact BK295.out), GW293.out, GE293.out, NB294_293.out, NB293_294.out, NB295_293.out, NB293_295.out, GW294.out, GE294.out, NB295_294.out, NB294_295.out, GW295.out, GE295.out, (by repeat (first | (with_reducible first | exact HB.out | apply below_alloc | apply pw_below_drewN | apply below_drew1 | refine below_set ?_ GE293.out | refine below_set ?_ GE295.out | refine below_set ?_ GE294.out) | exact HB.out))⟩)
           ·
            skip
            rintro ⟨gb293, gb294⟩ w28 ⟨hS_, h0_, h1_, h2_, h3_, h4_, h5_, h6_, h7_, h8_⟩
            have n0_ : Aside0 (w28.heap[gb293]? = some (.cells #[.int .i64 0, .int .i64 0] 50 (0, 0))) := ⟨h0_⟩
            have n1_ : Aside0 (w28.heap[gb294]? = some (.cells #[.int .i64 0, .int .i64 0] 50 (0, 0))) := ⟨h1_⟩
            have n2_ : Aside0 (w.heap.size ≤ gb293) := ⟨h2_⟩
            have n3_ : Aside0 (w.heap.size ≤ gb293) := ⟨h3_⟩
            have n4_ : Aside0 (gb294 ≠ gb293) := ⟨h4_⟩
            have n5_ : Aside0 (gb293 ≠ gb294) := ⟨h5_⟩
            have n6_ : Aside0 (w.heap.size ≤ gb294) := ⟨h6_⟩
            have n7_ : Aside0 (w.heap.size ≤ gb294) := ⟨h7_⟩
            have n8_ : Aside0 (Below w.heap.size w w28) := ⟨h8_⟩
            clear HB
            clear h0_ h1_ h2_ h3_ h4_ h5_ h6_ h7_ h8_
            have BK293 := n0_
            have BK294 := n1_
            have GW293 := n2_
            have GE293 := n3_
            have NB294_293 := n4_
            have NB293_294 := n5_
            have GW294 := n6_
            have GE294 := n7_
            have HB := n8_
            clear n0_ n1_ n2_ n3_ n4_ n5_ n6_ n7_ n8_
            have hHeld : w28.cell? (ad290.add (((ji15)).toNat * 2)) = some (.int .i64 ((rd_T50 l0 (ji15)).f0)) ∧ w28.cell? ⟨(ad290.add (((ji15)).toNat * 2)).block, (ad290.add (((ji15)).toNat * 2)).off + 1, none⟩ = some (.int .i64 ((rd_T50 l0 (ji15)).f1)) ∧ w28.cell? (ad290.add ((a1).toNat * 2)) = some (.int .i64 ((rd_T50 l0 a1).f0)) ∧ w28.cell? ⟨(ad290.add ((a1).toNat * 2)).block, (ad290.add ((a1).toNat * 2)).off + 1, none⟩ = some (.int .i64 ((rd_T50 l0 a1).f1)) ∧ w28.cell? (ad290.add (((ji20)).toNat * 2)) = some (.int .i64 ((rd_T50 l0 (ji20)).f0)) ∧ w28.cell? ⟨(ad290.add (((ji20)).toNat * 2)).block, (ad290.add (((ji20)).toNat * 2)).off + 1, none⟩ = some (.int .i64 ((rd_T50 l0 (ji20)).f1)) := hS_
            refine norm_ (a' := ?_) ?_ ?_
            rotate_left
            ·
             simp only [putAll, Act.put, List.setIfInBounds_toArray, List.set_cons_zero, List.set_cons_succ]
             rfl
            refine one_ (i := 16) (N := some 7) #[true, true, true, true, true, true, true, true, true, true, true, true, true, true, true, true, true, false, false, false] rfl rfl (one_of HT_.out (by kernel_rfl)) (by decide) (fun K hK => ?_)
            refine box_step ?hg (N := 7) ?hd (cs := #[.int .i64 0, .int .i64 0]) (t := 50) ?hr ?_; (case hd => rfl); (case hg => rfl); (case hr => first | (go_simp; done) | (go_simp; rfl))
            intro gb295 hg w29 hbox hb
            have n0_ := Aside0.mk (blk_below (g := gb293) (o := .cells #[.int .i64 0, .int .i64 0] 50 (0, 0)) (by (with_reducible repeat (first | refine blk_drewN ?_ _ | refine blk_drew ?_ | refine blk_alloc ?_ _)); exact BK293.out) hb)
            have n1_ := Aside0.mk (blk_below (g := gb294) (o := .cells #[.int .i64 0, .int .i64 0] 50 (0, 0)) (by (with_reducible repeat (first | refine blk_drewN ?_ _ | refine blk_drew ?_ | refine blk_alloc ?_ _)); exact BK294.out) hb)
            have n2_ := Aside0.mk (below_step (by repeat (first | (with_reducible first | exact HB.out | apply below_alloc | apply pw_below_drewN | apply below_drew1 | refine below_set ?_ GE293.out | refine below_set ?_ GE294.out) | exact HB.out)) hb)
            have n3_ := Aside0.mk (hbox)
            have n4_ := Aside0.mk ((by rw [hg]; exact (below_size (by repeat (first | (with_reducible first | exact HB.out | apply below_alloc | apply pw_below_drewN | apply below_drew1 | refine below_set ?_ GE293.out | refine below_set ?_ GE294.out) | exact HB.out))) : w.heap.size ≤ gb295))
            have n5_ := Aside0.mk ((by rw [hg]; exact (below_size (by repeat (first | (with_reducible first | exact HB.out | apply below_alloc | apply pw_below_drewN | apply below_drew1 | refine below_set ?_ GE293.out | refine below_set ?_ GE294.out) | exact HB.out))) : w.heap.size ≤ gb295))
            have n6_ := Aside0.mk ((by rw [hg]; exact Nat.ne_of_lt (blk_lt (g := gb293) (o := .cells #[.int .i64 0, .int .i64 0] 50 (0, 0)) (by (with_reducible repeat (first | refine blk_drewN ?_ _ | refine blk_drew ?_ | refine blk_alloc ?_ _)); exact BK293.out)) : gb293 ≠ gb295))
            have n7_ := Aside0.mk ((by rw [hg]; exact Nat.ne_of_gt (blk_lt (g := gb293) (o := .cells #[.int .i64 0, .int .i64 0] 50 (0, 0)) (by (with_reducible repeat (first | refine blk_drewN ?_ _ | refine blk_drew ?_ | refine blk_alloc ?_ _)); exact BK293.out)) : gb295 ≠ gb293))
            have n8_ := Aside0.mk ((by rw [hg]; exact Nat.ne_of_lt (blk_lt (g := gb294) (o := .cells #[.int .i64 0, .int .i64 0] 50 (0, 0)) (by (with_reducible repeat (first | refine blk_drewN ?_ _ | refine blk_drew ?_ | refine blk_alloc ?_ _)); exact BK294.out)) : gb294 ≠ gb295))
            have n9_ := Aside0.mk ((by rw [hg]; exact Nat.ne_of_gt (blk_lt (g := gb294) (o := .cells #[.int .i64 0, .int .i64 0] 50 (0, 0)) (by (with_reducible repeat (first | refine blk_drewN ?_ _ | refine blk_drew ?_ | refine blk_alloc ?_ _)); exact BK294.out)) : gb295 ≠ gb294))
            clear BK293
            clear BK294
            clear HB
            have BK293 := n0_
            have BK294 := n1_
            have HB := n2_
            have BK295 := n3_
            have GW295 := n4_
            have GE295 := n5_
            have NB293_295 := n6_
            have NB295_293 := n7_
            have NB294_295 := n8_
            have NB295_294 := n9_
            clear n0_ n1_ n2_ n3_ n4_ n5_ n6_ n7_ n8_ n9_
            clear hb hbox hg
            refine hK.out _ _ ⟨((HB.out.cell (World.block_lt_of_cell? w _ hw290_0)).trans hw290_0), ((HB.out.cell (World.block_lt_of_cell? w _ hw290_1)).trans hw290_1), ((HB.out.cell (World.block_lt_of_cell? w _ hw291_0)).trans hw291_0), ((HB.out.cell (World.block_lt_of_cell? w _ hw291_1)).trans hw291_1), ((HB.out.cell (World.block_lt_of_cell? w _ hw292_0)).trans hw292_0), ((HB.out.cell (World.block_lt_of_cell? w _ hw292_1)).trans hw292_1)⟩ (fun hHeld => ?_)
            clear hK K
            refine norm_ (a' := ?_) ?_ ?_
            rotate_left
            ·
             show Act.put _ (some 7) _ = _
             simp only [Act.put, List.setIfInBounds_toArray, List.set_cons_zero, List.set_cons_succ, i64_w, i32_w]
             rfl
            exact norm_ (by first | (simp only [putAll, Act.put, List.setIfInBounds_toArray, List.set_cons_zero, List.set_cons_succ]; done) | (simp only [putAll, Act.put, List.setIfInBounds_toArray, List.set_cons_zero, List.set_cons_succ]; rfl)) (hJ14_15_16 (gb293, gb294, gb295) _ ⟨hHeld, (by (with_reducible repeat (first | refine blk_drewN ?_ _ | refine blk_drew ?_ | refine blk_alloc ?_ _)); exact BK293.out), (by (with_reducible repeat (first | refine blk_drewN ?_ _ | refine blk_drew ?_ | refine blk_alloc ?_ _)); exact BK294.out), (by (with_reducible repeat (first | refine blk_drewN ?_ _ | refine blk_drew ?_ | refine blk_alloc ?_ _)); exact BK295.out), GW293.out, GE293.out, NB294_293.out, NB293_294.out, NB295_293.out, NB293_295.out, GW294.out, GE294.out, NB295_294.out, NB294_295.out, GW295.out, GE295.out, (by repeat (first | (with_reducible first | exact HB.out | apply below_alloc | apply pw_below_drewN | apply below_drew1 | refine below_set ?_ GE293.out | refine below_set ?_ GE294.out | refine below_set ?_ GE295.out) | exact HB.out))⟩)
          rintro ⟨gb293, gb294, gb295⟩ w29 ⟨hS_, h0_, h1_, h2_, h3_, h4_, h5_, h6_, h7_, h8_, h9_, h10_, h11_, h12_, h13_, h14_, h15_⟩
          have n0_ : Aside0 (w29.heap[gb293]? = some (.cells #[.int .i64 0, .int .i64 0] 50 (0, 0))) := ⟨h0_⟩
          have n1_ : Aside0 (w29.heap[gb294]? = some (.cells #[.int .i64 0, .int .i64 0] 50 (0, 0))) := ⟨h1_⟩
          have n2_ : Aside0 (w29.heap[gb295]? = some (.cells #[.int .i64 0, .int .i64 0] 50 (0, 0))) := ⟨h2_⟩
          have n3_ : Aside0 (w.heap.size ≤ gb293) := ⟨h3_⟩
          have n4_ : Aside0 (w.heap.size ≤ gb293) := ⟨h4_⟩
          have n5_ : Aside0 (gb294 ≠ gb293) := ⟨h5_⟩
          have n6_ : Aside0 (gb293 ≠ gb294) := ⟨h6_⟩
          have n7_ : Aside0 (gb295 ≠ gb293) := ⟨h7_⟩
          have n8_ : Aside0 (gb293 ≠ gb295) := ⟨h8_⟩
          have n9_ : Aside0 (w.heap.size ≤ gb294) := ⟨h9_⟩
          have n10_ : Aside0 (w.heap.size ≤ gb294) := ⟨h10_⟩
          have n11_ : Aside0 (gb295 ≠ gb294) := ⟨h11_⟩
          have n12_ : Aside0 (gb294 ≠ gb295) := ⟨h12_⟩
          have n13_ : Aside0 (w.heap.size ≤ gb295) := ⟨h13_⟩
          have n14_ : Aside0 (w.heap.size ≤ gb295) := ⟨h14_⟩
          have n15_ : Aside0 (Below w.heap.size w w29) := ⟨h15_⟩
          clear HB
          clear h0_ h1_ h2_ h3_ h4_ h5_ h6_ h7_ h8_ h9_ h10_ h11_ h12_ h13_ h14_ h15_
          have BK293 := n0_
          have BK294 := n1_
          have BK295 := n2_
          have GW293 := n3_
          have GE293 := n4_
          have NB294_293 := n5_
          have NB293_294 := n6_
          have NB295_293 := n7_
          have NB293_295 := n8_
          have GW294 := n9_
          have GE294 := n10_
          have NB295_294 := n11_
          have NB294_295 := n12_
          have GW295 := n13_
          have GE295 := n14_
          have HB := n15_
          clear n0_ n1_ n2_ n3_ n4_ n5_ n6_ n7_ n8_ n9_ n10_ n11_ n12_ n13_ n14_ n15_
          have hHeld : w29.cell? (ad290.add (((ji15)).toNat * 2)) = some (.int .i64 ((rd_T50 l0 (ji15)).f0)) ∧ w29.cell? ⟨(ad290.add (((ji15)).toNat * 2)).block, (ad290.add (((ji15)).toNat * 2)).off + 1, none⟩ = some (.int .i64 ((rd_T50 l0 (ji15)).f1)) ∧ w29.cell? (ad290.add ((a1).toNat * 2)) = some (.int .i64 ((rd_T50 l0 a1).f0)) ∧ w29.cell? ⟨(ad290.add ((a1).toNat * 2)).block, (ad290.add ((a1).toNat * 2)).off + 1, none⟩ = some (.int .i64 ((rd_T50 l0 a1).f1)) ∧ w29.cell? (ad290.add (((ji20)).toNat * 2)) = some (.int .i64 ((rd_T50 l0 (ji20)).f0)) ∧ w29.cell? ⟨(ad290.add (((ji20)).toNat * 2)).block, (ad290.add (((ji20)).toNat * 2)).off + 1, none⟩ = some (.int .i64 ((rd_T50 l0 (ji20)).f1)) := hS_
          refine norm_ (a' := ?_) ?_ ?_
          rotate_left
          ·
           simp only [putAll, Act.put, List.setIfInBounds_toArray, List.set_cons_zero, List.set_cons_succ]
           rfl
          refine one_ (i := 17) (N := none) #[true, true, true, true, true, true, true, true, true, true, true, true, true, true, true, true, true, true, false, false] rfl rfl (one_of HT_.out (by kernel_rfl)) (by decide) (fun K hK => ?_)
          have hs30 : w29.cell? ⟨gb293, 0, none⟩ = some (.int .i64 0) := (blk_cell BK293.out 0).trans rfl
          have hfs30 := blk_frozen BK293.out 0
          have hns30_1 := NB294_293.out
          have hns30_2 := NB295_293.out
          have hms30_1 := NB293_294.out
          have hms30_2 := NB293_295.out
          have hs31 : w29.cell? ⟨gb293, 1, none⟩ = some (.int .i64 0) := (blk_cell BK293.out 1).trans rfl
          have hfs31 := blk_frozen BK293.out 1
          have hns31_1 := NB294_293.out
          have hns31_2 := NB295_293.out
          have hms31_1 := NB293_294.out
          have hms31_2 := NB293_295.out
          refine skip_ (w1 := ?_) (by rfl) rfl ?_ ?_
          rotate_left
          ·
           go_simp
           rfl
          refine hK.out _ _ ⟨((cell_far (p := ⟨gb293, _, none⟩) (by first | exact Nat.ne_of_lt (Nat.lt_of_lt_of_le (by have := World.block_lt_of_cell? _ _ hw290_0; first | rwa [add_block] at this | exact this) GW293.out) | (rw [add_block]; exact Nat.ne_of_lt (Nat.lt_of_lt_of_le (by have := World.block_lt_of_cell? _ _ hw290_0; first | rwa [add_block] at this | exact this) GW293.out)) | (show (Addr.add _ _).block ≠ _; rw [add_block]; exact Nat.ne_of_lt (Nat.lt_of_lt_of_le (by have := World.block_lt_of_cell? _ _ hw290_0; first | rwa [add_block] at this | exact this) GW293.out)) | (dsimp only; exact Nat.ne_of_lt (Nat.lt_of_lt_of_le (by have := World.block_lt_of_cell? _ _ hw290_0; first | rwa [add_block] at this | exact this) GW293.out))) _).trans (((cell_far (p := ⟨gb293, _, none⟩) (by first | exact Nat.ne_of_lt (Nat.lt_of_lt_of_le (by have := World.block_lt_of_cell? _ _ hw290_0; first | rwa [add_block] at this | exact this) GW293.out) | (rw [add_block]; exact Nat.ne_of_lt (Nat.lt_of_lt_of_le (by have := World.block_lt_of_cell? _ _ hw290_0; first | rwa [add_block] at this | exact this) GW293.out)) | (show (Addr.add _ _).block ≠ _; rw [add_block]; exact Nat.ne_of_lt (Nat.lt_of_lt_of_le (by have := World.block_lt_of_cell? _ _ hw290_0; first | rwa [add_block] at this | exact this) GW293.out)) | (dsimp only; exact Nat.ne_of_lt (Nat.lt_of_lt_of_le (by have := World.block_lt_of_cell? _ _ hw290_0; first | rwa [add_block] at this | exact this) GW293.out))) _).trans (hHeld.1)))), ((cell_far (p := ⟨gb293, _, none⟩) (by first | exact Nat.ne_of_lt (Nat.lt_of_lt_of_le (by have := World.block_lt_of_cell? _ _ hw290_1; first | rwa [add_block] at this | exact this) GW293.out) | (rw [add_block]; exact Nat.ne_of_lt (Nat.lt_of_lt_of_le (by have := World.block_lt_of_cell? _ _ hw290_1; first | rwa [add_block] at this | exact this) GW293.out)) | (show (Addr.add _ _).block ≠ _; rw [add_block]; exact Nat.ne_of_lt (Nat.lt_of_lt_of_le (by have := World.block_lt_of_cell? _ _ hw290_1; first | rwa [add_block] at this | exact this) GW293.out)) | (dsimp only; exact Nat.ne_of_lt (Nat.lt_of_lt_of_le (by have := World.block_lt_of_cell? _ _ hw290_1; first | rwa [add_block] at this | exact this) GW293.out))) _).trans (((cell_far (p := ⟨gb293, _, none⟩) (by first | exact Nat.ne_of_lt (Nat.lt_of_lt_of_le (by have := World.block_lt_of_cell? _ _ hw290_1; first | rwa [add_block] at this | exact this) GW293.out) | (rw [add_block]; exact Nat.ne_of_lt (Nat.lt_of_lt_of_le (by have := World.block_lt_of_cell? _ _ hw290_1; first | rwa [add_block] at this | exact this) GW293.out)) | (show (Addr.add _ _).block ≠ _; rw [add_block]; exact Nat.ne_of_lt (Nat.lt_of_lt_of_le (by have := World.block_lt_of_cell? _ _ hw290_1; first | rwa [add_block] at this | exact this) GW293.out)) | (dsimp only; exact Nat.ne_of_lt (Nat.lt_of_lt_of_le (by have := World.block_lt_of_cell? _ _ hw290_1; first | rwa [add_block] at this | exact this) GW293.out))) _).trans (hHeld.2.1)))), ((cell_far (p := ⟨gb293, _, none⟩) (by first | exact Nat.ne_of_lt (Nat.lt_of_lt_of_le (by have := World.block_lt_of_cell? _ _ hw291_0; first | rwa [add_block] at this | exact this) GW293.out) | (rw [add_block]; exact Nat.ne_of_lt (Nat.lt_of_lt_of_le (by have := World.block_lt_of_cell? _ _ hw291_0; first | rwa [add_block] at this | exact this) GW293.out)) | (show (Addr.add _ _).block ≠ _; rw [add_block]; exact Nat.ne_of_lt (Nat.lt_of_lt_of_le (by have := World.block_lt_of_cell? _ _ hw291_0; first | rwa [add_block] at this | exact this) GW293.out)) | (dsimp only; exact Nat.ne_of_lt (Nat.lt_of_lt_of_le (by have := World.block_lt_of_cell? _ _ hw291_0; first | rwa [add_block] at this | exact this) GW293.out))) _).trans (((cell_far (p := ⟨gb293, _, none⟩) (by first | exact Nat.ne_of_lt (Nat.lt_of_lt_of_le (by have := World.block_lt_of_cell? _ _ hw291_0; first | rwa [add_block] at this | exact this) GW293.out) | (rw [add_block]; exact Nat.ne_of_lt (Nat.lt_of_lt_of_le (by have := World.block_lt_of_cell? _ _ hw291_0; first | rwa [add_block] at this | exact this) GW293.out)) | (show (Addr.add _ _).block ≠ _; rw [add_block]; exact Nat.ne_of_lt (Nat.lt_of_lt_of_le (by have := World.block_lt_of_cell? _ _ hw291_0; first | rwa [add_block] at this | exact this) GW293.out)) | (dsimp only; exact Nat.ne_of_lt (Nat.lt_of_lt_of_le (by have := World.block_lt_of_cell? _ _ hw291_0; first | rwa [add_block] at this | exact this) GW293.out))) _).trans (hHeld.2.2.1)))), ((cell_far (p := ⟨gb293, _, none⟩) (by first | exact Nat.ne_of_lt (Nat.lt_of_lt_of_le (by have := World.block_lt_of_cell? _ _ hw291_1; first | rwa [add_block] at this | exact this) GW293.out) | (rw [add_block]; exact Nat.ne_of_lt (Nat.lt_of_lt_of_le (by have := World.block_lt_of_cell? _ _ hw291_1; first | rwa [add_block] at this | exact this) GW293.out)) | (show (Addr.add _ _).block ≠ _; rw [add_block]; exact Nat.ne_of_lt (Nat.lt_of_lt_of_le (by have := World.block_lt_of_cell? _ _ hw291_1; first | rwa [add_block] at this | exact this) GW293.out)) | (dsimp only; exact Nat.ne_of_lt (Nat.lt_of_lt_of_le (by have := World.block_lt_of_cell? _ _ hw291_1; first | rwa [add_block] at this | exact this) GW293.out))) _).trans (((cell_far (p := ⟨gb293, _, none⟩) (by first | exact Nat.ne_of_lt (Nat.lt_of_lt_of_le (by have := World.block_lt_of_cell? _ _ hw291_1; first | rwa [add_block] at this | exact this) GW293.out) | (rw [add_block]; exact Nat.ne_of_lt (Nat.lt_of_lt_of_le (by have := World.block_lt_of_cell? _ _ hw291_1; first | rwa [add_block] at this | exact this) GW293.out)) | (show (Addr.add _ _).block ≠ _; rw [add_block]; exact Nat.ne_of_lt (Nat.lt_of_lt_of_le (by have := World.block_lt_of_cell? _ _ hw291_1; first | rwa [add_block] at this | exact this) GW293.out)) | (dsimp only; exact Nat.ne_of_lt (Nat.lt_of_lt_of_le (by have := World.block_lt_of_cell? _ _ hw291_1; first | rwa [add_block] at this | exact this) GW293.out))) _).trans (hHeld.2.2.2.1)))), ((cell_far (p := ⟨gb293, _, none⟩) (by first | exact Nat.ne_of_lt (Nat.lt_of_lt_of_le (by have := World.block_lt_of_cell? _ _ hw292_0; first | rwa [add_block] at this | exact this) GW293.out) | (rw [add_block]; exact Nat.ne_of_lt (Nat.lt_of_lt_of_le (by have := World.block_lt_of_cell? _ _ hw292_0; first | rwa [add_block] at this | exact this) GW293.out)) | (show (Addr.add _ _).block ≠ _; rw [add_block]; exact Nat.ne_of_lt (Nat.lt_of_lt_of_le (by have := World.block_lt_of_cell? _ _ hw292_0; first | rwa [add_block] at this | exact this) GW293.out)) | (dsimp only; exact Nat.ne_of_lt (Nat.lt_of_lt_of_le (by have := World.block_lt_of_cell? _ _ hw292_0; first | rwa [add_block] at this | exact this) GW293.out))) _).trans (((cell_far (p := ⟨gb293, _, none⟩) (by first | exact Nat.ne_of_lt (Nat.lt_of_lt_of_le (by have := World.block_lt_of_cell? _ _ hw292_0; first | rwa [add_block] at this | exact this) GW293.out) | (rw [add_block]; exact Nat.ne_of_lt (Nat.lt_of_lt_of_le (by have := World.block_lt_of_cell? _ _ hw292_0; first | rwa [add_block] at this | exact this) GW293.out)) | (show (Addr.add _ _).block ≠ _; rw [add_block]; exact Nat.ne_of_lt (Nat.lt_of_lt_of_le (by have := World.block_lt_of_cell? _ _ hw292_0; first | rwa [add_block] at this | exact this) GW293.out)) | (dsimp only; exact Nat.ne_of_lt (Nat.lt_of_lt_of_le (by have := World.block_lt_of_cell? _ _ hw292_0; first | rwa [add_block] at this | exact this) GW293.out))) _).trans (hHeld.2.2.2.2.1)))), ((cell_far (p := ⟨gb293, _, none⟩) (by first | exact Nat.ne_of_lt (Nat.lt_of_lt_of_le (by have := World.block_lt_of_cell? _ _ hw292_1; first | rwa [add_block] at this | exact this) GW293.out) | (rw [add_block]; exact Nat.ne_of_lt (Nat.lt_of_lt_of_le (by have := World.block_lt_of_cell? _ _ hw292_1; first | rwa [add_block] at this | exact this) GW293.out)) | (show (Addr.add _ _).block ≠ _; rw [add_block]; exact Nat.ne_of_lt (Nat.lt_of_lt_of_le (by have := World.block_lt_of_cell? _ _ hw292_1; first | rwa [add_block] at this | exact this) GW293.out)) | (dsimp only; exact Nat.ne_of_lt (Nat.lt_of_lt_of_le (by have := World.block_lt_of_cell? _ _ hw292_1; first | rwa [add_block] at this | exact this) GW293.out))) _).trans (((cell_far (p := ⟨gb293, _, none⟩) (by first | exact Nat.ne_of_lt (Nat.lt_of_lt_of_le (by have := World.block_lt_of_cell? _ _ hw292_1; first | rwa [add_block] at this | exact this) GW293.out) | (rw [add_block]; exact Nat.ne_of_lt (Nat.lt_of_lt_of_le (by have := World.block_lt_of_cell? _ _ hw292_1; first | rwa [add_block] at this | exact this) GW293.out)) | (show (Addr.add _ _).block ≠ _; rw [add_block]; exact Nat.ne_of_lt (Nat.lt_of_lt_of_le (by have := World.block_lt_of_cell? _ _ hw292_1; first | rwa [add_block] at this | exact this) GW293.out)) | (dsimp only; exact Nat.ne_of_lt (Nat.lt_of_lt_of_le (by have := World.block_lt_of_cell? _ _ hw292_1; first | rwa [add_block] at this | exact this) GW293.out))) _).trans (hHeld.2.2.2.2.2))))⟩ (fun hHeld => ?_)
          clear hK K
          refine one_ (i := 18) (N := none) #[true, true, true, true, true, true, true, true, true, true, true, true, true, true, true, true, true, true, true, false] rfl rfl (one_of HT_.out (by kernel_rfl)) (by decide) (fun K hK => ?_)
          have hs32 : w29.cell? ⟨gb294, 0, none⟩ = some (.int .i64 0) := (blk_cell BK294.out 0).trans rfl
          have hfs32 := blk_frozen BK294.out 0
          have hns32_0 := NB293_294.out
          have hns32_2 := NB295_294.out
          have hms32_0 := NB294_293.out
          have hms32_2 := NB294_295.out
          have hs33 : w29.cell? ⟨gb294, 1, none⟩ = some (.int .i64 0) := (blk_cell BK294.out 1).trans rfl
          have hfs33 := blk_frozen BK294.out 1
          have hns33_0 := NB293_294.out
          have hns33_2 := NB295_294.out
          have hms33_0 := NB294_293.out
          have hms33_2 := NB294_295.out
          refine skip_ (w1 := ?_) (by rfl) rfl ?_ ?_
          rotate_left
          ·
           go_simp
           rfl
          refine hK.out _ _ ⟨((cell_far (p := ⟨gb294, _, none⟩) (by first | exact Nat.ne_of_lt (Nat.lt_of_lt_of_le (by have := World.block_lt_of_cell? _ _ hw290_0; first | rwa [add_block] at this | exact this) GW294.out) | (rw [add_block]; exact Nat.ne_of_lt (Nat.lt_of_lt_of_le (by have := World.block_lt_of_cell? _ _ hw290_0; first | rwa [add_block] at this | exact this) GW294.out)) | (show (Addr.add _ _).block ≠ _; rw [add_block]; exact Nat.ne_of_lt (Nat.lt_of_lt_of_le (by have := World.block_lt_of_cell? _ _ hw290_0; first | rwa [add_block] at this | exact this) GW294.out)) | (dsimp only; exact Nat.ne_of_lt (Nat.lt_of_lt_of_le (by have := World.block_lt_of_cell? _ _ hw290_0; first | rwa [add_block] at this | exact this) GW294.out))) _).trans (((cell_far (p := ⟨gb294, _, none⟩) (by first | exact Nat.ne_of_lt (Nat.lt_of_lt_of_le (by have := World.block_lt_of_cell? _ _ hw290_0; first | rwa [add_block] at this | exact this) GW294.out) | (rw [add_block]; exact Nat.ne_of_lt (Nat.lt_of_lt_of_le (by have := World.block_lt_of_cell? _ _ hw290_0; first | rwa [add_block] at this | exact this) GW294.out)) | (show (Addr.add _ _).block ≠ _; rw [add_block]; exact Nat.ne_of_lt (Nat.lt_of_lt_of_le (by have := World.block_lt_of_cell? _ _ hw290_0; first | rwa [add_block] at this | exact this) GW294.out)) | (dsimp only; exact Nat.ne_of_lt (Nat.lt_of_lt_of_le (by have := World.block_lt_of_cell? _ _ hw290_0; first | rwa [add_block] at this | exact this) GW294.out))) _).trans (hHeld.1)))), ((cell_far (p := ⟨gb294, _, none⟩) (by first | exact Nat.ne_of_lt (Nat.lt_of_lt_of_le (by have := World.block_lt_of_cell? _ _ hw290_1; first | rwa [add_block] at this | exact this) GW294.out) | (rw [add_block]; exact Nat.ne_of_lt (Nat.lt_of_lt_of_le (by have := World.block_lt_of_cell? _ _ hw290_1; first | rwa [add_block] at this | exact this) GW294.out)) | (show (Addr.add _ _).block ≠ _; rw [add_block]; exact Nat.ne_of_lt (Nat.lt_of_lt_of_le (by have := World.block_lt_of_cell? _ _ hw290_1; first | rwa [add_block] at this | exact this) GW294.out)) | (dsimp only; exact Nat.ne_of_lt (Nat.lt_of_lt_of_le (by have := World.block_lt_of_cell? _ _ hw290_1; first | rwa [add_block] at this | exact this) GW294.out))) _).trans (((cell_far (p := ⟨gb294, _, none⟩) (by first | exact Nat.ne_of_lt (Nat.lt_of_lt_of_le (by have := World.block_lt_of_cell? _ _ hw290_1; first | rwa [add_block] at this | exact this) GW294.out) | (rw [add_block]; exact Nat.ne_of_lt (Nat.lt_of_lt_of_le (by have := World.block_lt_of_cell? _ _ hw290_1; first | rwa [add_block] at this | exact this) GW294.out)) | (show (Addr.add _ _).block ≠ _; rw [add_block]; exact Nat.ne_of_lt (Nat.lt_of_lt_of_le (by have := World.block_lt_of_cell? _ _ hw290_1; first | rwa [add_block] at this | exact this) GW294.out)) | (dsimp only; exact Nat.ne_of_lt (Nat.lt_of_lt_of_le (by have := World.block_lt_of_cell? _ _ hw290_1; first | rwa [add_block] at this | exact this) GW294.out))) _).trans (hHeld.2.1)))), ((cell_far (p := ⟨gb294, _, none⟩) (by first | exact Nat.ne_of_lt (Nat.lt_of_lt_of_le (by have := World.block_lt_of_cell? _ _ hw291_0; first | rwa [add_block] at this | exact this) GW294.out) | (rw [add_block]; exact Nat.ne_of_lt (Nat.lt_of_lt_of_le (by have := World.block_lt_of_cell? _ _ hw291_0; first | rwa [add_block] at this | exact this) GW294.out)) | (show (Addr.add _ _).block ≠ _; rw [add_block]; exact Nat.ne_of_lt (Nat.lt_of_lt_of_le (by have := World.block_lt_of_cell? _ _ hw291_0; first | rwa [add_block] at this | exact this) GW294.out)) | (dsimp only; exact Nat.ne_of_lt (Nat.lt_of_lt_of_le (by have := World.block_lt_of_cell? _ _ hw291_0; first | rwa [add_block] at this | exact this) GW294.out))) _).trans (((cell_far (p := ⟨gb294, _, none⟩) (by first | exact Nat.ne_of_lt (Nat.lt_of_lt_of_le (by have := World.block_lt_of_cell? _ _ hw291_0; first | rwa [add_block] at this | exact this) GW294.out) | (rw [add_block]; exact Nat.ne_of_lt (Nat.lt_of_lt_of_le (by have := World.block_lt_of_cell? _ _ hw291_0; first | rwa [add_block] at this | exact this) GW294.out)) | (show (Addr.add _ _).block ≠ _; rw [add_block]; exact Nat.ne_of_lt (Nat.lt_of_lt_of_le (by have := World.block_lt_of_cell? _ _ hw291_0; first | rwa [add_block] at this | exact this) GW294.out)) | (dsimp only; exact Nat.ne_of_lt (Nat.lt_of_lt_of_le (by have := World.block_lt_of_cell? _ _ hw291_0; first | rwa [add_block] at this | exact this) GW294.out))) _).trans (hHeld.2.2.1)))), ((cell_far (p := ⟨gb294, _, none⟩) (by first | exact Nat.ne_of_lt (Nat.lt_of_lt_of_le (by have := World.block_lt_of_cell? _ _ hw291_1; first | rwa [add_block] at this | exact this) GW294.out) | (rw [add_block]; exact Nat.ne_of_lt (Nat.lt_of_lt_of_le (by have := World.block_lt_of_cell? _ _ hw291_1; first | rwa [add_block] at this | exact this) GW294.out)) | (show (Addr.add _ _).block ≠ _; rw [add_block]; exact Nat.ne_of_lt (Nat.lt_of_lt_of_le (by have := World.block_lt_of_cell? _ _ hw291_1; first | rwa [add_block] at this | exact this) GW294.out)) | (dsimp only; exact Nat.ne_of_lt (Nat.lt_of_lt_of_le (by have := World.block_lt_of_cell? _ _ hw291_1; first | rwa [add_block] at this | exact this) GW294.out))) _).trans (((cell_far (p := ⟨gb294, _, none⟩) (by first | exact Nat.ne_of_lt (Nat.lt_of_lt_of_le (by have := World.block_lt_of_cell? _ _ hw291_1; first | rwa [add_block] at this | exact this) GW294.out) | (rw [add_block]; exact Nat.ne_of_lt (Nat.lt_of_lt_of_le (by have := World.block_lt_of_cell? _ _ hw291_1; first | rwa [add_block] at this | exact this) GW294.out)) | (show (Addr.add _ _).block ≠ _; rw [add_block]; exact Nat.ne_of_lt (Nat.lt_of_lt_of_le (by have := World.block_lt_of_cell? _ _ hw291_1; first | rwa [add_block] at this | exact this) GW294.out)) | (dsimp only; exact Nat.ne_of_lt (Nat.lt_of_lt_of_le (by have := World.block_lt_of_cell? _ _ hw291_1; first | rwa [add_block] at this | exact this) GW294.out))) _).trans (hHeld.2.2.2.1)))), ((cell_far (p := ⟨gb294, _, none⟩) (by first | exact Nat.ne_of_lt (Nat.lt_of_lt_of_le (by have := World.block_lt_of_cell? _ _ hw292_0; first | rwa [add_block] at this | exact this) GW294.out) | (rw [add_block]; exact Nat.ne_of_lt (Nat.lt_of_lt_of_le (by have := World.block_lt_of_cell? _ _ hw292_0; first | rwa [add_block] at this | exact this) GW294.out)) | (show (Addr.add _ _).block ≠ _; rw [add_block]; exact Nat.ne_of_lt (Nat.lt_of_lt_of_le (by have := World.block_lt_of_cell? _ _ hw292_0; first | rwa [add_block] at this | exact this) GW294.out)) | (dsimp only; exact Nat.ne_of_lt (Nat.lt_of_lt_of_le (by have := World.block_lt_of_cell? _ _ hw292_0; first | rwa [add_block] at this | exact this) GW294.out))) _).trans (((cell_far (p := ⟨gb294, _, none⟩) (by first | exact Nat.ne_of_lt (Nat.lt_of_lt_of_le (by have := World.block_lt_of_cell? _ _ hw292_0; first | rwa [add_block] at this | exact this) GW294.out) | (rw [add_block]; exact Nat.ne_of_lt (Nat.lt_of_lt_of_le (by have := World.block_lt_of_cell? _ _ hw292_0; first | rwa [add_block] at this | exact this) GW294.out)) | (show (Addr.add _ _).block ≠ _; rw [add_block]; exact Nat.ne_of_lt (Nat.lt_of_lt_of_le (by have := World.block_lt_of_cell? _ _ hw292_0; first | rwa [add_block] at this | exact this) GW294.out)) | (dsimp only; exact Nat.ne_of_lt (Nat.lt_of_lt_of_le (by have := World.block_lt_of_cell? _ _ hw292_0; first | rwa [add_block] at this | exact this) GW294.out))) _).trans (hHeld.2.2.2.2.1)))), ((cell_far (p := ⟨gb294, _, none⟩) (by first | exact Nat.ne_of_lt (Nat.lt_of_lt_of_le (by have := World.block_lt_of_cell? _ _ hw292_1; first | rwa [add_block] at this | exact this) GW294.out) | (rw [add_block]; exact Nat.ne_of_lt (Nat.lt_of_lt_of_le (by have := World.block_lt_of_cell? _ _ hw292_1; first | rwa [add_block] at this | exact this) GW294.out)) | (show (Addr.add _ _).block ≠ _; rw [add_block]; exact Nat.ne_of_lt (Nat.lt_of_lt_of_le (by have := World.block_lt_of_cell? _ _ hw292_1; first | rwa [add_block] at this | exact this) GW294.out)) | (dsimp only; exact Nat.ne_of_lt (Nat.lt_of_lt_of_le (by have := World.block_lt_of_cell? _ _ hw292_1; first | rwa [add_block] at this | exact this) GW294.out))) _).trans (((cell_far (p := ⟨gb294, _, none⟩) (by first | exact Nat.ne_of_lt (Nat.lt_of_lt_of_le (by have := World.block_lt_of_cell? _ _ hw292_1; first | rwa [add_block] at this | exact this) GW294.out) | (rw [add_block]; exact Nat.ne_of_lt (Nat.lt_of_lt_of_le (by have := World.block_lt_of_cell? _ _ hw292_1; first | rwa [add_block] at this | exact this) GW294.out)) | (show (Addr.add _ _).block ≠ _; rw [add_block]; exact Nat.ne_of_lt (Nat.lt_of_lt_of_le (by have := World.block_lt_of_cell? _ _ hw292_1; first | rwa [add_block] at this | exact this) GW294.out)) | (dsimp only; exact Nat.ne_of_lt (Nat.lt_of_lt_of_le (by have := World.block_lt_of_cell? _ _ hw292_1; first | rwa [add_block] at this | exact this) GW294.out))) _).trans (hHeld.2.2.2.2.2))))⟩ (fun hHeld => ?_)
          clear hK K
          refine one_ (i := 19) (N := none) #[true, true, true, true, true, true, true, true, true, true, true, true, true, true, true, true, true, true, true, true] rfl rfl (one_of HT_.out (by kernel_rfl)) (by decide) (fun K hK => ?_)
          have hs34 : w29.cell? ⟨gb295, 0, none⟩ = some (.int .i64 0) := (blk_cell BK295.out 0).trans rfl
          have hfs34 := blk_frozen BK295.out 0
          have hns34_0 := NB293_295.out
          have hns34_1 := NB294_295.out
          have hms34_0 := NB295_293.out
          have hms34_1 := NB295_294.out
          have hs35 : w29.cell? ⟨gb295, 1, none⟩ = some (.int .i64 0) := (blk_cell BK295.out 1).trans rfl
          have hfs35 := blk_frozen BK295.out 1
          have hns35_0 := NB293_295.out
          have hns35_1 := NB294_295.out
          have hms35_0 := NB295_293.out
          have hms35_1 := NB295_294.out
          refine skip_ (w1 := ?_) (by rfl) rfl ?_ ?_
          rotate_left
          ·
           go_simp
           rfl
          refine hK.out _ _ ⟨((cell_far (p := ⟨gb295, _, none⟩) (by first | exact Nat.ne_of_lt (Nat.lt_of_lt_of_le (by have := World.block_lt_of_cell? _ _ hw290_0; first | rwa [add_block] at this | exact this) GW295.out) | (rw [add_block]; exact Nat.ne_of_lt (Nat.lt_of_lt_of_le (by have := World.block_lt_of_cell? _ _ hw290_0; first | rwa [add_block] at this | exact this) GW295.out)) | (show (Addr.add _ _).block ≠ _; rw [add_block]; exact Nat.ne_of_lt (Nat.lt_of_lt_of_le (by have := World.block_lt_of_cell? _ _ hw290_0; first | rwa [add_block] at this | exact this) GW295.out)) | (dsimp only; exact Nat.ne_of_lt (Nat.lt_of_lt_of_le (by have := World.block_lt_of_cell? _ _ hw290_0; first | rwa [add_block] at this | exact this) GW295.out))) _).trans (((cell_far (p := ⟨gb295, _, none⟩) (by first | exact Nat.ne_of_lt (Nat.lt_of_lt_of_le (by have := World.block_lt_of_cell? _ _ hw290_0; first | rwa [add_block] at this | exact this) GW295.out) | (rw [add_block]; exact Nat.ne_of_lt (Nat.lt_of_lt_of_le (by have := World.block_lt_of_cell? _ _ hw290_0; first | rwa [add_block] at this | exact this) GW295.out)) | (show (Addr.add _ _).block ≠ _; rw [add_block]; exact Nat.ne_of_lt (Nat.lt_of_lt_of_le (by have := World.block_lt_of_cell? _ _ hw290_0; first | rwa [add_block] at this | exact this) GW295.out)) | (dsimp only; exact Nat.ne_of_lt (Nat.lt_of_lt_of_le (by have := World.block_lt_of_cell? _ _ hw290_0; first | rwa [add_block] at this | exact this) GW295.out))) _).trans (hHeld.1)))), ((cell_far (p := ⟨gb295, _, none⟩) (by first | exact Nat.ne_of_lt (Nat.lt_of_lt_of_le (by have := World.block_lt_of_cell? _ _ hw290_1; first | rwa [add_block] at this | exact this) GW295.out) | (rw [add_block]; exact Nat.ne_of_lt (Nat.lt_of_lt_of_le (by have := World.block_lt_of_cell? _ _ hw290_1; first | rwa [add_block] at this | exact this) GW295.out)) | (show (Addr.add _ _).block ≠ _; rw [add_block]; exact Nat.ne_of_lt (Nat.lt_of_lt_of_le (by have := World.block_lt_of_cell? _ _ hw290_1; first | rwa [add_block] at this | exact this) GW295.out)) | (dsimp only; exact Nat.ne_of_lt (Nat.lt_of_lt_of_le (by have := World.block_lt_of_cell? _ _ hw290_1; first | rwa [add_block] at this | exact this) GW295.out))) _).trans (((cell_far (p := ⟨gb295, _, none⟩) (by first | exact Nat.ne_of_lt (Nat.lt_of_lt_of_le (by have := World.block_lt_of_cell? _ _ hw290_1; first | rwa [add_block] at this | exact this) GW295.out) | (rw [add_block]; exact Nat.ne_of_lt (Nat.lt_of_lt_of_le (by have := World.block_lt_of_cell? _ _ hw290_1; first | rwa [add_block] at this | exact this) GW295.out)) | (show (Addr.add _ _).block ≠ _; rw [add_block]; exact Nat.ne_of_lt (Nat.lt_of_lt_of_le (by have := World.block_lt_of_cell? _ _ hw290_1; first | rwa [add_block] at this | exact this) GW295.out)) | (dsimp only; exact Nat.ne_of_lt (Nat.lt_of_lt_of_le (by have := World.block_lt_of_cell? _ _ hw290_1; first | rwa [add_block] at this | exact this) GW295.out))) _).trans (hHeld.2.1)))), ((cell_far (p := ⟨gb295, _, none⟩) (by first | exact Nat.ne_of_lt (Nat.lt_of_lt_of_le (by have := World.block_lt_of_cell? _ _ hw291_0; first | rwa [add_block] at this | exact this) GW295.out) | (rw [add_block]; exact Nat.ne_of_lt (Nat.lt_of_lt_of_le (by have := World.block_lt_of_cell? _ _ hw291_0; first | rwa [add_block] at this | exact this) GW295.out)) | (show (Addr.add _ _).block ≠ _; rw [add_block]; exact Nat.ne_of_lt (Nat.lt_of_lt_of_le (by have := World.block_lt_of_cell? _ _ hw291_0; first | rwa [add_block] at this | exact this) GW295.out)) | (dsimp only; exact Nat.ne_of_lt (Nat.lt_of_lt_of_le (by have := World.block_lt_of_cell? _ _ hw291_0; first | rwa [add_block] at this | exact this) GW295.out))) _).trans (((cell_far (p := ⟨gb295, _, none⟩) (by first | exact Nat.ne_of_lt (Nat.lt_of_lt_of_le (by have := World.block_lt_of_cell? _ _ hw291_0; first | rwa [add_block] at this | exact this) GW295.out) | (rw [add_block]; exact Nat.ne_of_lt (Nat.lt_of_lt_of_le (by have := World.block_lt_of_cell? _ _ hw291_0; first | rwa [add_block] at this | exact this) GW295.out)) | (show (Addr.add _ _).block ≠ _; rw [add_block]; exact Nat.ne_of_lt (Nat.lt_of_lt_of_le (by have := World.block_lt_of_cell? _ _ hw291_0; first | rwa [add_block] at this | exact this) GW295.out)) | (dsimp only; exact Nat.ne_of_lt (Nat.lt_of_lt_of_le (by have := World.block_lt_of_cell? _ _ hw291_0; first | rwa [add_block] at this | exact this) GW295.out))) _).trans (hHeld.2.2.1)))), ((cell_far (p := ⟨gb295, _, none⟩) (by first | exact Nat.ne_of_lt (Nat.lt_of_lt_of_le (by have := World.block_lt_of_cell? _ _ hw291_1; first | rwa [add_block] at this | exact this) GW295.out) | (rw [add_block]; exact Nat.ne_of_lt (Nat.lt_of_lt_of_le (by have := World.block_lt_of_cell? _ _ hw291_1; first | rwa [add_block] at this | exact this) GW295.out)) | (show (Addr.add _ _).block ≠ _; rw [add_block]; exact Nat.ne_of_lt (Nat.lt_of_lt_of_le (by have := World.block_lt_of_cell? _ _ hw291_1; first | rwa [add_block] at this | exact this) GW295.out)) | (dsimp only; exact Nat.ne_of_lt (Nat.lt_of_lt_of_le (by have := World.block_lt_of_cell? _ _ hw291_1; first | rwa [add_block] at this | exact this) GW295.out))) _).trans (((cell_far (p := ⟨gb295, _, none⟩) (by first | exact Nat.ne_of_lt (Nat.lt_of_lt_of_le (by have := World.block_lt_of_cell? _ _ hw291_1; first | rwa [add_block] at this | exact this) GW295.out) | (rw [add_block]; exact Nat.ne_of_lt (Nat.lt_of_lt_of_le (by have := World.block_lt_of_cell? _ _ hw291_1; first | rwa [add_block] at this | exact this) GW295.out)) | (show (Addr.add _ _).block ≠ _; rw [add_block]; exact Nat.ne_of_lt (Nat.lt_of_lt_of_le (by have := World.block_lt_of_cell? _ _ hw291_1; first | rwa [add_block] at this | exact this) GW295.out)) | (dsimp only; exact Nat.ne_of_lt (Nat.lt_of_lt_of_le (by have := World.block_lt_of_cell? _ _ hw291_1; first | rwa [add_block] at this | exact this) GW295.out))) _).trans (hHeld.2.2.2.1)))), ((cell_far (p := ⟨gb295, _, none⟩) (by first | exact Nat.ne_of_lt (Nat.lt_of_lt_of_le (by have := World.block_lt_of_cell? _ _ hw292_0; first | rwa [add_block] at this | exact this) GW295.out) | (rw [add_block]; exact Nat.ne_of_lt (Nat.lt_of_lt_of_le (by have := World.block_lt_of_cell? _ _ hw292_0; first | rwa [add_block] at this | exact this) GW295.out)) | (show (Addr.add _ _).block ≠ _; rw [add_block]; exact Nat.ne_of_lt (Nat.lt_of_lt_of_le (by have := World.block_lt_of_cell? _ _ hw292_0; first | rwa [add_block] at this | exact this) GW295.out)) | (dsimp only; exact Nat.ne_of_lt (Nat.lt_of_lt_of_le (by have := World.block_lt_of_cell? _ _ hw292_0; first | rwa [add_block] at this | exact this) GW295.out))) _).trans (((cell_far (p := ⟨gb295, _, none⟩) (by first | exact Nat.ne_of_lt (Nat.lt_of_lt_of_le (by have := World.block_lt_of_cell? _ _ hw292_0; first | rwa [add_block] at this | exact this) GW295.out) | (rw [add_block]; exact Nat.ne_of_lt (Nat.lt_of_lt_of_le (by have := World.block_lt_of_cell? _ _ hw292_0; first | rwa [add_block] at this | exact this) GW295.out)) | (show (Addr.add _ _).block ≠ _; rw [add_block]; exact Nat.ne_of_lt (Nat.lt_of_lt_of_le (by have := World.block_lt_of_cell? _ _ hw292_0; first | rwa [add_block] at this | exact this) GW295.out)) | (dsimp only; exact Nat.ne_of_lt (Nat.lt_of_lt_of_le (by have := World.block_lt_of_cell? _ _ hw292_0; first | rwa [add_block] at this | exact this) GW295.out))) _).trans (hHeld.2.2.2.2.1)))), ((cell_far (p := ⟨gb295, _, none⟩) (by first | exact Nat.ne_of_lt (Nat.lt_of_lt_of_le (by have := World.block_lt_of_cell? _ _ hw292_1; first | rwa [add_block] at this | exact this) GW295.out) | (rw [add_block]; exact Nat.ne_of_lt (Nat.lt_of_lt_of_le (by have := World.block_lt_of_cell? _ _ hw292_1; first | rwa [add_block] at this | exact this) GW295.out)) | (show (Addr.add _ _).block ≠ _; rw [add_block]; exact Nat.ne_of_lt (Nat.lt_of_lt_of_le (by have := World.block_lt_of_cell? _ _ hw292_1; first | rwa [add_block] at this | exact this) GW295.out)) | (dsimp only; exact Nat.ne_of_lt (Nat.lt_of_lt_of_le (by have := World.block_lt_of_cell? _ _ hw292_1; first | rwa [add_block] at this | exact this) GW295.out))) _).trans (((cell_far (p := ⟨gb295, _, none⟩) (by first | exact Nat.ne_of_lt (Nat.lt_of_lt_of_le (by have := World.block_lt_of_cell? _ _ hw292_1; first | rwa [add_block] at this | exact this) GW295.out) | (rw [add_block]; exact Nat.ne_of_lt (Nat.lt_of_lt_of_le (by have := World.block_lt_of_cell? _ _ hw292_1; first | rwa [add_block] at this | exact this) GW295.out)) | (show (Addr.add _ _).block ≠ _; rw [add_block]; exact Nat.ne_of_lt (Nat.lt_of_lt_of_le (by have := World.block_lt_of_cell? _ _ hw292_1; first | rwa [add_block] at this | exact this) GW295.out)) | (dsimp only; exact Nat.ne_of_lt (Nat.lt_of_lt_of_le (by have := World.block_lt_of_cell? _ _ hw292_1; first | rwa [add_block] at this | exact this) GW295.out))) _).trans (hHeld.2.2.2.2.2))))⟩ (fun hHeld => ?_)
          clear hK K
          refine done_ (done_of HT_.out (by kernel_rfl)) ?_
          try go_wp2
          have n0_ : Aside0 (((((((w29.setCell ⟨gb293, 0, none⟩ (.int .i64 ((rd_T50 l0 (ji15)).f0))).setCell ⟨gb293, 1, none⟩ (.int .i64 ((rd_T50 l0 (ji15)).f1))).setCell ⟨gb294, 0, none⟩ (.int .i64 ((rd_T50 l0 a1).f0))).setCell ⟨gb294, 1, none⟩ (.int .i64 ((rd_T50 l0 a1).f1))).setCell ⟨gb295, 0, none⟩ (.int .i64 ((rd_T50 l0 (ji20)).f0))).setCell ⟨gb295, 1, none⟩ (.int .i64 ((rd_T50 l0 (ji20)).f1))).heap[gb293]? = some (.cells #[.int .i64 ((rd_T50 l0 (ji15)).f0), .int .i64 ((rd_T50 l0 (ji15)).f1)] 50 (0, 0))) := ⟨by (with_reducible repeat (first | refine blk_drewN ?_ _ | refine blk_drew ?_ | refine blk_alloc ?_ _)); refine blk_far ?_ NB293_295.out _; (with_reducible repeat (first | refine blk_drewN ?_ _ | refine blk_drew ?_ | refine blk_alloc ?_ _)); refine blk_far ?_ NB293_295.out _; (with_reducible repeat (first | refine blk_drewN ?_ _ | refine blk_drew ?_ | refine blk_alloc ?_ _)); refine blk_far ?_ NB293_294.out _; (with_reducible repeat (first | refine blk_drewN ?_ _ | refine blk_drew ?_ | refine blk_alloc ?_ _)); refine blk_far ?_ NB293_294.out _; (with_reducible repeat (first | refine blk_drewN ?_ _ | refine blk_drew ?_ | refine blk_alloc ?_ _)); refine blk_put (cs := #[.int .i64 ((rd_T50 l0 (ji15)).f0), .int .i64 0]) ?_ 1 _ rfl; (with_reducible repeat (first | refine blk_drewN ?_ _ | refine blk_drew ?_ | refine blk_alloc ?_ _)); refine blk_put (cs := #[.int .i64 0, .int .i64 0]) ?_ 0 _ rfl; (with_reducible repeat (first | refine blk_drewN ?_ _ | refine blk_drew ?_ | refine blk_alloc ?_ _)); exact BK293.out⟩
          have n1_ : Aside0 (((((((w29.setCell ⟨gb293, 0, none⟩ (.int .i64 ((rd_T50 l0 (ji15)).f0))).setCell ⟨gb293, 1, none⟩ (.int .i64 ((rd_T50 l0 (ji15)).f1))).setCell ⟨gb294, 0, none⟩ (.int .i64 ((rd_T50 l0 a1).f0))).setCell ⟨gb294, 1, none⟩ (.int .i64 ((rd_T50 l0 a1).f1))).setCell ⟨gb295, 0, none⟩ (.int .i64 ((rd_T50 l0 (ji20)).f0))).setCell ⟨gb295, 1, none⟩ (.int .i64 ((rd_T50 l0 (ji20)).f1))).heap[gb294]? = some (.cells #[.int .i64 ((rd_T50 l0 a1).f0), .int .i64 ((rd_T50 l0 a1).f1)] 50 (0, 0))) := ⟨by (with_reducible repeat (first | refine blk_drewN ?_ _ | refine blk_drew ?_ | refine blk_alloc ?_ _)); refine blk_far ?_ NB294_295.out _; (with_reducible repeat (first | refine blk_drewN ?_ _ | refine blk_drew ?_ | refine blk_alloc ?_ _)); refine blk_far ?_ NB294_295.out _; (with_reducible repeat (first | refine blk_drewN ?_ _ | refine blk_drew ?_ | refine blk_alloc ?_ _)); refine blk_put (cs := #[.int .i64 ((rd_T50 l0 a1).f0), .int .i64 0]) ?_ 1 _ rfl; (with_reducible repeat (first | refine blk_drewN ?_ _ | refine blk_drew ?_ | refine blk_alloc ?_ _)); refine blk_put (cs := #[.int .i64 0, .int .i64 0]) ?_ 0 _ rfl; (with_reducible repeat (first | refine blk_drewN ?_ _ | refine blk_drew ?_ | refine blk_alloc ?_ _)); refine blk_far ?_ NB294_293.out _; (with_reducible repeat (first | refine blk_drewN ?_ _ | refine blk_drew ?_ | refine blk_alloc ?_ _)); refine blk_far ?_ NB294_293.out _; (with_reducible repeat (first | refine blk_drewN ?_ _ | refine blk_drew ?_ | refine blk_alloc ?_ _)); exact BK294.out⟩
          have n2_ : Aside0 (((((((w29.setCell ⟨gb293, 0, none⟩ (.int .i64 ((rd_T50 l0 (ji15)).f0))).setCell ⟨gb293, 1, none⟩ (.int .i64 ((rd_T50 l0 (ji15)).f1))).setCell ⟨gb294, 0, none⟩ (.int .i64 ((rd_T50 l0 a1).f0))).setCell ⟨gb294, 1, none⟩ (.int .i64 ((rd_T50 l0 a1).f1))).setCell ⟨gb295, 0, none⟩ (.int .i64 ((rd_T50 l0 (ji20)).f0))).setCell ⟨gb295, 1, none⟩ (.int .i64 ((rd_T50 l0 (ji20)).f1))).heap[gb295]? = some (.cells #[.int .i64 ((rd_T50 l0 (ji20)).f0), .int .i64 ((rd_T50 l0 (ji20)).f1)] 50 (0, 0))) := ⟨by (with_reducible repeat (first | refine blk_drewN ?_ _ | refine blk_drew ?_ | refine blk_alloc ?_ _)); refine blk_put (cs := #[.int .i64 ((rd_T50 l0 (ji20)).f0), .int .i64 0]) ?_ 1 _ rfl; (with_reducible repeat (first | refine blk_drewN ?_ _ | refine blk_drew ?_ | refine blk_alloc ?_ _)); refine blk_put (cs := #[.int .i64 0, .int .i64 0]) ?_ 0 _ rfl; (with_reducible repeat (first | refine blk_drewN ?_ _ | refine blk_drew ?_ | refine blk_alloc ?_ _)); refine blk_far ?_ NB295_294.out _; (with_reducible repeat (first | refine blk_drewN ?_ _ | refine blk_drew ?_ | refine blk_alloc ?_ _)); refine blk_far ?_ NB295_294.out _; (with_reducible repeat (first | refine blk_drewN ?_ _ | refine blk_drew ?_ | refine blk_alloc ?_ _)); refine blk_far ?_ NB295_293.out _; (with_reducible repeat (first | refine blk_drewN ?_ _ | refine blk_drew ?_ | refine blk_alloc ?_ _)); refine blk_far ?_ NB295_293.out _; (with_reducible repeat (first | refine blk_drewN ?_ _ | refine blk_drew ?_ | refine blk_alloc ?_ _)); exact BK295.out⟩
          have n3_ : Aside0 (Below w.heap.size w ((((((w29.setCell ⟨gb293, 0, none⟩ (.int .i64 ((rd_T50 l0 (ji15)).f0))).setCell ⟨gb293, 1, none⟩ (.int .i64 ((rd_T50 l0 (ji15)).f1))).setCell ⟨gb294, 0, none⟩ (.int .i64 ((rd_T50 l0 a1).f0))).setCell ⟨gb294, 1, none⟩ (.int .i64 ((rd_T50 l0 a1).f1))).setCell ⟨gb295, 0, none⟩ (.int .i64 ((rd_T50 l0 (ji20)).f0))).setCell ⟨gb295, 1, none⟩ (.int .i64 ((rd_T50 l0 (ji20)).f1)))) := ⟨by repeat (first | (with_reducible first | exact HB.out | apply below_alloc | apply pw_below_drewN | apply below_drew1 | refine below_set ?_ GE293.out | refine below_set ?_ GE294.out | refine below_set ?_ GE295.out) | exact HB.out)⟩
          (try clear BK293)
          (try clear BK294)
          (try clear BK295)
          (try clear HB)
          generalize ((((((w29.setCell ⟨gb293, 0, none⟩ (.int .i64 ((rd_T50 l0 (ji15)).f0))).setCell ⟨gb293, 1, none⟩ (.int .i64 ((rd_T50 l0 (ji15)).f1))).setCell ⟨gb294, 0, none⟩ (.int .i64 ((rd_T50 l0 a1).f0))).setCell ⟨gb294, 1, none⟩ (.int .i64 ((rd_T50 l0 a1).f1))).setCell ⟨gb295, 0, none⟩ (.int .i64 ((rd_T50 l0 (ji20)).f0))).setCell ⟨gb295, 1, none⟩ (.int .i64 ((rd_T50 l0 (ji20)).f1))) = w36 at n0_ n1_ n2_ n3_ ⊢
          have BK293 := n0_
          have BK294 := n1_
          have BK295 := n2_
          have HB := n3_
          clear n0_ n1_ n2_ n3_
          have n0_ := Aside0.mk (blk_drew BK293.out)
          have n1_ := Aside0.mk (blk_drew BK294.out)
          have n2_ := Aside0.mk (blk_drew BK295.out)
          have n3_ := Aside0.mk (below_drew1 HB.out)
          clear BK293
          clear BK294
          clear BK295
          clear HB
          have BK293 := n0_
          have BK294 := n1_
          have BK295 := n2_
          have HB := n3_
          clear n0_ n1_ n2_ n3_
          refine start_ (n := 24) (S := fun w' => w'.cell? ⟨gb294, 0, none⟩ = some (.int .i64 ((rd_T50 l0 a1).f0)) ∧ w'.cell? ⟨gb294, 1, none⟩ = some (.int .i64 ((rd_T50 l0 a1).f1)) ∧ w'.cell? ⟨gb293, 0, none⟩ = some (.int .i64 ((rd_T50 l0 (ji15)).f0)) ∧ w'.cell? ⟨gb293, 1, none⟩ = some (.int .i64 ((rd_T50 l0 (ji15)).f1)) ∧ w'.cell? ⟨gb295, 0, none⟩ = some (.int .i64 ((rd_T50 l0 (ji20)).f0)) ∧ w'.cell? ⟨gb295, 1, none⟩ = some (.int .i64 ((rd_T50 l0 (ji20)).f1))) (ds := []) #[false, false, false, false, false, false, false, false, false, false, false, false, false, false, false, false, false, false, false, false, false, false, false, false] (by kernel_rfl) rfl rfl ⟨(blk_cell BK294.out 0).trans rfl, (blk_cell BK294.out 1).trans rfl, (blk_cell BK293.out 0).trans rfl, (blk_cell BK293.out 1).trans rfl, (blk_cell BK295.out 0).trans rfl, (blk_cell BK295.out 1).trans rfl⟩ (fun hHeld => ?_); refine with_tabW plenumref03_Useless.tab8 plenumref03_Useless.bits8 (fun HT_ HW_ => ?_)
          generalize w36.drew = w37 at BK293 BK294 BK295 HB hHeld ⊢
          refine pure_ (i := 0) (N := some 53) (v := ?_) (a' := ?_) #[true, false, false, false, false, false, false, false, false, false, false, false, false, false, false, false, false, false, false, false, false, false, false, false] rfl rfl (any_of HT_.out (by kernel_rfl)) (fun _ _ _ h => h) (Or.inl ⟨by rfl, ?_⟩) ?_ ?_
          rotate_left
          ·
           intro w'
           go_simp
           with_reducible rfl
          rotate_left
          ·
           simp only [Act.put, List.setIfInBounds_toArray, List.set_cons_zero, List.set_cons_succ, i64_w, i32_w]
           rfl
          refine pure_ (i := 2) (N := some 55) (v := ?_) (a' := ?_) #[true, false, true, false, false, false, false, false, false, false, false, false, false, false, false, false, false, false, false, false, false, false, false, false] rfl rfl (any_of HT_.out (by kernel_rfl)) (fun _ _ _ h => h) (Or.inl ⟨by rfl, ?_⟩) ?_ ?_
          rotate_left
          ·
           intro w'
           go_simp
           with_reducible rfl
          rotate_left
          ·
           simp only [Act.put, List.setIfInBounds_toArray, List.set_cons_zero, List.set_cons_succ, i64_w, i32_w]
           rfl
          refine pure_ (i := 5) (N := some 58) (v := ?_) (a' := ?_) #[true, false, true, false, false, true, false, false, false, false, false, false, false, false, false, false, false, false, false, false, false, false, false, false] rfl rfl (any_of HT_.out (by kernel_rfl)) (fun _ _ _ h => h) (Or.inl ⟨by rfl, ?_⟩) ?_ ?_
          rotate_left
          ·
           intro w'
           go_simp
           with_reducible rfl
          rotate_left
          ·
           simp only [Act.put, List.setIfInBounds_toArray, List.set_cons_zero, List.set_cons_succ, i64_w, i32_w]
           rfl
          refine pure_ (i := 7) (N := some 60) (v := ?_) (a' := ?_) #[true, false, true, false, false, true, false, true, false, false, false, false, false, false, false, false, false, false, false, false, false, false, false, false] rfl rfl (any_of HT_.out (by kernel_rfl)) (fun _ _ _ h => h) (Or.inl ⟨by rfl, ?_⟩) ?_ ?_
          rotate_left
          ·
           intro w'
           go_simp
           with_reducible rfl
          rotate_left
          ·
           simp only [Act.put, List.setIfInBounds_toArray, List.set_cons_zero, List.set_cons_succ, i64_w, i32_w]
           rfl
          refine pure_ (i := 11) (N := some 64) (v := ?_) (a' := ?_) #[true, false, true, false, false, true, false, true, false, false, false, true, false, false, false, false, false, false, false, false, false, false, false, false] rfl rfl (any_of HT_.out (by kernel_rfl)) (fun _ _ _ h => h) (Or.inl ⟨by rfl, ?_⟩) ?_ ?_
          rotate_left
          ·
           intro w'
           go_simp
           with_reducible rfl
          rotate_left
          ·
           simp only [Act.put, List.setIfInBounds_toArray, List.set_cons_zero, List.set_cons_succ, i64_w, i32_w]
           rfl
          refine pure_ (i := 13) (N := some 66) (v := ?_) (a' := ?_) #[true, false, true, false, false, true, false, true, false, false, false, true, false, true, false, false, false, false, false, false, false, false, false, false] rfl rfl (any_of HT_.out (by kernel_rfl)) (fun _ _ _ h => h) (Or.inl ⟨by rfl, ?_⟩) ?_ ?_
          rotate_left
          ·
           intro w'
           go_simp
           with_reducible rfl
          rotate_left
          ·
           simp only [Act.put, List.setIfInBounds_toArray, List.set_cons_zero, List.set_cons_succ, i64_w, i32_w]
           rfl
          refine pure_ (i := 16) (N := some 69) (v := ?_) (a' := ?_) #[true, false, true, false, false, true, false, true, false, false, false, true, false, true, false, false, true, false, false, false, false, false, false, false] rfl rfl (any_of HT_.out (by kernel_rfl)) (fun _ _ _ h => h) (Or.inl ⟨by rfl, ?_⟩) ?_ ?_
          rotate_left
          ·
           intro w'
           go_simp
           with_reducible rfl
          rotate_left
          ·
           simp only [Act.put, List.setIfInBounds_toArray, List.set_cons_zero, List.set_cons_succ, i64_w, i32_w]
           rfl
          refine pure_ (i := 18) (N := some 71) (v := ?_) (a' := ?_) #[true, false, true, false, false, true, false, true, false, false, false, true, false, true, false, false, true, false, true, false, false, false, false, false] rfl rfl (any_of HT_.out (by kernel_rfl)) (fun _ _ _ h => h) (Or.inl ⟨by rfl, ?_⟩) ?_ ?_
          rotate_left
          ·
           intro w'
           go_simp
           with_reducible rfl
          rotate_left
          ·
           simp only [Act.put, List.setIfInBounds_toArray, List.set_cons_zero, List.set_cons_succ, i64_w, i32_w]
           rfl
          refine take_ (i := 1) (N := some 54) (v := ?_) (a' := ?_) #[true, true, true, false, false, true, false, true, false, false, false, true, false, true, false, false, true, false, true, false, false, false, false, false] rfl rfl (take_ofW HT_.out HW_.out (by kernel_rfl)) (fun _ _ _ h => h) (Or.inl ⟨by rfl, ?_⟩) hHeld ?_ ?_
          rotate_left
          ·
           rintro w' ⟨s0, s1, s2, s3, s4, s5⟩
           go_simp
           with_reducible rfl
          rotate_left
          ·
           simp only [Act.put, List.setIfInBounds_toArray, List.set_cons_zero, List.set_cons_succ, i64_w, i32_w]
           rfl
          refine take_ (i := 3) (N := some 56) (v := ?_) (a' := ?_) #[true, true, true, true, false, true, false, true, false, false, false, true, false, true, false, false, true, false, true, false, false, false, false, false] rfl rfl (take_ofW HT_.out HW_.out (by kernel_rfl)) (fun _ _ _ h => h) (Or.inl ⟨by rfl, ?_⟩) hHeld ?_ ?_
          rotate_left
          ·
           rintro w' ⟨s0, s1, s2, s3, s4, s5⟩
           go_simp
           with_reducible rfl
          rotate_left
          ·
           simp only [Act.put, List.setIfInBounds_toArray, List.set_cons_zero, List.set_cons_succ, i64_w, i32_w]
           rfl
          refine pure_ (i := 4) (N := some 57) (v := ?_) (a' := ?_) #[true, true, true, true, true, true, false, true, false, false, false, true, false, true, false, false, true, false, true, false, false, false, false, false] rfl rfl (any_of HT_.out (by kernel_rfl)) (fun _ _ _ h => h) (Or.inl ⟨by rfl, ?_⟩) ?_ ?_
          rotate_left
          ·
           intro w'
           go_simp
           with_reducible rfl
          rotate_left
          ·
           simp only [Act.put, List.setIfInBounds_toArray, List.set_cons_zero, List.set_cons_succ, i64_w, i32_w]
           rfl
          refine take_ (i := 6) (N := some 59) (v := ?_) (a' := ?_) #[true, true, true, true, true, true, true, true, false, false, false, true, false, true, false, false, true, false, true, false, false, false, false, false] rfl rfl (take_ofW HT_.out HW_.out (by kernel_rfl)) (fun _ _ _ h => h) (Or.inl ⟨by rfl, ?_⟩) hHeld ?_ ?_
          rotate_left
          ·
           rintro w' ⟨s0, s1, s2, s3, s4, s5⟩
           go_simp
           with_reducible rfl
          rotate_left
          ·
           simp only [Act.put, List.setIfInBounds_toArray, List.set_cons_zero, List.set_cons_succ, i64_w, i32_w]
           rfl
          refine take_ (i := 8) (N := some 61) (v := ?_) (a' := ?_) #[true, true, true, true, true, true, true, true, true, false, false, true, false, true, false, false, true, false, true, false, false, false, false, false] rfl rfl (take_ofW HT_.out HW_.out (by kernel_rfl)) (fun _ _ _ h => h) (Or.inl ⟨by rfl, ?_⟩) hHeld ?_ ?_
          rotate_left
          ·
           rintro w' ⟨s0, s1, s2, s3, s4, s5⟩
           go_simp
           with_reducible rfl
          rotate_left
          ·
           simp only [Act.put, List.setIfInBounds_toArray, List.set_cons_zero, List.set_cons_succ, i64_w, i32_w]
           rfl
          refine pure_ (i := 9) (N := some 62) (v := ?_) (a' := ?_) #[true, true, true, true, true, true, true, true, true, true, false, true, false, true, false, false, true, false, true, false, false, false, false, false] rfl rfl (any_of HT_.out (by kernel_rfl)) (fun _ _ _ h => h) (Or.inl ⟨by rfl, ?_⟩) ?_ ?_
          rotate_left
          ·
           intro w'
           go_simp
           with_reducible rfl
          rotate_left
          ·
           simp only [Act.put, List.setIfInBounds_toArray, List.set_cons_zero, List.set_cons_succ, i64_w, i32_w]
           rfl
          refine take_ (i := 12) (N := some 65) (v := ?_) (a' := ?_) #[true, true, true, true, true, true, true, true, true, true, false, true, true, true, false, false, true, false, true, false, false, false, false, false] rfl rfl (take_ofW HT_.out HW_.out (by kernel_rfl)) (fun _ _ _ h => h) (Or.inl ⟨by rfl, ?_⟩) hHeld ?_ ?_
          rotate_left
          ·
           rintro w' ⟨s0, s1, s2, s3, s4, s5⟩
           go_simp
           with_reducible rfl
          rotate_left
          ·
           simp only [Act.put, List.setIfInBounds_toArray, List.set_cons_zero, List.set_cons_succ, i64_w, i32_w]
           rfl
          refine take_ (i := 14) (N := some 67) (v := ?_) (a' := ?_) #[true, true, true, true, true, true, true, true, true, true, false, true, true, true, true, false, true, false, true, false, false, false, false, false] rfl rfl (take_ofW HT_.out HW_.out (by kernel_rfl)) (fun _ _ _ h => h) (Or.inl ⟨by rfl, ?_⟩) hHeld ?_ ?_
          rotate_left
          ·
           rintro w' ⟨s0, s1, s2, s3, s4, s5⟩
           go_simp
           with_reducible rfl
          rotate_left
          ·
           simp only [Act.put, List.setIfInBounds_toArray, List.set_cons_zero, List.set_cons_succ, i64_w, i32_w]
           rfl
          refine pure_ (i := 15) (N := some 68) (v := ?_) (a' := ?_) #[true, true, true, true, true, true, true, true, true, true, false, true, true, true, true, true, true, false, true, false, false, false, false, false] rfl rfl (any_of HT_.out (by kernel_rfl)) (fun _ _ _ h => h) (Or.inl ⟨by rfl, ?_⟩) ?_ ?_
          rotate_left
          ·
           intro w'
           go_simp
           with_reducible rfl
          rotate_left
          ·
           simp only [Act.put, List.setIfInBounds_toArray, List.set_cons_zero, List.set_cons_succ, i64_w, i32_w]
           rfl
          refine take_ (i := 17) (N := some 70) (v := ?_) (a' := ?_) #[true, true, true, true, true, true, true, true, true, true, false, true, true, true, true, true, true, true, true, false, false, false, false, false] rfl rfl (take_ofW HT_.out HW_.out (by kernel_rfl)) (fun _ _ _ h => h) (Or.inl ⟨by rfl, ?_⟩) hHeld ?_ ?_
          rotate_left
          ·
           rintro w' ⟨s0, s1, s2, s3, s4, s5⟩
           go_simp
           with_reducible rfl
          rotate_left
          ·
           simp only [Act.put, List.setIfInBounds_toArray, List.set_cons_zero, List.set_cons_succ, i64_w, i32_w]
           rfl
          refine take_ (i := 19) (N := some 72) (v := ?_) (a' := ?_) #[true, true, true, true, true, true, true, true, true, true, false, true, true, true, true, true, true, true, true, true, false, false, false, false] rfl rfl (take_ofW HT_.out HW_.out (by kernel_rfl)) (fun _ _ _ h => h) (Or.inl ⟨by rfl, ?_⟩) hHeld ?_ ?_
          rotate_left
          ·
           rintro w' ⟨s0, s1, s2, s3, s4, s5⟩
           go_simp
           with_reducible rfl
          rotate_left
          ·
           simp only [Act.put, List.setIfInBounds_toArray, List.set_cons_zero, List.set_cons_succ, i64_w, i32_w]
           rfl
          refine pure_ (i := 20) (N := some 73) (v := ?_) (a' := ?_) #[true, true, true, true, true, true, true, true, true, true, false, true, true, true, true, true, true, true, true, true, true, false, false, false] rfl rfl (any_of HT_.out (by kernel_rfl)) (fun _ _ _ h => h) (Or.inl ⟨by rfl, ?_⟩) ?_ ?_
          rotate_left
          ·
           intro w'
           go_simp
           with_reducible rfl
          rotate_left
          ·
           simp only [Act.put, List.setIfInBounds_toArray, List.set_cons_zero, List.set_cons_succ, i64_w, i32_w]
           rfl
          refine one_ (i := 10) (N := some 63) #[true, true, true, true, true, true, true, true, true, true, true, true, true, true, true, true, true, true, true, true, true, false, false, false] rfl rfl (one_of HT_.out (by kernel_rfl)) (by decide) (fun K hK => ?_)
          refine goes_ Try.func36 (by kernel_rfl) rfl #[.int .i64 (wrap64 (((rd_T50 l0 a1).f0) - ((rd_T50 l0 (ji15)).f0))), .int .i64 (wrap64 (((rd_T50 l0 (ji20)).f1) - ((rd_T50 l0 a1).f1)))] (by rfl) rfl rfl (by (try simp only [List.map_toArray, List.map_cons, List.map_nil]); first | done | (simp only [hji15, hji20]; rfl) | rfl | (simp only [List.length_drop, List.length_take]; rfl)) ?_
          with_reducible refine (plenumref03_Product.calls (wrap64 (((rd_T50 l0 a1).f0) - ((rd_T50 l0 (ji15)).f0))) (wrap64 (((rd_T50 l0 (ji20)).f1) - ((rd_T50 l0 a1).f1))) t296 t297 _ A23.out).mono ?_
          rintro e w38 ⟨rfl, hb⟩
          refine ⟨_, rfl, ?_⟩
          have n0_ := Aside0.mk (blk_below (g := gb293) (o := .cells #[.int .i64 ((rd_T50 l0 (ji15)).f0), .int .i64 ((rd_T50 l0 (ji15)).f1)] 50 (0, 0)) (by (with_reducible repeat (first | refine blk_drewN ?_ _ | refine blk_drew ?_ | refine blk_alloc ?_ _)); exact BK293.out) hb)
          have n1_ := Aside0.mk (blk_below (g := gb294) (o := .cells #[.int .i64 ((rd_T50 l0 a1).f0), .int .i64 ((rd_T50 l0 a1).f1)] 50 (0, 0)) (by (with_reducible repeat (first | refine blk_drewN ?_ _ | refine blk_drew ?_ | refine blk_alloc ?_ _)); exact BK294.out) hb)
          have n2_ := Aside0.mk (blk_below (g := gb295) (o := .cells #[.int .i64 ((rd_T50 l0 (ji20)).f0), .int .i64 ((rd_T50 l0 (ji20)).f1)] 50 (0, 0)) (by (with_reducible repeat (first | refine blk_drewN ?_ _ | refine blk_drew ?_ | refine blk_alloc ?_ _)); exact BK295.out) hb)
          have n3_ := Aside0.mk (below_step (by repeat (first | (with_reducible first | exact HB.out | apply below_alloc | apply pw_below_drewN | apply below_drew1 | refine below_set ?_ GE293.out | refine below_set ?_ GE294.out | refine below_set ?_ GE295.out) | exact HB.out)) hb)
          clear BK293
          clear BK294
          clear BK295
          clear HB
          have BK293 := n0_
          have BK294 := n1_
          have BK295 := n2_
          have HB := n3_
          clear n0_ n1_ n2_ n3_
          (try clear hb)
          (try clear hb2)
          (try clear hk)
          (try clear hi)
          refine hK.out _ _ ⟨(blk_cell BK294.out 0).trans rfl, (blk_cell BK294.out 1).trans rfl, (blk_cell BK293.out 0).trans rfl, (blk_cell BK293.out 1).trans rfl, (blk_cell BK295.out 0).trans rfl, (blk_cell BK295.out 1).trans rfl⟩ (fun hHeld => ?_)
          clear hK K
          refine norm_ (a' := ?_) ?_ ?_
          rotate_left
          ·
           show Act.put _ (some 63) _ = _
           simp only [Act.put, List.setIfInBounds_toArray, List.set_cons_zero, List.set_cons_succ, i64_w, i32_w]
           rfl
          refine one_ (i := 21) (N := some 74) #[true, true, true, true, true, true, true, true, true, true, true, true, true, true, true, true, true, true, true, true, true, true, false, false] rfl rfl (one_of HT_.out (by kernel_rfl)) (by decide) (fun K hK => ?_)
          refine goes_ Try.func36 (by kernel_rfl) rfl #[.int .i64 (wrap64 (((rd_T50 l0 (ji20)).f0) - ((rd_T50 l0 a1).f0))), .int .i64 (wrap64 (((rd_T50 l0 a1).f1) - ((rd_T50 l0 (ji15)).f1)))] (by rfl) rfl rfl (by (try simp only [List.map_toArray, List.map_cons, List.map_nil]); first | done | (simp only [hji15, hji20]; rfl) | rfl | (simp only [List.length_drop, List.length_take]; rfl)) ?_
          with_reducible refine (plenumref03_Product.calls (wrap64 (((rd_T50 l0 (ji20)).f0) - ((rd_T50 l0 a1).f0))) (wrap64 (((rd_T50 l0 a1).f1) - ((rd_T50 l0 (ji15)).f1))) t298 t299 _ A24.out).mono ?_
          rintro e w39 ⟨rfl, hb⟩
          refine ⟨_, rfl, ?_⟩
          have n0_ := Aside0.mk (blk_below (g := gb293) (o := .cells #[.int .i64 ((rd_T50 l0 (ji15)).f0), .int .i64 ((rd_T50 l0 (ji15)).f1)] 50 (0, 0)) (by (with_reducible repeat (first | refine blk_drewN ?_ _ | refine blk_drew ?_ | refine blk_alloc ?_ _)); exact BK293.out) hb)
          have n1_ := Aside0.mk (blk_below (g := gb294) (o := .cells #[.int .i64 ((rd_T50 l0 a1).f0), .int .i64 ((rd_T50 l0 a1).f1)] 50 (0, 0)) (by (with_reducible repeat (first | refine blk_drewN ?_ _ | refine blk_drew ?_ | refine blk_alloc ?_ _)); exact BK294.out) hb)
          have n2_ := Aside0.mk (blk_below (g := gb295) (o := .cells #[.int .i64 ((rd_T50 l0 (ji20)).f0), .int .i64 ((rd_T50 l0 (ji20)).f1)] 50 (0, 0)) (by (with_reducible repeat (first | refine blk_drewN ?_ _ | refine blk_drew ?_ | refine blk_alloc ?_ _)); exact BK295.out) hb)
          have n3_ := Aside0.mk (below_step (by repeat (first | (with_reducible first | exact HB.out | apply below_alloc | apply pw_below_drewN | apply below_drew1 | refine below_set ?_ GE293.out | refine below_set ?_ GE294.out | refine below_set ?_ GE295.out) | exact HB.out)) hb)
          clear BK293
          clear BK294
          clear BK295
          clear HB
          have BK293 := n0_
          have BK294 := n1_
          have BK295 := n2_
          have HB := n3_
          clear n0_ n1_ n2_ n3_
          (try clear hb)
          (try clear hb2)
          (try clear hk)
          (try clear hi)
          refine hK.out _ _ ⟨(blk_cell BK294.out 0).trans rfl, (blk_cell BK294.out 1).trans rfl, (blk_cell BK293.out 0).trans rfl, (blk_cell BK293.out 1).trans rfl, (blk_cell BK295.out 0).trans rfl, (blk_cell BK295.out 1).trans rfl⟩ (fun hHeld => ?_)
          clear hK K
          refine norm_ (a' := ?_) ?_ ?_
          rotate_left
          ·
           show Act.put _ (some 74) _ = _
           simp only [Act.put, List.setIfInBounds_toArray, List.set_cons_zero, List.set_cons_succ, i64_w, i32_w]
           rfl
          refine pure_ (i := 22) (N := some 75) (v := ?_) (a' := ?_) #[true, true, true, true, true, true, true, true, true, true, true, true, true, true, true, true, true, true, true, true, true, true, true, false] rfl rfl (any_of HT_.out (by kernel_rfl)) (fun _ _ _ h => h) (Or.inl ⟨by rfl, ?_⟩) ?_ ?_
          rotate_left
          ·
           intro w'
           go_simp
           with_reducible rfl
          rotate_left
          ·
           simp only [Act.put, List.setIfInBounds_toArray, List.set_cons_zero, List.set_cons_succ, i64_w, i32_w]
           rfl
          refine pure_ (i := 23) (N := some 4) (v := ?_) (a' := ?_) #[true, true, true, true, true, true, true, true, true, true, true, true, true, true, true, true, true, true, true, true, true, true, true, true] rfl rfl (any_of HT_.out (by kernel_rfl)) (fun _ _ _ h => h) (Or.inl ⟨by rfl, ?_⟩) ?_ ?_
          rotate_left
          ·
           intro w'
           go_simp
           with_reducible rfl
          rotate_left
          ·
           simp only [Act.put, List.setIfInBounds_toArray, List.set_cons_zero, List.set_cons_succ, i64_w, i32_w]
           rfl
          refine done_ (done_of HT_.out (by kernel_rfl)) ?_
          try go_wp2
          go_ret
          exact ⟨by first | rfl | (simp [errW_none, errW_some] <;> rfl) | (simp only [← hji15, ← hji20]; first | rfl | (simp [errW_none, errW_some] <;> rfl)) | (simp [*, errW_none, errW_some] <;> rfl), by repeat (first | (with_reducible first | exact HB.out | apply below_alloc | apply pw_below_drewN | apply below_drew1 | refine below_set ?_ GE293.out | refine below_set ?_ GE294.out | refine below_set ?_ GE295.out) | exact HB.out)⟩
         ·
          rw [if_neg c22] at H
          exact absurd H (by simp)
        ·
         rw [if_neg c21] at H
         exact absurd H (by simp)
       ·
        rw [if_neg c19] at H
        exact absurd H (by simp)
      ·
       rw [if_neg c18] at H
       exact absurd H (by simp)
     ·
      rw [if_neg c17] at H
      exact absurd H (by simp)
    ·
     rw [if_neg c16] at H
     exact absurd H (by simp)
end Go.Proofs.Ytacheoimnckghaa.PT
